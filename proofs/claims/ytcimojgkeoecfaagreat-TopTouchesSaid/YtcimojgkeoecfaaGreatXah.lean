import Derived.Test.YtcimojgkeoecfaaGreatProg
import Derived.Test.YtcimojgkeoecfaaGreatXae
import Derived.Test.YtcimojgkeoecfaaGreatXab
set_option linter.all false
set_option maxHeartbeats 16000000
set_option maxRecDepth 100000
namespace Go.Proofs.YtcimojgkeoecfaaGreat
open Go.RowKit Tryz
section
theorem p7{G:Prop}(h:G:=by
 go_wp2_with(go_at_call 104;refine(fq _ _ _ _ (by omega)).mono ?_;rintro e w' ⟨rfl,rfl⟩);go_ret;exact⟨rfl,rfl⟩):G:=h
theorem kq{G:Prop}(h:G:=by
 go_wp2_with(go_at_call 104;refine(bm _ _ _ _ (by omega) (by omega)).mono ?_;rintro e w' ⟨rfl,rfl⟩);go_ret;exact⟨rfl,rfl⟩):G:=h
section
variable(n l h:Int)(w:World)
include n l h w
theorem fM:
 Calls prog 104 #[.int .i64 n,.int .i64 l,.int .i64 h] w fun e w'=>e= .returned (.bool (decide (l<=n)&&decide (n<=h)))/\w=w':=by
 go_enter func104,ntmps104;go_wp2;all_goals(go_ret;exact⟨qx (by simp;try omega),rfl⟩)
theorem bm(h1:l<=n)(aaV:n<=h):
 Calls prog 104 #[.int .i64 n,.int .i64 l,.int .i64 h] w fun e w'=>e= .returned (.bool true)/\w=w':=
 (fM n l h w).mono fun _ _ g=>⟨by rw[g.1];simp[h1,aaV],g.2⟩
theorem fq(h1:n<l\/h<n):
 Calls prog 104 #[.int .i64 n,.int .i64 l,.int .i64 h] w fun e w'=>e= .returned (.bool false)/\w=w':=
 (fM n l h w).mono fun _ _ g=>⟨by rw[g.1];exact qx (by simp;omega),g.2⟩
end
theorem Ey{W aaM:World}(hb:Below W.heap.size W aaM):(∀b o,b<W.heap.size->aaM.cell? ⟨b,o,none⟩=W.cell? ⟨b,o,none⟩)/\(∀b o,b<W.heap.size->aaM.frozen? ⟨b,o,none⟩=W.frozen? ⟨b,o,none⟩):=
 ⟨fun b o h=>hb.cell (p:=⟨b,o,none⟩) h,fun b o h=>hb.frozen (p:=⟨b,o,none⟩) h⟩
end
section
structure eo(w:World)(p g n:Nat)(f:Nat->Int):Prop where
 head:w.heap[p]? =some (.cells #[.slice (some ⟨g,0,none⟩) n n] 360 (0,0))
 row:isRow w g .u8 5 n f
 ne:p≠g
 cE:n<=65536
 fits: ∀i,0<=f i/\f i<=255
theorem eo.slice{w:World}{p g n:Nat}{f:Nat->Int}(h:eo w p g n f):w.cell? ⟨p,0,none⟩=some (.slice (some ⟨g,0,none⟩) n n):=by
 rw[cell_of_row w p 0 _ _ _ h.head];rfl
section
variable(w:World)(p g n:Nat)(f:Nat->Int)(aK:Int)(h:eo w p g n f)
include w p g n f aK h
theorem Ez(YM:0<=aK)(h1:aK+8<=n)(Vy:aK %8=0):
 Calls prog 253 #[.pointer (some ⟨p,0,none⟩),.int .i64 aK] w fun e w'=>e= .returned (.bool true)/\w=w':=by
 have YF:=h.slice;have hm:=h.cE;have hb:(aK %8==0)=true:=by simpa using Vy
 clear Vy h;go_enter func253,ntmps253;exact kq
theorem NZ(abi:aK<0\/n<aK+8\/aK %8≠0):
 Calls prog 253 #[.pointer (some ⟨p,0,none⟩),.int .i64 aK] w fun e w'=>e= .returned (.bool false)/\w=w':=by
 have YF:=h.slice;have hm:=h.cE;clear h;by_cases c:0<=aK/\aK<=(n:Int)-8
 ·have hb:(aK %8==0)=false:=by simp;omega
  clear abi;go_enter func253,ntmps253;exact kq
 ·clear abi;go_enter func253,ntmps253;exact p7
end
def ji(f:Nat->Int)(a:Nat):Nat->Int
 |0=>0
 |k+1=>ji f a k+f (a+k)*256^k
theorem tK(f:Nat->Int)(acA: ∀i,0<=f i/\f i<=255)(a k:Nat):0<=ji f a k/\ji f a k<256^k:=by
 induction k with
 |zero=>simp[ji]
 |succ k aes=>
  have h:=acA (a+k);have aeJ:(0:Int)<256^k:=Int.pow_pos am;have h1:0<=f (a+k)*256^k:=Int.mul_nonneg h.1 J;have aaV:f (a+k)*256^k<=255*256^k:=Int.mul_le_mul_of_nonneg_right h.2 J;rw[ji,Int.pow_succ];omega
def e1(f:Nat->Int)(a:Nat):Int:=ji f a 8
theorem tL(f:Nat->Int)(acA: ∀i,0<=f i/\f i<=255)(a:Nat):aR (e1 f a):=by
 have:=tK f acA a 8;unfold e1 aR;omega
theorem xZ(k:Nat)(ae3:k<=8):(256:Int)^k<=18446744073709551616:=by
 rcases(by omega:k=0\/k=1\/k=2\/k=3\/k=4\/k=5\/k=6\/k=7\/k=8)with rfl|rfl|rfl|rfl|rfl|rfl|rfl|rfl|rfl<;>decide
theorem z6(f:Nat->Int)(acA: ∀i,0<=f i/\f i<=255)(a k:Nat)(ae3:k<8):
 bits .or .u64 (ji f a k) (f (a+k)*256^k)=ji f a (k+1):=by
 have h1:=tK f acA a k;have aaV:=acA (a+k);have hb:=tK f acA a (k+1);have aeJ:(256:Int)^k=2^(8*k):=by rw[Int.pow_mul];rfl
 have aeD:=jn (8*k) (f (a+k)*256^k) (ji f a k);rw[<-aeJ]at aeD;rw[aeD]
 ·rfl
 ·exact Int.mul_nonneg aaV.1 (Int.le_of_lt (Int.pow_pos am))
 ·exact Int.mul_emod_left _ _
 ·have:=xZ (k+1) J;rw[ji]at hb;omega
 ·exact h1.1
 ·exact h1.2
 ·have:=xZ k J;omega
theorem Ce(v:Int)(k:Nat)(hv:0<=v/\v<=255)(ae3:k<8):IntKind.u64.wrap (v*2^(8*(k:Int)).toNat)=v*256^k:=by
 rcases(by omega:k=0\/k=1\/k=2\/k=3\/k=4\/k=5\/k=6\/k=7)with rfl|rfl|rfl|rfl|rfl|rfl|rfl|rfl
 all_goals(simp[IntKind.wrap_u64];omega)
section
variable(w:World)(p g n:Nat)(f:Nat->Int)(aK:Int)(h:eo w p g n f)
include w p g n f aK h
theorem Ij(abi:aK<0\/n<aK+8\/aK %8≠0):
 Calls prog 176 #[.pointer (some ⟨p,0,none⟩),.int .i64 aK] w fun e w'=>e= .returned (.tuple #[.int .u64 0,.int .i64 1])/\w=w':=by
 have H:=I abi;clear abi;go_enter func176,ntmps176;go_wp2_with(go_at_call 253;refine(NZ _ _ _ _ _ _ h H.out).mono ?_;rintro e w' ⟨rfl,rfl⟩);go_ret2;exact⟨rfl,rfl⟩
theorem tu(YM:0<=aK)(h1:aK+8<=n)(Vy:aK %8=0):
 Calls prog 176 #[.pointer (some ⟨p,0,none⟩),.int .i64 aK] w fun e w'=>e= .returned (.tuple #[.int .u64 (e1 f aK.toNat),.int .i64 0])/\w=w':=by
 have YF:=h.slice;have hm:=h.cE;have acA:=I h.fits;have abk:=I h.row;have aga:=I Vy;clear Vy;go_enter func176,ntmps176;go_wp2_with(go_at_call 253;refine(Ez _ _ _ _ _ _ h YM h1 aga.out).mono ?_;rintro e w' ⟨rfl,rfl⟩);go_loop [6,12] (fun x i=> ∃k:Nat,k<=8/\i= .int .i64 k/\x= .int .u64 (ji f aK.toNat k)) (fun _ i=>8-(intOf i).toNat)
 case atStart=>exact⟨0,J,rfl,rfl⟩
 case round=>
  obtain⟨k,ae3,rfl,rfl⟩:=hrel;by_cases bV:k<8
  ·have XP:=(abk.out).cell (aK.toNat+k) J;have aeD:=z6 f acA.out aK.toNat k bV;have hv:=acA.out (aK.toNat+k);obtain⟨v,N0⟩: ∃v:Int,v=f (aK.toNat+k):=⟨_,rfl⟩
   rw[<-N0]at XP aeD hv;clear N0;have Uh:=Ce v k hv bV;rw[show aK.toNat+k=(aK+(k:Int)).toNat from J]at XP;go_wp2_with fail;go_round
   case rel=>exact⟨k+1,J,by go_num,rfl⟩
   case measure=>simp[intOf];omega
  ·obtain rfl:k=8:=by omega
   go_wp2_with fail;go_ret2;exact⟨rfl,rfl⟩
end
def mU(f:Nat->Int)(a:Nat)(x:Int)(k:Nat):Nat->Int:=fun j=>if a<=j/\j<a+k then x/256^(j-a)%256 else f j
section
variable(f:Nat->Int)(a:Nat)(x:Int)
include f a x
theorem z7:mU f a x 0=f:=by
 funext j;unfold mU;rw[aB]
theorem z8(k:Nat):upd (mU f a x k) (a+k) (x/256^k %256)=mU f a x (k+1):=by
 funext j;unfold upd mU;by_cases h:j=a+k
 ·subst h;rw[Z rfl,m3,Nat.add_sub_cancel_left]
 ·rw[Y h];by_cases aaV:a<=j/\j<a+k
  ·rw[Z aaV,m3]
  ·rw[Y aaV,aB]
theorem z9(k:Nat)(acA: ∀i,0<=f i/\f i<=255): ∀i,0<=mU f a x k i/\mU f a x k i<=255:=by
 intro i;unfold mU;split
 ·omega
 ·exact acA i
end
abbrev sO(f:Nat->Int)(a:Nat)(x:Int):Nat->Int:=mU f a x 8
theorem EA(w:World)(p g n:Nat)(f:Nat->Int)(aK x:Int)(h:eo w p g n f)(YM:0<=aK)(h1:aK+8<=n)(Vy:aK %8=0)(Wy:aR x):
 Calls prog 279 #[.pointer (some ⟨p,0,none⟩),.int .i64 aK,.int .u64 x] w fun e w'=>e= .returned (.int .i64 0)/\eo w' p g n (sO f aK.toNat x)/\ce w.heap.size g w w':=by
 have YF:=h.slice;have hm:=h.cE;have abk:=I h.row;have aga:=I Vy;have aan:=I h.head;have Lj:=I h.ne;have abd:=I h.fits;have ih:p<w.heap.size:=(Array.getElem?_eq_some_iff.1 h.head).1;clear Vy;go_enter func279,ntmps279;go_wp2_with(go_at_call 253;refine(Ez _ _ _ _ _ _ h YM h1 aga.out).mono ?_;rintro e w' ⟨rfl,rfl⟩);go_loopw [12] (fun i wr=> ∃k:Nat,k<=8/\i= .int .i64 k/\isRow wr g .u8 5 n (mU f aK.toNat x k)/\ce w.heap.size g w wr) (fun i _=>8-(intOf i).toNat)
 case atStart=>exact⟨0,J,rfl,by rw[z7];exact abk.out,ce.refl _ _ _⟩
 case round=>
  obtain⟨k,ae3,rfl,bT,EB⟩:=hrel;have BG:=I bT;have EC:=I EB;have Ui:wr.cell? ⟨p,0,none⟩=some (.slice (some ⟨g,0,none⟩) n n):=by rw[EB.cell ih Lj.out];exact YF
  clear bT EB;by_cases bV:k<8
  ·have XP:=(BG.out).cell (aK.toNat+k) J;have tc:=(BG.out).free (aK.toNat+k);rw[show aK.toNat+k=(aK+(k:Int)).toNat from J]at XP tc;have T3:(decide ((k:Int)<8))=true:=by simp;omega
   go_wp2_with fail;go_region;go_wp2_with fail;go_roundw
   case rel=>
    refine⟨k+1,J,by go_num,?_,(EC.out.set _ _).drew⟩;have e:=(BG.out.set (aK.toNat+k) (x/256^k %256)).drew;rw[z8]at e;rw[show(aK+(k:Int)).toNat=aK.toNat+k from J,show(2:Int)^(8*k)=256^k from by rw[Int.pow_mul];rfl];exact e
   case measure=>simp[intOf];omega
  ·obtain rfl:k=8:=by omega
   go_wp2_with fail;go_ret;exact⟨rfl,⟨by rw[EC.out.block p ih Lj.out];exact aan.out,BG.out,Lj.out,hm,z9 _ _ _ _ abd.out⟩,EC.out⟩
theorem eo.below{w w':World}{p g n B:Nat}{f:Nat->Int}(h:eo w p g n f)(hb:Below B w w')(aeJ:p<B)(afj:g<B):eo w' p g n f:=
 ⟨by rw[hb.block p aeJ];exact h.head,Below.row hb h.row afj,h.ne,h.cE,h.fits⟩
theorem eo.lf{w w':World}{p g n B c:Nat}{f:Nat->Int}(h:eo w p g n f)(hb:ce B c w w')(aeJ:p<B)(afj:g<B)(a5:p≠c)(wZ:g≠c):eo w' p g n f:=
 ⟨by rw[hb.block p aeJ a5];exact h.head,hb.row h.row afj wZ,h.ne,h.cE,h.fits⟩
theorem Lk(w:World)(p g n:Nat)(f:Nat->Int)(aK old x:Int)(h:eo w p g n f)(YM:0<=aK)(h1:aK+8<=n)(Vy:aK %8=0)(afl:e1 f aK.toNat≠old):
 Calls prog 322 #[.pointer (some ⟨p,0,none⟩),.int .i64 aK,.int .u64 old,.int .u64 x] w fun e w'=>e= .returned (.tuple #[.bool false,.int .i64 0])/\w=w':=by
 have aga:=I Vy;clear Vy;have hb:(e1 f aK.toNat==old)=false:=by simp;exact afl
 go_enter func322,ntmps322;go_wp2_with(go_at_call 176;refine(tu _ _ _ _ _ _ h YM h1 aga.out).mono ?_;rintro e w' ⟨rfl,rfl⟩);go_ret2;exact⟨rfl,rfl⟩
theorem Ll(w:World)(p g n:Nat)(f:Nat->Int)(aK x:Int)(h:eo w p g n f)(YM:0<=aK)(h1:aK+8<=n)(Vy:aK %8=0)(Wy:aR x):
 Calls prog 322 #[.pointer (some ⟨p,0,none⟩),.int .i64 aK,.int .u64 (e1 f aK.toNat),.int .u64 x] w fun e w'=>e= .returned (.tuple #[.bool true,.int .i64 0])/\eo w' p g n (sO f aK.toNat x)/\ce w.heap.size g w w':=by
 have aga:=I Vy;clear Vy;go_enter func322,ntmps322;go_wp2_with(first
  |(go_at_call 176;refine(tu _ _ _ _ _ _ h YM h1 aga.out).mono ?_;rintro e w' ⟨rfl,rfl⟩)
  |(go_at_call 279;refine(EA _ _ _ _ _ _ _ h YM h1 aga.out Wy).mono ?_;rintro e w' ⟨rfl,h',kr⟩))
 go_ret2;exact⟨rfl,h',kr⟩
end
section
theorem iS{G:Prop}(h:G:=by
 go_enter func233,ntmps233;go_wp2_with(first|(go_at_call 104;refine(bm _ _ _ _ (by omega) (by omega)).mono ?_;rintro e w' ⟨rfl,rfl⟩)|(go_at_call 300;refine(Io _ _ (by decide)).mono ?_;rintro e w' ⟨rfl,rfl⟩));go_ret;refine⟨rfl,?_⟩;exact a2):G:=h
abbrev hf(c:g7):Value:=.agg #[.int .i64 c.st,.int .i64 c.Xf,.int .i64 c.YX,.int .i64 c.afB]
theorem Io(n:Int)(w:World)(h:0<=n/\n<=3):
 Calls prog 300 #[.int .i64 n] w fun e w'=>e= .returned (.int .i64 (if n<2 then 0 else n-1))/\w=w':=by
 rcases(by omega:n=0\/n=1\/n=2\/n=3)with rfl|rfl|rfl|rfl
 all_goals
  go_enter func300,ntmps300;go_wp2_with fail;go_ret;exact⟨rfl,rfl⟩
theorem km(c:g7)(w:World)(h:hZ c):
 Calls prog 233 #[hf c] w fun e w'=>e= .returned (.bool true)/\Below w.heap.size w w':=by
 obtain⟨st,Xf,YX,afB⟩:=c;obtain⟨V1,YF,XP,aeJ⟩:=h;simp only at V1 YF XP aeJ;unfold hf;rcases(by omega:st=0\/st=1\/st=2\/st=3)with rfl|rfl|rfl|rfl
 ·obtain rfl:Xf=0:=XP.2 am;obtain rfl:YX= -1:=aeJ.2.2 am;clear XP aeJ;exact iS
 ·obtain rfl:Xf=0:=XP.2 am;obtain rfl:YX= -1:=aeJ.2.2 am;clear XP aeJ;exact iS
 ·have XP:=XP.1 rfl;exact iS
 ·obtain rfl:Xf=0:=XP.2 am;clear XP;exact iS
theorem Cq(x:Int)(h:aR x):bits .and .u64 x 3=x %4:=pM 2 am x h
section
variable(x:Int)(w:World)(Wy:aR x)
include x w Wy
theorem ES:
 Calls prog 312 #[.int .u64 x,.int .i64 0,.int .i64 2] w fun e w'=>e= .returned (.int .i64 (x %4))/\Below w.heap.size w w':=by
 have acW:=Cq x Wy;go_enter func312,ntmps312;go_wp2_with fail;go_quiet (fail);go_wp2_with fail;go_ret;refine⟨lC (by show IntKind.i64.wrap (bits .and .u64 x 3)=_;unfold aR at Wy;rw[acW,gM]<;>omega),?_⟩;exact a2
theorem ET:
 Calls prog 312 #[.int .u64 x,.int .i64 2,.int .i64 8] w fun e w'=>e= .returned (.int .i64 (x/4 %256))/\Below w.heap.size w w':=by
 have acW:=jJ (x/4) (by unfold aR at*;omega);go_enter func312,ntmps312;go_wp2_with fail;go_quiet (fail);go_wp2_with fail;go_ret;refine⟨lC (by show IntKind.i64.wrap (bits .and .u64 (x/4) 255)=_;unfold aR at Wy;rw[acW,gM]<;>omega),?_⟩;exact a2
theorem Cr:
 Calls prog 312 #[.int .u64 x,.int .i64 10,.int .i64 8] w fun e w'=>e= .returned (.int .i64 (x/1024 %256))/\Below w.heap.size w w':=by
 have acW:=jJ (x/1024) (by unfold aR at*;omega);go_enter func312,ntmps312;go_wp2_with fail;go_quiet (fail);go_wp2_with fail;go_ret;refine⟨lC (by show IntKind.i64.wrap (bits .and .u64 (x/1024) 255)=_;unfold aR at Wy;rw[acW,gM]<;>omega),?_⟩;exact a2
theorem Cs:
 Calls prog 312 #[.int .u64 x,.int .i64 18,.int .i64 24] w fun e w'=>e= .returned (.int .i64 (x/262144 %16777216))/\Below w.heap.size w w':=by
 have acW:=qy (x/262144) (by unfold aR at*;omega);go_enter func312,ntmps312;go_wp2_with fail;go_quiet (fail);go_wp2_with fail;go_ret;refine⟨lC (by show IntKind.i64.wrap (bits .and .u64 (x/262144) 16777215)=_;unfold aR at Wy;rw[acW,gM]<;>omega),?_⟩;exact a2
end
theorem nD(c:g7)(w:World)(h:hZ c):
 Calls prog 278 #[hf c] w fun e w'=>e= .returned (.tuple #[.int .u64 (afa c),.int .i64 0])/\Below w.heap.size w w':=by
 have abk:=fun w=>km c w h;obtain⟨st,Xf,YX,afB⟩:=c;obtain⟨V1,YF,XP,aeJ⟩:=h;simp only at V1 YF XP aeJ;unfold hf at*;simp only at abk;have pV:0<=Xf/\Xf<=7:=J;have X3:bits .or .u64 st (Xf*4)=st+Xf*4:=jn 2 _ _ J J J J J J;have aaZ:bits .or .u64 (st+Xf*4) ((YX+1)*1024)=st+Xf*4+(YX+1)*1024:=jn 10 _ _ J J J J J J;have XB:bits .or .u64 (st+Xf*4+(YX+1)*1024) (afB*262144)=st+Xf*4+(YX+1)*1024+afB*262144:=jn 18 _ _ J J J J J J;clear XP;have aeJ:=And.intro aeJ.1 aeJ.2.1;go_enter func278,ntmps278;go_wp2_with fail;refine(abk _).mono ?_;rintro e aaM ⟨rfl,N⟩;have bz:=N.size;(repeat(first|rw[World.size_alloc]at bz|rw[World.size_setCell]at bz|rw[World.size_drew]at bz));have dB:w.heap.size<aaM.heap.size:=J;have dC:=fun o=>N.cell (p:=⟨w.heap.size,o,none⟩) ch;have dD:=fun o=>N.frozen (p:=⟨w.heap.size,o,none⟩) ch;go_wp2_with fail;go_ret2;refine⟨wX (by unfold afa;simp only;omega) rfl,?_⟩;exact a2
theorem gQ(x:Int)(w:World)(h:okW x)(Wy:aR x):
 Calls prog 239 #[.int .u64 x] w fun e w'=>e= .returned (.tuple #[hf (up x),.int .i64 0])/\Below w.heap.size w w':=by
 have abk:=fun w=>km (up x) w h.ok;have Uk:x<4398046511104:=by have:=h.ok.aas;rw[h.eq]at this;omega
 have aeN:(x/4398046511104 !=0)=false:=by unfold aR at Wy;simp;omega
 unfold hf up at*;simp only at abk⊢;clear h;unfold aR at Wy;go_enter func239,ntmps239;go_wp2_with fail;refine(ES _ _ Wy).mono ?_;rintro e aaM ⟨rfl,N⟩;have bz:=N.size;(repeat(first|rw[World.size_alloc]at bz|rw[World.size_setCell]at bz|rw[World.size_drew]at bz));have dB:w.heap.size<aaM.heap.size:=J;have dC:=fun o=>N.cell (p:=⟨w.heap.size,o,none⟩) ch;have dD:=fun o=>N.frozen (p:=⟨w.heap.size,o,none⟩) ch;go_wp2_with fail;refine(ET _ _ Wy).mono ?_;rintro e WW ⟨rfl,be⟩;have c5:=be.size;(repeat(first|rw[World.size_alloc]at c5|rw[World.size_setCell]at c5|rw[World.size_drew]at c5));have yg:w.heap.size<WW.heap.size:=J;have yh:=fun o=>be.cell (p:=⟨w.heap.size,o,none⟩) ch;have yi:=fun o=>be.frozen (p:=⟨w.heap.size,o,none⟩) ch;go_wp2_with fail;refine(Cr _ _ Wy).mono ?_;rintro e w3 ⟨rfl,fB⟩;have ij:=fB.size;(repeat(first|rw[World.size_alloc]at ij|rw[World.size_setCell]at ij|rw[World.size_drew]at ij));have Oa:w.heap.size<w3.heap.size:=J;have Ob:=fun o=>fB.cell (p:=⟨w.heap.size,o,none⟩) ch;have Oc:=fun o=>fB.frozen (p:=⟨w.heap.size,o,none⟩) ch;go_wp2_with fail;refine(Cs _ _ Wy).mono ?_;rintro e acJ ⟨rfl,h3⟩;have lE:=h3.size;(repeat(first|rw[World.size_alloc]at lE|rw[World.size_setCell]at lE|rw[World.size_drew]at lE));have Od:w.heap.size<acJ.heap.size:=J;have Oe:=fun o=>h3.cell (p:=⟨w.heap.size,o,none⟩) ch;have Of:=fun o=>h3.frozen (p:=⟨w.heap.size,o,none⟩) ch;go_wp2_with fail;refine(abk _).mono ?_;rintro e Wo ⟨rfl,j0⟩;have qE:=j0.size;(repeat(first|rw[World.size_alloc]at qE|rw[World.size_setCell]at qE|rw[World.size_drew]at qE));have Og:w.heap.size<Wo.heap.size:=J;have Oh:=fun o=>j0.cell (p:=⟨w.heap.size,o,none⟩) ch;have Oi:=fun o=>j0.frozen (p:=⟨w.heap.size,o,none⟩) ch;have NV:acJ.heap.size<Wo.heap.size:=J;have NW:=fun o=>j0.cell (p:=⟨acJ.heap.size,o,none⟩) ch;have NY:=fun o=>j0.frozen (p:=⟨acJ.heap.size,o,none⟩) ch;go_wp2_with fail;refine aZ (g:=w.heap.size) (t:=56) (fr:=(0,0)) (cs:= #[.int .i64 (x %4),.int .i64 (x/4 %256),.int .i64 (x/1024 %256-1),.int .i64 (x/262144 %16777216)]) results239 ?_ ?_ ?_ underlying56 rfl ?_ ?_;(focus rfl);(focus rfl);(focus(apply Exists.intro;apply And.intro;(focus(repeat(first|(with_reducible exact dL _ _)|((with_reducible apply eg);(focus(first|(simp;done)|omega)))|(with_reducible apply eC)|((with_reducible apply eQ);(focus(first|omega|(simp;done)|(simp;omega))))|((with_reducible apply dA);(focus(with_reducible assumption));(focus(first|omega|(simp;done)|(simp;omega))))|((with_reducible apply cQ);(focus(first|omega|(simp;done)|(simp;omega)))))));(focus rfl)));(focus kernel_rfl);refine⟨rfl,?_⟩;exact a2
end
section
theorem iT{G:Prop}(h:G:=by
 go_enter func287,ntmps287;go_wp2_with fail;refine(abk _).mono ?_;rintro e aaM ⟨rfl,N⟩;have bz:=N.size;(repeat(first|rw[World.size_alloc]at bz|rw[World.size_setCell]at bz|rw[World.size_drew]at bz));have dB:w.heap.size<aaM.heap.size:=(by omega);have dC:=fun o=>N.cell (p:=⟨w.heap.size,o,none⟩) ch;have dD:=fun o=>N.frozen (p:=⟨w.heap.size,o,none⟩) ch;have fQ:w.heap.size+1<aaM.heap.size:=(by omega);have fR:=fun o=>N.cell (p:=⟨w.heap.size+1,o,none⟩) ch;have fS:=fun o=>N.frozen (p:=⟨w.heap.size+1,o,none⟩) ch;go_wp2_with(first|(go_at_call 104;refine(bm _ _ _ _ (by omega) (by omega)).mono ?_;rintro e w' ⟨rfl,rfl⟩));refine aZ (g:=w.heap.size+1) (t:=56) (fr:=(0,0)) (cs:= #[.int .i64 0,.int .i64 0,.int .i64 0,.int .i64 0]) results287 ?_ ?_ ?_ underlying56 rfl ?_ ?_;(focus rfl);(focus rfl);(focus(apply Exists.intro;apply And.intro;(focus(repeat(first|(with_reducible exact dL _ _)|((with_reducible apply eg);(focus(first|(simp;done)|omega)))|(with_reducible apply eC)|((with_reducible apply eQ);(focus(first|omega|(simp;done)|(simp;omega))))|((with_reducible apply dA);(focus(with_reducible assumption));(focus(first|omega|(simp;done)|(simp;omega))))|((with_reducible apply cQ);(focus(first|omega|(simp;done)|(simp;omega)))))));(focus rfl)));(focus kernel_rfl);refine⟨rfl,?_⟩;exact a2):G:=h
theorem EU(c:g7)(k:Int)(w:World)(h:hZ c)(ae3:c.st=k):
 Calls prog 340 #[hf c,.int .i64 k] w fun e w'=>e= .returned (.int .i64 0)/\Below w.heap.size w w':=by
 have abk:=fun w=>km c w h;subst ae3;obtain⟨st,Xf,YX,afB⟩:=c;clear h;unfold hf at*;simp only at abk⊢;go_enter func340,ntmps340;go_wp2_with fail;refine(abk _).mono ?_;rintro e aaM ⟨rfl,N⟩;have bz:=N.size;(repeat(first|rw[World.size_alloc]at bz|rw[World.size_setCell]at bz|rw[World.size_drew]at bz));have dB:w.heap.size<aaM.heap.size:=J;have dC:=fun o=>N.cell (p:=⟨w.heap.size,o,none⟩) ch;have dD:=fun o=>N.frozen (p:=⟨w.heap.size,o,none⟩) ch;go_wp2_with fail;go_ret;refine⟨rfl,?_⟩;exact a2
section
variable(c:g7)(w:World)(h:hZ c)
include c w h
theorem Ct(YF:c.st=2):
 Calls prog 291 #[hf c] w fun e w'=>e= .returned (.tuple #[hf (ic c),.int .i64 0])/\Below w.heap.size w w':=by
 have abk:=fun w=>EU c 2 w h YF;obtain⟨st,Xf,YX,afB⟩:=c;obtain⟨V1,cx,XP,aeJ⟩:=h;simp only at V1 cx XP aeJ YF;subst YF;have XP:=XP.1 rfl;unfold hf ic at*;simp only at abk⊢;clear cx aeJ;by_cases e:Xf=1
 ·subst e;go_enter func291,ntmps291;go_wp2_with fail;refine(abk _).mono ?_;rintro e aaM ⟨rfl,N⟩;have bz:=N.size;(repeat(first|rw[World.size_alloc]at bz|rw[World.size_setCell]at bz|rw[World.size_drew]at bz));have dB:w.heap.size<aaM.heap.size:=J;have dC:=fun o=>N.cell (p:=⟨w.heap.size,o,none⟩) ch;have dD:=fun o=>N.frozen (p:=⟨w.heap.size,o,none⟩) ch;have fQ:w.heap.size+1<aaM.heap.size:=J;have fR:=fun o=>N.cell (p:=⟨w.heap.size+1,o,none⟩) ch;have fS:=fun o=>N.frozen (p:=⟨w.heap.size+1,o,none⟩) ch;go_wp2_with fail;refine aZ (g:=w.heap.size+1) (t:=56) (fr:=(0,0)) (cs:= #[.int .i64 3,.int .i64 0,.int .i64 YX,.int .i64 afB]) results291 ?_ ?_ ?_ underlying56 rfl ?_ ?_;(focus rfl);(focus rfl);(focus(apply Exists.intro;apply And.intro;(focus(repeat(first|(with_reducible exact dL _ _)|((with_reducible apply eg);(focus(first|(simp;done)|omega)))|(with_reducible apply eC)|((with_reducible apply eQ);(focus(first|omega|(simp;done)|(simp;omega))))|((with_reducible apply dA);(focus(with_reducible assumption));(focus(first|omega|(simp;done)|(simp;omega))))|((with_reducible apply cQ);(focus(first|omega|(simp;done)|(simp;omega)))))));(focus rfl)));(focus kernel_rfl);refine⟨rfl,?_⟩;exact a2
 ·rw[Y e];go_enter func291,ntmps291;go_wp2_with fail;refine(abk _).mono ?_;rintro e aaM ⟨rfl,N⟩;have bz:=N.size;(repeat(first|rw[World.size_alloc]at bz|rw[World.size_setCell]at bz|rw[World.size_drew]at bz));have dB:w.heap.size<aaM.heap.size:=J;have dC:=fun o=>N.cell (p:=⟨w.heap.size,o,none⟩) ch;have dD:=fun o=>N.frozen (p:=⟨w.heap.size,o,none⟩) ch;have fQ:w.heap.size+1<aaM.heap.size:=J;have fR:=fun o=>N.cell (p:=⟨w.heap.size+1,o,none⟩) ch;have fS:=fun o=>N.frozen (p:=⟨w.heap.size+1,o,none⟩) ch;go_wp2_with fail;refine aZ (g:=w.heap.size+1) (t:=56) (fr:=(0,0)) (cs:= #[.int .i64 2,.int .i64 (Xf-1),.int .i64 YX,.int .i64 afB]) results291 ?_ ?_ ?_ underlying56 rfl ?_ ?_;(focus rfl);(focus rfl);(focus(apply Exists.intro;apply And.intro;(focus(repeat(first|(with_reducible exact dL _ _)|((with_reducible apply eg);(focus(first|(simp;done)|omega)))|(with_reducible apply eC)|((with_reducible apply eQ);(focus(first|omega|(simp;done)|(simp;omega))))|((with_reducible apply dA);(focus(with_reducible assumption));(focus(first|omega|(simp;done)|(simp;omega))))|((with_reducible apply cQ);(focus(first|omega|(simp;done)|(simp;omega)))))));(focus rfl)));(focus kernel_rfl);refine⟨rfl,?_⟩;exact a2
theorem EV(YF:c.st=3):
 Calls prog 292 #[hf c] w fun e w'=>e= .returned (.tuple #[hf (jX c),.int .i64 0])/\Below w.heap.size w w':=by
 have abk:=fun w=>EU c 3 w h YF;have acW:=vu (c.afB+1);obtain⟨st,Xf,YX,afB⟩:=c;obtain⟨V1,cx,XP,aeJ⟩:=h;simp only at V1 cx XP aeJ YF acW;subst YF;unfold hf jX at*;simp only at abk⊢;clear cx aeJ XP;go_enter func292,ntmps292;go_wp2_with fail;refine(abk _).mono ?_;rintro e aaM ⟨rfl,N⟩;have bz:=N.size;(repeat(first|rw[World.size_alloc]at bz|rw[World.size_setCell]at bz|rw[World.size_drew]at bz));have dB:w.heap.size<aaM.heap.size:=J;have dC:=fun o=>N.cell (p:=⟨w.heap.size,o,none⟩) ch;have dD:=fun o=>N.frozen (p:=⟨w.heap.size,o,none⟩) ch;have fQ:w.heap.size+1<aaM.heap.size:=J;have fR:=fun o=>N.cell (p:=⟨w.heap.size+1,o,none⟩) ch;have fS:=fun o=>N.frozen (p:=⟨w.heap.size+1,o,none⟩) ch;go_wp2_with fail;refine aZ (g:=w.heap.size+1) (t:=56) (fr:=(0,0)) (cs:= #[.int .i64 1,.int .i64 0,.int .i64 (-1),.int .i64 ((afB+1)%16777216)]) results292 ?_ ?_ ?_ underlying56 rfl ?_ ?_;(focus rfl);(focus rfl);(focus(apply Exists.intro;apply And.intro;(focus(repeat(first|(with_reducible exact dL _ _)|((with_reducible apply eg);(focus(first|(simp;done)|omega)))|(with_reducible apply eC)|((with_reducible apply eQ);(focus(first|omega|(simp;done)|(simp;omega))))|((with_reducible apply dA);(focus(with_reducible assumption));(focus(first|omega|(simp;done)|(simp;omega))))|((with_reducible apply cQ);(focus(first|omega|(simp;done)|(simp;omega)))))));(focus rfl)));(focus kernel_rfl);refine⟨rfl,?_⟩;exact a2
theorem EW(YF:c.st=3):
 Calls prog 358 #[hf c] w fun e w'=>e= .returned (.tuple #[hf (mp c),.int .i64 0])/\Below w.heap.size w w':=by
 have abk:=fun w=>EU c 3 w h YF;obtain⟨st,Xf,YX,afB⟩:=c;obtain⟨V1,cx,XP,aeJ⟩:=h;simp only at V1 cx XP aeJ YF;subst YF;unfold hf mp at*;simp only at abk⊢;clear cx aeJ XP;go_enter func358,ntmps358;go_wp2_with fail;refine(abk _).mono ?_;rintro e aaM ⟨rfl,N⟩;have bz:=N.size;(repeat(first|rw[World.size_alloc]at bz|rw[World.size_setCell]at bz|rw[World.size_drew]at bz));have dB:w.heap.size<aaM.heap.size:=J;have dC:=fun o=>N.cell (p:=⟨w.heap.size,o,none⟩) ch;have dD:=fun o=>N.frozen (p:=⟨w.heap.size,o,none⟩) ch;have fQ:w.heap.size+1<aaM.heap.size:=J;have fR:=fun o=>N.cell (p:=⟨w.heap.size+1,o,none⟩) ch;have fS:=fun o=>N.frozen (p:=⟨w.heap.size+1,o,none⟩) ch;go_wp2_with fail;refine aZ (g:=w.heap.size+1) (t:=56) (fr:=(0,0)) (cs:= #[.int .i64 2,.int .i64 1,.int .i64 YX,.int .i64 afB]) results358 ?_ ?_ ?_ underlying56 rfl ?_ ?_;(focus rfl);(focus rfl);(focus(apply Exists.intro;apply And.intro;(focus(repeat(first|(with_reducible exact dL _ _)|((with_reducible apply eg);(focus(first|(simp;done)|omega)))|(with_reducible apply eC)|((with_reducible apply eQ);(focus(first|omega|(simp;done)|(simp;omega))))|((with_reducible apply dA);(focus(with_reducible assumption));(focus(first|omega|(simp;done)|(simp;omega))))|((with_reducible apply cQ);(focus(first|omega|(simp;done)|(simp;omega)))))));(focus rfl)));(focus kernel_rfl);refine⟨rfl,?_⟩;exact a2
end
theorem r7(c:g7)(f:Int)(w:World)(h:hZ c)(acA:0<=f/\f<=7):
 Calls prog 287 #[hf c,.int .i64 f] w fun e w'=>e= .returned (.tuple #[hf (ca c f).1,.int .i64 (ca c f).2])/\Below w.heap.size w w':=by
 have abk:=fun w=>km c w h;obtain⟨st,Xf,YX,afB⟩:=c;obtain⟨V1,cx,XP,aeJ⟩:=h;simp only at V1 cx XP aeJ;have pV:0<=Xf/\Xf<=7:=J;have ua:st=1->Xf=0:=fun e=>XP.2 J;have Ul:=And.intro aeJ.1 aeJ.2.1;clear XP aeJ;unfold hf ca at*;simp only at abk⊢;rcases(by omega:st=0\/st=1\/st=2\/st=3)with rfl|rfl|rfl|rfl
 ·rw[Z rfl];clear ua;exact iT
 ·rw[Y am,Y am,Z rfl];obtain rfl:Xf=0:=ua rfl;clear ua;go_enter func287,ntmps287;go_wp2_with fail;refine(abk _).mono ?_;rintro e aaM ⟨rfl,N⟩;have bz:=N.size;(repeat(first|rw[World.size_alloc]at bz|rw[World.size_setCell]at bz|rw[World.size_drew]at bz));have dB:w.heap.size<aaM.heap.size:=J;have dC:=fun o=>N.cell (p:=⟨w.heap.size,o,none⟩) ch;have dD:=fun o=>N.frozen (p:=⟨w.heap.size,o,none⟩) ch;have fQ:w.heap.size+1<aaM.heap.size:=J;have fR:=fun o=>N.cell (p:=⟨w.heap.size+1,o,none⟩) ch;have fS:=fun o=>N.frozen (p:=⟨w.heap.size+1,o,none⟩) ch;go_wp2_with(first|(go_at_call 104;refine(bm _ _ _ _ J J).mono ?_;rintro e w' ⟨rfl,rfl⟩));refine aZ (g:=w.heap.size+1) (t:=56) (fr:=(0,0)) (cs:= #[.int .i64 2,.int .i64 1,.int .i64 f,.int .i64 afB]) results287 ?_ ?_ ?_ underlying56 rfl ?_ ?_;(focus rfl);(focus rfl);(focus(apply Exists.intro;apply And.intro;(focus(repeat(first|(with_reducible exact dL _ _)|((with_reducible apply eg);(focus(first|(simp;done)|omega)))|(with_reducible apply eC)|((with_reducible apply eQ);(focus(first|omega|(simp;done)|(simp;omega))))|((with_reducible apply dA);(focus(with_reducible assumption));(focus(first|omega|(simp;done)|(simp;omega))))|((with_reducible apply cQ);(focus(first|omega|(simp;done)|(simp;omega)))))));(focus rfl)));(focus kernel_rfl);refine⟨rfl,?_⟩;exact a2
 ·rw[Y am,Y am,Y am];clear ua;by_cases aal:YX=f
  ·subst aal;rw[Y aN];by_cases abF:Xf=7
   ·subst abF;rw[Z rfl];exact iT
   ·rw[Y abF];go_enter func287,ntmps287;go_wp2_with fail;refine(abk _).mono ?_;rintro e aaM ⟨rfl,N⟩;have bz:=N.size;(repeat(first|rw[World.size_alloc]at bz|rw[World.size_setCell]at bz|rw[World.size_drew]at bz));have dB:w.heap.size<aaM.heap.size:=J;have dC:=fun o=>N.cell (p:=⟨w.heap.size,o,none⟩) ch;have dD:=fun o=>N.frozen (p:=⟨w.heap.size,o,none⟩) ch;have fQ:w.heap.size+1<aaM.heap.size:=J;have fR:=fun o=>N.cell (p:=⟨w.heap.size+1,o,none⟩) ch;have fS:=fun o=>N.frozen (p:=⟨w.heap.size+1,o,none⟩) ch;go_wp2_with(first|(go_at_call 104;refine(bm _ _ _ _ J J).mono ?_;rintro e w' ⟨rfl,rfl⟩));refine aZ (g:=w.heap.size+1) (t:=56) (fr:=(0,0)) (cs:= #[.int .i64 2,.int .i64 (Xf+1),.int .i64 YX,.int .i64 afB]) results287 ?_ ?_ ?_ underlying56 rfl ?_ ?_;(focus rfl);(focus rfl);(focus(apply Exists.intro;apply And.intro;(focus(repeat(first|(with_reducible exact dL _ _)|((with_reducible apply eg);(focus(first|(simp;done)|omega)))|(with_reducible apply eC)|((with_reducible apply eQ);(focus(first|omega|(simp;done)|(simp;omega))))|((with_reducible apply dA);(focus(with_reducible assumption));(focus(first|omega|(simp;done)|(simp;omega))))|((with_reducible apply cQ);(focus(first|omega|(simp;done)|(simp;omega)))))));(focus rfl)));(focus kernel_rfl);refine⟨rfl,?_⟩;exact a2
  ·rw[Z aal];exact iT
 ·rw[Y am,Z rfl];clear ua;exact iT
end
section
theorem Fg(a b:Int)(w:World)(Xg:jI a)(hb:jI b)(YF:jI (a+b)):
 Calls prog 317 #[.int .i64 a,.int .i64 b] w fun e w'=>e= .returned (.tuple #[.int .i64 (a+b),.int .i64 0])/\w=w':=by
 have h:(!decide (a<a+b)==decide (0<b))=false:=by
  by_cases h:0<b<;>simp[h]<;>omega
 go_enter func317,ntmps317;go_wp2;all_goals(go_ret2;exact⟨rfl,rfl⟩)
section
variable(n:Int)(w:World)(Xg:0<=n)(hb:n<=9223372036854775800)
include n w Xg hb
theorem tv:
 Calls prog 264 #[.int .i64 n] w fun e w'=>e= .returned (.tuple #[.int .i64 (8*((n+7)/8)),.int .i64 0])/\w=w':=by
 have h:=wY (n+7) J J;go_enter func264,ntmps264;go_wp2_with(go_at_call 317;refine(Fg _ _ _ J J J).mono ?_;rintro e w' ⟨rfl,rfl⟩);go_ret2;exact⟨rfl,rfl⟩
theorem Ay:
 Calls prog 294 #[.int .i64 n] w fun e w'=>e= .returned (.tuple #[.int .i64 ((n+7)/8),.int .i64 0])/\w=w':=by
 go_enter func294,ntmps294;go_wp2_with(go_at_call 264;refine(tv _ _ J J).mono ?_;rintro e w' ⟨rfl,rfl⟩);go_ret2;exact⟨wX J rfl,rfl⟩
end
end
section
theorem nS{G:Prop}(h:G:=by
 go_enter func155,ntmps155;go_wp2_with fail;refine(kJ _ _ _ _ _ ok.out).mono ?_;rintro e aaM ⟨rfl,N⟩;have bz:=N.size;(repeat(first|rw[World.size_alloc]at bz|rw[World.size_setCell]at bz|rw[World.size_drew]at bz));have dB:w.heap.size<aaM.heap.size:=(by omega);have dC:=fun o=>N.cell (p:=⟨w.heap.size,o,none⟩) ch;have dD:=fun o=>N.frozen (p:=⟨w.heap.size,o,none⟩) ch;go_wp2_with(first|(go_at_call 104;refine(bm _ _ _ _ (by omega) (by omega)).mono ?_;rintro e w' ⟨rfl,rfl⟩)|(go_at_call 104;refine(fq _ _ _ _ (by omega)).mono ?_;rintro e w' ⟨rfl,rfl⟩));go_ret2;refine⟨rfl,?_⟩;exact a2):G:=h
theorem hC{G:Prop}(h:G:=by
 go_enter func77,ntmps77;go_wp2_with(first|(go_at_call 104;refine(bm _ _ _ _ (by omega) (by omega)).mono ?_;rintro e w' ⟨rfl,rfl⟩)|(go_at_call 104;refine(fq _ _ _ _ (by omega)).mono ?_;rintro e w' ⟨rfl,rfl⟩));go_ret;refine⟨rfl,?_⟩;exact a2):G:=h
abbrev kf(s t i h:Int):Prop:=(1<=s/\s<=8)/\(1<=t/\t<=4)/\(0<=i/\i<=2048)/\(0<=h/\h<=8192)/\i %8=0/\h %8=0
theorem Sh(i h:Int)(hi:0<=i/\i<=2048)(acu:0<=h/\h<=8192):0<=bits .or .i64 i h/\(bits .or .i64 i h %8=0↔i %8=0/\h %8=0):=by
 obtain⟨rX,rfl⟩:=bn hi.1;obtain⟨K,rfl⟩:=bn acu.1;rw[(bits_nat .i64 63 am gM rX K J J).2];refine⟨J,?_⟩;have e:(rX ||| K)%8=(rX %8)|||(K %8):=Nat.or_mod_two_pow (n:=3);have abF:(rX ||| K)%8=0↔rX %8=0/\K %8=0:=by rw[e,Nat.or_eq_zero_iff]
 omega
section
variable(s t i h:Int)(w:World)
include s t i h w
theorem AF:
 Calls prog 77 #[.agg #[.int .i64 s,.int .i64 t,.int .i64 i,.int .i64 h]] w fun x w'=>x= .returned (.bool (if kf s t i h then true else false))/\Below w.heap.size w w':=by
 by_cases VI:1<=s/\s<=8
 case neg=>
  rw[aB];go_enter func77,ntmps77;go_wp2_with(go_at_call 104;refine(fq _ _ _ _ J).mono ?_;rintro e w' ⟨rfl,rfl⟩);go_ret;refine⟨rfl,?_⟩;exact a2
 by_cases WJ:1<=t/\t<=4
 case neg=>
  rw[aB];exact hC
 by_cases adr:0<=i/\i<=2048
 case neg=>
  rw[aB];exact hC
 by_cases XO:0<=h/\h<=8192
 case neg=>
  rw[aB];exact hC
 obtain⟨Wk,adO⟩:=Sh i h adr XO;by_cases afw:i %8=0/\h %8=0
 case neg=>
  rw[aB];have d:(bits .or .i64 i h %8==0)=false:=by simp;omega
  clear adO afw;exact hC
 rw[m3];have d:(bits .or .i64 i h %8==0)=true:=by simp;omega
 clear adO afw;exact hC
theorem kJ(ok:kf s t i h):
 Calls prog 77 #[.agg #[.int .i64 s,.int .i64 t,.int .i64 i,.int .i64 h]] w fun x w'=>x= .returned (.bool true)/\Below w.heap.size w w':=by
 have:=AF s t i h w;rwa[Z ok]at this
section
variable(ok:Hid (kf s t i h))(YF:1<=s/\s<=8)
include ok YF
theorem jS:
 Calls prog 199 #[.agg #[.int .i64 s,.int .i64 t,.int .i64 i,.int .i64 h]] w fun x w'=>x= .returned (.tuple #[.agg #[.int .i64 (s*64),.int .i64 i],.int .i64 0])/\Below w.heap.size w w':=by
 go_enter func199,ntmps199;go_wp2_with fail;refine(kJ _ _ _ _ _ ok.out).mono ?_;rintro e aaM ⟨rfl,N⟩;have bz:=N.size;(repeat(first|rw[World.size_alloc]at bz|rw[World.size_setCell]at bz|rw[World.size_drew]at bz));have dB:w.heap.size<aaM.heap.size:=J;have dC:=fun o=>N.cell (p:=⟨w.heap.size,o,none⟩) ch;have dD:=fun o=>N.frozen (p:=⟨w.heap.size,o,none⟩) ch;have fQ:w.heap.size+1<aaM.heap.size:=J;have fR:=fun o=>N.cell (p:=⟨w.heap.size+1,o,none⟩) ch;have fS:=fun o=>N.frozen (p:=⟨w.heap.size+1,o,none⟩) ch;go_wp2_with fail;refine bodyPost_ret (v:=.tuple #[.agg #[.int .i64 (s*64),.int .i64 i],.int .i64 0]) (by simp only[results,results199];go_simp) rfl ⟨rfl,?_⟩;exact a2
theorem pR(hi:0<=i/\i<=2048):
 Calls prog 153 #[.agg #[.int .i64 s,.int .i64 t,.int .i64 i,.int .i64 h]] w fun x w'=>x= .returned (.tuple #[.agg #[.int .i64 (s*64+i),.int .i64 h],.int .i64 0])/\Below w.heap.size w w':=by
 go_enter func153,ntmps153;go_wp2_with fail;refine(jS _ _ _ _ _ ok YF).mono ?_;rintro e aaM ⟨rfl,N⟩;have bz:=N.size;(repeat(first|rw[World.size_alloc]at bz|rw[World.size_setCell]at bz|rw[World.size_drew]at bz));have dB:w.heap.size<aaM.heap.size:=J;have dC:=fun o=>N.cell (p:=⟨w.heap.size,o,none⟩) ch;have dD:=fun o=>N.frozen (p:=⟨w.heap.size,o,none⟩) ch;have fQ:w.heap.size+1<aaM.heap.size:=J;have fR:=fun o=>N.cell (p:=⟨w.heap.size+1,o,none⟩) ch;have fS:=fun o=>N.frozen (p:=⟨w.heap.size+1,o,none⟩) ch;go_wp2_with fail;refine bodyPost_ret (v:=.tuple #[.agg #[.int .i64 (s*64+i),.int .i64 h],.int .i64 0]) (by simp only[results,results153];go_simp) rfl ⟨rfl,?_⟩;exact a2
theorem IJ(hi:0<=i/\i<=2048)(acu:0<=h/\h<=8192):
 Calls prog 196 #[.agg #[.int .i64 s,.int .i64 t,.int .i64 i,.int .i64 h]] w fun x w'=>x= .returned (.tuple #[.int .i64 (s*64+i+h),.int .i64 0])/\Below w.heap.size w w':=by
 go_enter func196,ntmps196;go_wp2_with fail;refine(pR _ _ _ _ _ ok YF hi).mono ?_;rintro e aaM ⟨rfl,N⟩;have bz:=N.size;(repeat(first|rw[World.size_alloc]at bz|rw[World.size_setCell]at bz|rw[World.size_drew]at bz));have dB:w.heap.size<aaM.heap.size:=J;have dC:=fun o=>N.cell (p:=⟨w.heap.size,o,none⟩) ch;have dD:=fun o=>N.frozen (p:=⟨w.heap.size,o,none⟩) ch;go_wp2_with fail;go_ret2;refine⟨rfl,?_⟩;exact a2
end
end
section
variable(s t i h p k:Int)(w:World)(ok:Hid (kf s t i h))(YF:1<=s/\s<=8)(aeJ:0<=p/\p<=4)
include s t i h p k w ok YF aeJ
theorem OZ(ae3:k<0\/s<=k):
 Calls prog 155 #[.agg #[.int .i64 s,.int .i64 t,.int .i64 i,.int .i64 h],.int .i64 p,.int .i64 k] w fun x w'=>x= .returned (.tuple #[.int .i64 0,.int .i64 2])/\Below w.heap.size w w':=by
 exact nS
theorem KI(ae3:0<=k/\k<s):
 Calls prog 155 #[.agg #[.int .i64 s,.int .i64 t,.int .i64 i,.int .i64 h],.int .i64 p,.int .i64 k] w fun x w'=>x= .returned (.tuple #[.int .i64 (k*64+p*8),.int .i64 0])/\Below w.heap.size w w':=by
 exact nS
end
theorem Fl(s t i h:Int)(w:World)(YF:1<=s/\s<=8)(hi:0<=i/\i<=2048)(acu:0<=h/\h<=8192):
 Calls prog 53 #[.agg #[.int .i64 s,.int .i64 t,.int .i64 i,.int .i64 h]] w fun x w'=>x= .returned (.int .i64 (s*64+i+h))/\Below w.heap.size w w':=by
 go_enter func53,ntmps53;go_wp2_with fail;go_ret;refine⟨lC J,?_⟩;exact a2
end
theorem kU{G:Prop}(h:G:=by
 go_enter func161,ntmps161;go_wp2_with(first|(go_at_call 104;refine(bm _ _ _ _ (by omega) (by omega)).mono ?_;rintro e w' ⟨rfl,rfl⟩)|(go_at_call 104;refine(fq _ _ _ _ (by omega)).mono ?_;rintro e w' ⟨rfl,rfl⟩));go_ret2;exact⟨rfl,(Below.refl _ _).alloc (ai _) _⟩):G:=h
abbrev jB(s e a:Int):Prop:=0<=s/\s<=7/\0<=e/\e<=16777215/\8<=a/\a<=65528/\a %8=0
theorem zb(s e a:Int)(w:World)(h:jB s e a):
 Calls prog 161 #[.agg #[.int .i64 s,.int .i64 e,.int .i64 a]] w fun x w'=>x= .returned (.tuple #[.int .u64 (a/8+16777216*s+4294967296*e),.int .i64 0])/\Below w.heap.size w w':=by
 obtain⟨h1,aaV,ZV,Ya,afY,XX,adH⟩:=h;have hm:(a %8 !=0)=false:=by simpa using adH
 have X3:bits .or .u64 (a/8) (s*16777216)=a/8+s*16777216:=jn 24 _ _ J J J J J J;have aaZ:bits .or .u64 (a/8+s*16777216) (e*4294967296)=a/8+s*16777216+e*4294967296:=jn 32 _ _ J J J J J J;clear adH;go_enter func161,ntmps161;go_wp2_with(go_at_call 104;refine(bm _ _ _ _ J J).mono ?_;rintro e w' ⟨rfl,rfl⟩);go_ret2;exact⟨wX J rfl,(Below.refl _ _).alloc (ai _) _⟩
theorem zc(s e a:Int)(w:World)(YF:jI s)(V1:jI e)(Xg:jI a)(h: ¬jB s e a):
 Calls prog 161 #[.agg #[.int .i64 s,.int .i64 e,.int .i64 a]] w fun x w'=>x= .returned (.tuple #[.int .u64 0,.int .i64 1])/\Below w.heap.size w w':=by
 by_cases h1:0<=s/\s<=7
 ·by_cases aaV:0<=e/\e<=16777215
  ·by_cases ZV:8<=a/\a<=65528
   ·have hm:(a %8 !=0)=true:=by simp;omega
    clear h;go_enter func161,ntmps161;go_wp2_with(go_at_call 104;refine(bm _ _ _ _ J J).mono ?_;rintro e w' ⟨rfl,rfl⟩);go_ret2;exact⟨rfl,(Below.refl _ _).alloc (ai _) _⟩
   ·clear h;exact kU
  ·clear h;exact kU
 ·clear h;exact kU
def uH(s e a:Int):Int×Int:=if jB s e a then(a/8+16777216*s+4294967296*e,0)else(0,1)
theorem C1(s e a:Int)(w:World)(YF:jI s)(V1:jI e)(Xg:jI a):
 Calls prog 161 #[.agg #[.int .i64 s,.int .i64 e,.int .i64 a]] w fun x w'=>x= .returned (.tuple #[.int .u64 (uH s e a).1,.int .i64 (uH s e a).2])/\Below w.heap.size w w':=by
 unfold uH;by_cases h:jB s e a
 ·rw[Z h];exact zb s e a w h
 ·rw[Y h];exact zc s e a w YF V1 Xg h
abbrev Y5(h:Int):Int:=h/16777216 %256
abbrev adx(h:Int):Int:=h/4294967296
abbrev VH(h:Int):Int:=h %16777216*8
theorem xw(h:Int)(acu:aR h)(ok:jB (Y5 h) (adx h) (VH h)):uH (Y5 h) (adx h) (VH h)=(h,0):=by
 unfold uH;rw[Z ok];unfold jB Y5 adx VH at*;exact dz (·,0) J
theorem A0(h:Int)(w:World)(acu:aR h)(ok:jB (Y5 h) (adx h) (VH h)):
 Calls prog 157 #[.int .u64 h] w fun x w'=>x= .returned (.tuple #[.agg #[.int .i64 (Y5 h),.int .i64 (adx h),.int .i64 (VH h)],.int .i64 0])/\Below w.heap.size w w':=by
 have acW:=qy h acu;have abT:=jJ (h/16777216) J;have aeJ:=xw h acu ok;unfold Y5 adx VH jB at*;obtain⟨adO,acl,VC,adl,YZ,Zg,ae8⟩:=ok;have aa1:=I (dz Prod.fst aeJ);have agb:=I (dz Prod.snd aeJ);clear aeJ ae8;go_enter func157,ntmps157;go_wp2_with fail;refine(C1 _ _ _ _ J J J).mono ?_;rw[aa1.out,agb.out];rintro e aaM ⟨rfl,hb⟩;obtain⟨XP,acA⟩:=Ey hb;have aeN:=hb.size;(try simp at aeN);go_wp2_with fail;have Zh:aaM.cell? ⟨w.heap.size,0,none⟩=some (.int .i64 0):=(by rw[XP _ _ ch];simp[go_sem]);have q1:aaM.cell? ⟨w.heap.size,1,none⟩=some (.int .i64 0):=(by rw[XP _ _ ch];simp[go_sem]);have Xt:aaM.cell? ⟨w.heap.size,2,none⟩=some (.int .i64 0):=(by rw[XP _ _ ch];simp[go_sem])
 refine bodyPost_ret (v:=.tuple #[.agg #[.int .i64 (h/16777216 %256),.int .i64 (h/4294967296),.int .i64 (h %16777216*8)],.int .i64 0]) (by simp[results,results157,go_sem,Zh,q1,Xt]) rfl ⟨rfl,?_⟩;exact a2
theorem A1(h:Int)(w:World)(acu:aR h)(no: ¬jB (Y5 h) (adx h) (VH h)):
 Calls prog 157 #[.int .u64 h] w fun x w'=>x= .returned (.tuple #[.agg #[.int .i64 0,.int .i64 0,.int .i64 0],.int .i64 18])/\Below w.heap.size w w':=by
 have acW:=qy h acu;have abT:=jJ (h/16777216) J;unfold Y5 adx VH at*;have H:=I no;clear no;go_enter func157,ntmps157;go_wp2_with fail;refine(zc _ _ _ _ J J J H.out).mono ?_;rintro e aaM ⟨rfl,hb⟩;obtain⟨XP,acA⟩:=Ey hb;have aeN:=hb.size;(try simp at aeN);go_wp2_with fail;have Zh:aaM.cell? ⟨w.heap.size,0,none⟩=some (.int .i64 0):=(by rw[XP _ _ ch];simp[go_sem]);have q1:aaM.cell? ⟨w.heap.size,1,none⟩=some (.int .i64 0):=(by rw[XP _ _ ch];simp[go_sem]);have Xt:aaM.cell? ⟨w.heap.size,2,none⟩=some (.int .i64 0):=(by rw[XP _ _ ch];simp[go_sem])
 refine bodyPost_ret (v:=.tuple #[.agg #[.int .i64 0,.int .i64 0,.int .i64 0],.int .i64 18]) (by simp[results,results157,go_sem,Zh,q1,Xt]) rfl ⟨rfl,?_⟩;exact a2
section
theorem kV{G:Prop}(h:G:=by
 rw[aB];go_enter func313,ntmps313;go_wp2_with(first|(go_at_call 349;refine(sx _ _ _ (by omega) (by omega) (by omega)).mono ?_;rintro e w' ⟨rfl,rfl⟩)|(go_at_call 349;refine(wC _ _ _ (by omega) (by omega) (by omega)).mono ?_;rintro e w' ⟨rfl,rfl⟩)|(go_at_call 104;refine(bm _ _ _ _ (by omega) (by omega)).mono ?_;rintro e w' ⟨rfl,rfl⟩));go_ret;refine⟨rfl,?_⟩;exact a2):G:=h
abbrev gj(z l g s e:Int):Prop:=(0<=l/\l<=6)/\(2+l<=z/\z<=72)/\(0<=g/\g<=7)/\(0<=s/\s<=7)/\(0<=e/\e<=16777215)
abbrev lz(z l g:Int)(d:Bool)(s e:Int):Value:=.agg #[.int .i64 z,.int .i64 l,.int .i64 g,.bool d,.int .i64 s,.int .i64 e]
theorem sx(n m:Int)(w:World)(h1:0<=n)(aaV:n<m)(ZV:m<=16777216):
 Calls prog 349 #[.int .i64 n,.int .i64 m] w fun x w'=>x= .returned (.bool true)/\w=w':=by
 go_enter func349,ntmps349;exact kq
theorem wC(n m:Int)(w:World)(h1:n<0\/m<=n)(aaV:1<=m)(ZV:m<=16777216):
 Calls prog 349 #[.int .i64 n,.int .i64 m] w fun x w'=>x= .returned (.bool false)/\w=w':=by
 go_enter func349,ntmps349;exact p7
section
variable(z l g:Int)(d:Bool)(s e:Int)(w:World)
include z l g d s e w
theorem s2:
 Calls prog 313 #[lz z l g d s e] w fun x w'=>x= .returned (.bool (if gj z l g s e then true else false))/\Below w.heap.size w w':=by
 unfold lz;by_cases VI:0<=l/\l<=6
 case neg=>
  rw[aB];go_enter func313,ntmps313;go_wp2_with(go_at_call 349;refine(wC _ _ _ J J J).mono ?_;rintro e w' ⟨rfl,rfl⟩);go_ret;refine⟨rfl,?_⟩;exact a2
 by_cases WJ:2+l<=z/\z<=72
 case neg=>
  rw[aB];go_enter func313,ntmps313;go_wp2_with(first|(go_at_call 349;refine(sx _ _ _ J J J).mono ?_;rintro e w' ⟨rfl,rfl⟩)|(go_at_call 104;refine(fq _ _ _ _ J).mono ?_;rintro e w' ⟨rfl,rfl⟩));go_ret;refine⟨rfl,?_⟩;exact a2
 by_cases adr:0<=g/\g<=7
 case neg=>
  exact kV
 by_cases XO:0<=s/\s<=7
 case neg=>
  exact kV
 by_cases afw:0<=e/\e<=16777215
 case neg=>
  exact kV
 rw[m3];go_enter func313,ntmps313;go_wp2_with(first|(go_at_call 349;refine(sx _ _ _ J J J).mono ?_;rintro e w' ⟨rfl,rfl⟩)|(go_at_call 104;refine(bm _ _ _ _ J J).mono ?_;rintro e w' ⟨rfl,rfl⟩));go_ret;refine⟨rfl,?_⟩;exact a2
theorem C2(ok:gj z l g s e):
 Calls prog 313 #[lz z l g d s e] w fun x w'=>x= .returned (.bool true)/\Below w.heap.size w w':=by
 have:=s2 z l g d s e w;rwa[Z ok]at this
theorem C3(no: ¬gj z l g s e):
 Calls prog 313 #[lz z l g d s e] w fun x w'=>x= .returned (.bool false)/\Below w.heap.size w w':=by
 have:=s2 z l g d s e w;rwa[Y no]at this
end
theorem C4(x:Int)(h:aR x)(aaV:x %562949953421312<281474976710656):bits .or .u64 x 281474976710656=x+281474976710656:=by
 obtain⟨dw,rfl⟩:=bn h.1;have Wy:dw<18446744073709551616:=by have:=h.2;omega
 show bits .or .u64 (dw:Int) ((281474976710656:Nat):Int)=_;rw[u64_or_nat dw _ Wy am];have e:dw=2^49*(dw/2^49)+dw %2^49:=(Nat.div_add_mod dw (2^49)).symm;have hb:dw %2^49<2^48:=J;have aal:2^49*(dw/2^49)+dw %2^49=2^49*(dw/2^49)||| dw %2^49:=Nat.two_pow_add_eq_or_of_lt J _;have abF:2^48*1+dw %2^49=2^48*1 ||| dw %2^49:=Nat.two_pow_add_eq_or_of_lt hb 1;have acL:2^49*(dw/2^49)+(2^48*1+dw %2^49)=2^49*(dw/2^49)|||(2^48*1+dw %2^49):=Nat.two_pow_add_eq_or_of_lt J _;have key:dw ||| 281474976710656=dw+281474976710656:=by
  calc dw ||| 281474976710656=(2^49*(dw/2^49)||| dw %2^49)||| 2^48*1:=by rw[<-aal,<-e]
   _=2^49*(dw/2^49)|||(2^48*1 ||| dw %2^49):=by rw[Nat.or_assoc,Nat.or_comm (dw %2^49)]
   _=2^49*(dw/2^49)+(2^48*1+dw %2^49):=by rw[<-abF,<-acL]
   _=dw+281474976710656:=J
 rw[key];rfl
abbrev hF(z l g δ:Int):Int:=z+4294967296*l+1099511627776*g+281474976710656*δ+11889503016258109440
theorem zd{k l m:IntKind}{a b c d e f:Int}(h:a=b)(g:c=d)(i:e=f):Ending.returned (.tuple #[.int k a,.int l c,.int m e])= .returned (.tuple #[.int k b,.int l d,.int m f]):=by rw[h,g,i]
end
end Go.Proofs.YtcimojgkeoecfaaGreat
