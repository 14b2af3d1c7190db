import Derived.Test.YtcimojgkeoecfaaGreatProg
import Derived.Test.YtcimojgkeoecfaaGreatVae
import Derived.Test.YtcimojgkeoecfaaGreatVab
set_option linter.all false
set_option maxHeartbeats 16000000
set_option maxRecDepth 100000
namespace Go.Proofs.YtcimojgkeoecfaaGreat
open Go.RowKit Tryz
section
theorem p7{G:Prop}(h:G:=by
 go_wp2_with(go_at_call 104;refine(fq _ _ _ _ (by omega)).mono ?_;rintro e w' ⟨rfl,rfl⟩);go_ret;exact⟨rfl,rfl⟩):G:=h
theorem kq{G:Prop}(h:G:=by
 go_wp2_with(go_at_call 104;refine(bm _ _ _ _ (by omega) (by omega)).mono ?_;rintro e w' ⟨rfl,rfl⟩);go_ret;exact⟨rfl,rfl⟩):G:=h
section
variable(n l h:Int)(w:World)
include n l h w
theorem fM:
 Calls prog 104 #[.int .i64 n,.int .i64 l,.int .i64 h] w fun e w'=>e= .returned (.bool (decide (l<=n)&&decide (n<=h)))/\w=w':=by
 go_enter func104,ntmps104;go_wp2;all_goals(go_ret;exact⟨qx (by simp;try omega),rfl⟩)
theorem bm(h1:l<=n)(a:n<=h):
 Calls prog 104 #[.int .i64 n,.int .i64 l,.int .i64 h] w fun e w'=>e= .returned (.bool true)/\w=w':=
 (fM n l h w).mono fun _ _ g=>⟨by rw[g.1];simp[h1,a],g.2⟩
theorem fq(h1:n<l\/h<n):
 Calls prog 104 #[.int .i64 n,.int .i64 l,.int .i64 h] w fun e w'=>e= .returned (.bool false)/\w=w':=
 (fM n l h w).mono fun _ _ g=>⟨by rw[g.1];exact qx (by simp;omega),g.2⟩
end
theorem Ey{W a:World}(hb:Below W.heap.size W a):(∀b o,b<W.heap.size->a.cell? ⟨b,o,none⟩=W.cell? ⟨b,o,none⟩)/\(∀b o,b<W.heap.size->a.frozen? ⟨b,o,none⟩=W.frozen? ⟨b,o,none⟩):=
 ⟨fun b o h=>hb.cell (p:=⟨b,o,none⟩) h,fun b o h=>hb.frozen (p:=⟨b,o,none⟩) h⟩
end
section
structure eo(w:World)(p g n:Nat)(f:Nat->Int):Prop where
 head:w.heap[p]? =some (.cells #[.slice (some ⟨g,0,none⟩) n n] 360 (0,0))
 row:isRow w g .u8 5 n f
 ne:p≠g
 cE:n<=65536
 fits: ∀i,0<=f i/\f i<=255
theorem eo.slice{w:World}{p g n:Nat}{f:Nat->Int}(h:eo w p g n f):w.cell? ⟨p,0,none⟩=some (.slice (some ⟨g,0,none⟩) n n):=by
 rw[cell_of_row w p 0 _ _ _ h.head];rfl
section
variable(w:World)(p g n:Nat)(f:Nat->Int)(a:Int)(h:eo w p g n f)
include w p g n f a h
theorem Ez(d:0<=a)(h1:a+8<=n)(b:a %8=0):
 Calls prog 253 #[.pointer (some ⟨p,0,none⟩),.int .i64 a] w fun e w'=>e= .returned (.bool true)/\w=w':=by
 have c:=h.slice;have hm:=h.cE;have hb:(a %8==0)=true:=by simpa using b
 clear b h;go_enter func253,ntmps253;exact kq
theorem NZ(b:a<0\/n<a+8\/a %8≠0):
 Calls prog 253 #[.pointer (some ⟨p,0,none⟩),.int .i64 a] w fun e w'=>e= .returned (.bool false)/\w=w':=by
 have d:=h.slice;have hm:=h.cE;clear h;by_cases c:0<=a/\a<=(n:Int)-8
 ·have hb:(a %8==0)=false:=by simp;omega
  clear b;go_enter func253,ntmps253;exact kq
 ·clear b;go_enter func253,ntmps253;exact p7
end
def ji(f:Nat->Int)(a:Nat):Nat->Int
 |0=>0
 |k+1=>ji f a k+f (a+k)*256^k
theorem tK(f:Nat->Int)(b: ∀i,0<=f i/\f i<=255)(a k:Nat):0<=ji f a k/\ji f a k<256^k:=by
 induction k with
 |zero=>simp[ji]
 |succ k e=>
  have h:=b (a+k);have d:(0:Int)<256^k:=Int.pow_pos am;have h1:0<=f (a+k)*256^k:=Int.mul_nonneg h.1 J;have c:f (a+k)*256^k<=255*256^k:=Int.mul_le_mul_of_nonneg_right h.2 J;rw[ji,Int.pow_succ];omega
def e1(f:Nat->Int)(a:Nat):Int:=ji f a 8
theorem tL(f:Nat->Int)(b: ∀i,0<=f i/\f i<=255)(a:Nat):aR (e1 f a):=by
 have:=tK f b a 8;unfold e1 aR;omega
theorem xZ(k:Nat)(a:k<=8):(256:Int)^k<=18446744073709551616:=by
 rcases(by omega:k=0\/k=1\/k=2\/k=3\/k=4\/k=5\/k=6\/k=7\/k=8)with rfl|rfl|rfl|rfl|rfl|rfl|rfl|rfl|rfl<;>decide
theorem ad8(f:Nat->Int)(b: ∀i,0<=f i/\f i<=255)(a k:Nat)(g:k<8):
 bits .or .u64 (ji f a k) (f (a+k)*256^k)=ji f a (k+1):=by
 have h1:=tK f b a k;have d:=b (a+k);have hb:=tK f b a (k+1);have e:(256:Int)^k=2^(8*k):=by rw[Int.pow_mul];rfl
 have c:=jn (8*k) (f (a+k)*256^k) (ji f a k);rw[<-e]at c;rw[c]
 ·rfl
 ·exact Int.mul_nonneg d.1 (Int.le_of_lt (Int.pow_pos am))
 ·exact Int.mul_emod_left _ _
 ·have:=xZ (k+1) J;rw[ji]at hb;omega
 ·exact h1.1
 ·exact h1.2
 ·have:=xZ k J;omega
theorem Ce(v:Int)(k:Nat)(hv:0<=v/\v<=255)(a:k<8):IntKind.u64.wrap (v*2^(8*(k:Int)).toNat)=v*256^k:=by
 rcases(by omega:k=0\/k=1\/k=2\/k=3\/k=4\/k=5\/k=6\/k=7)with rfl|rfl|rfl|rfl|rfl|rfl|rfl|rfl
 all_goals(simp[IntKind.wrap_u64];omega)
section
variable(w:World)(p g n:Nat)(f:Nat->Int)(a:Int)(h:eo w p g n f)
include w p g n f a h
theorem Ij(b:a<0\/n<a+8\/a %8≠0):
 Calls prog 176 #[.pointer (some ⟨p,0,none⟩),.int .i64 a] w fun e w'=>e= .returned (.tuple #[.int .u64 0,.int .i64 1])/\w=w':=by
 have H:=I b;clear b;go_enter func176,ntmps176;go_wp2_with(go_at_call 253;refine(NZ _ _ _ _ _ _ h H.out).mono ?_;rintro e w' ⟨rfl,rfl⟩);go_ret2;exact⟨rfl,rfl⟩
theorem tu(r:0<=a)(h1:a+8<=n)(m:a %8=0):
 Calls prog 176 #[.pointer (some ⟨p,0,none⟩),.int .i64 a] w fun e w'=>e= .returned (.tuple #[.int .u64 (e1 f a.toNat),.int .i64 0])/\w=w':=by
 have u:=h.slice;have hm:=h.cE;have b:=I h.fits;have c:=I h.row;have j:=I m;clear m;go_enter func176,ntmps176;go_wp2_with(go_at_call 253;refine(Ez _ _ _ _ _ _ h r h1 j.out).mono ?_;rintro e w' ⟨rfl,rfl⟩);go_loop [6,12] (fun x i=> ∃k:Nat,k<=8/\i= .int .i64 k/\x= .int .u64 (ji f a.toNat k)) (fun _ i=>8-(intOf i).toNat)
 case atStart=>exact⟨0,J,rfl,rfl⟩
 case round=>
  obtain⟨k,s,rfl,rfl⟩:=hrel;by_cases q:k<8
  ·have o:=(c.out).cell (a.toNat+k) J;have d:=ad8 f b.out a.toNat k q;have hv:=b.out (a.toNat+k);obtain⟨v,l⟩: ∃v:Int,v=f (a.toNat+k):=⟨_,rfl⟩
   rw[<-l]at o d hv;clear l;have t:=Ce v k hv q;rw[show a.toNat+k=(a+(k:Int)).toNat from J]at o;go_wp2_with fail;go_round
   case rel=>exact⟨k+1,J,by go_num,rfl⟩
   case measure=>simp[intOf];omega
  ·obtain rfl:k=8:=by omega
   go_wp2_with fail;go_ret2;exact⟨rfl,rfl⟩
end
def mU(f:Nat->Int)(a:Nat)(x:Int)(k:Nat):Nat->Int:=fun j=>if a<=j/\j<a+k then x/256^(j-a)%256 else f j
section
variable(f:Nat->Int)(a:Nat)(x:Int)
include f a x
theorem adB:mU f a x 0=f:=by
 funext j;unfold mU;rw[aB]
theorem adC(k:Nat):upd (mU f a x k) (a+k) (x/256^k %256)=mU f a x (k+1):=by
 funext j;unfold upd mU;by_cases h:j=a+k
 ·subst h;rw[Z rfl,m3,Nat.add_sub_cancel_left]
 ·rw[Y h];by_cases b:a<=j/\j<a+k
  ·rw[Z b,m3]
  ·rw[Y b,aB]
theorem adD(k:Nat)(b: ∀i,0<=f i/\f i<=255): ∀i,0<=mU f a x k i/\mU f a x k i<=255:=by
 intro i;unfold mU;split
 ·omega
 ·exact b i
end
abbrev sO(f:Nat->Int)(a:Nat)(x:Int):Nat->Int:=mU f a x 8
theorem EA(w:World)(p g n:Nat)(f:Nat->Int)(a x:Int)(h:eo w p g n f)(y:0<=a)(h1:a+8<=n)(r:a %8=0)(F:aR x):
 Calls prog 279 #[.pointer (some ⟨p,0,none⟩),.int .i64 a,.int .u64 x] w fun e w'=>e= .returned (.int .i64 0)/\eo w' p g n (sO f a.toNat x)/\ce w.heap.size g w w':=by
 have v:=h.slice;have hm:=h.cE;have o:=I h.row;have q:=I r;have l:=I h.head;have j:=I h.ne;have m:=I h.fits;have t:p<w.heap.size:=(Array.getElem?_eq_some_iff.1 h.head).1;clear r;go_enter func279,ntmps279;go_wp2_with(go_at_call 253;refine(Ez _ _ _ _ _ _ h y h1 q.out).mono ?_;rintro e w' ⟨rfl,rfl⟩);go_loopw [12] (fun i wr=> ∃k:Nat,k<=8/\i= .int .i64 k/\isRow wr g .u8 5 n (mU f a.toNat x k)/\ce w.heap.size g w wr) (fun i _=>8-(intOf i).toNat)
 case atStart=>exact⟨0,J,rfl,by rw[adB];exact o.out,ce.refl _ _ _⟩
 case round=>
  obtain⟨k,A,rfl,s,c⟩:=hrel;have b:=I s;have d:=I c;have C:wr.cell? ⟨p,0,none⟩=some (.slice (some ⟨g,0,none⟩) n n):=by rw[c.cell t j.out];exact v
  clear s c;by_cases G:k<8
  ·have u:=(b.out).cell (a.toNat+k) J;have z:=(b.out).free (a.toNat+k);rw[show a.toNat+k=(a+(k:Int)).toNat from J]at u z;have B:(decide ((k:Int)<8))=true:=by simp;omega
   go_wp2_with fail;go_region;go_wp2_with fail;go_roundw
   case rel=>
    refine⟨k+1,J,by go_num,?_,(d.out.set _ _).drew⟩;have e:=(b.out.set (a.toNat+k) (x/256^k %256)).drew;rw[adC]at e;rw[show(a+(k:Int)).toNat=a.toNat+k from J,show(2:Int)^(8*k)=256^k from by rw[Int.pow_mul];rfl];exact e
   case measure=>simp[intOf];omega
  ·obtain rfl:k=8:=by omega
   go_wp2_with fail;go_ret;exact⟨rfl,⟨by rw[d.out.block p t j.out];exact l.out,b.out,j.out,hm,adD _ _ _ _ m.out⟩,d.out⟩
theorem eo.below{w w':World}{p g n B:Nat}{f:Nat->Int}(h:eo w p g n f)(hb:Below B w w')(a:p<B)(b:g<B):eo w' p g n f:=
 ⟨by rw[hb.block p a];exact h.head,Below.row hb h.row b,h.ne,h.cE,h.fits⟩
theorem eo.lf{w w':World}{p g n B c:Nat}{f:Nat->Int}(h:eo w p g n f)(hb:ce B c w w')(a:p<B)(b:g<B)(d:p≠c)(e:g≠c):eo w' p g n f:=
 ⟨by rw[hb.block p a d];exact h.head,hb.row h.row b e,h.ne,h.cE,h.fits⟩
theorem Lk(w:World)(p g n:Nat)(f:Nat->Int)(a old x:Int)(h:eo w p g n f)(i:0<=a)(h1:a+8<=n)(d:a %8=0)(b:e1 f a.toNat≠old):
 Calls prog 322 #[.pointer (some ⟨p,0,none⟩),.int .i64 a,.int .u64 old,.int .u64 x] w fun e w'=>e= .returned (.tuple #[.bool false,.int .i64 0])/\w=w':=by
 have c:=I d;clear d;have hb:(e1 f a.toNat==old)=false:=by simp;exact b
 go_enter func322,ntmps322;go_wp2_with(go_at_call 176;refine(tu _ _ _ _ _ _ h i h1 c.out).mono ?_;rintro e w' ⟨rfl,rfl⟩);go_ret2;exact⟨rfl,rfl⟩
theorem Ll(w:World)(p g n:Nat)(f:Nat->Int)(a x:Int)(h:eo w p g n f)(d:0<=a)(h1:a+8<=n)(c:a %8=0)(i:aR x):
 Calls prog 322 #[.pointer (some ⟨p,0,none⟩),.int .i64 a,.int .u64 (e1 f a.toNat),.int .u64 x] w fun e w'=>e= .returned (.tuple #[.bool true,.int .i64 0])/\eo w' p g n (sO f a.toNat x)/\ce w.heap.size g w w':=by
 have b:=I c;clear c;go_enter func322,ntmps322;go_wp2_with(first
  |(go_at_call 176;refine(tu _ _ _ _ _ _ h d h1 b.out).mono ?_;rintro e w' ⟨rfl,rfl⟩)
  |(go_at_call 279;refine(EA _ _ _ _ _ _ _ h d h1 b.out i).mono ?_;rintro e w' ⟨rfl,h',j⟩))
 go_ret2;exact⟨rfl,h',j⟩
end
section
theorem iS{G:Prop}(h:G:=by
 go_enter func233,ntmps233;go_wp2_with(first|(go_at_call 104;refine(bm _ _ _ _ (by omega) (by omega)).mono ?_;rintro e w' ⟨rfl,rfl⟩)|(go_at_call 300;refine(Io _ _ (by decide)).mono ?_;rintro e w' ⟨rfl,rfl⟩));go_ret;refine⟨rfl,?_⟩;exact a2):G:=h
abbrev hf(c:g7):Value:=.agg #[.int .i64 c.st,.int .i64 c.Xf,.int .i64 c.YX,.int .i64 c.T5]
theorem Io(n:Int)(w:World)(h:0<=n/\n<=3):
 Calls prog 300 #[.int .i64 n] w fun e w'=>e= .returned (.int .i64 (if n<2 then 0 else n-1))/\w=w':=by
 rcases(by omega:n=0\/n=1\/n=2\/n=3)with rfl|rfl|rfl|rfl
 all_goals
  go_enter func300,ntmps300;go_wp2_with fail;go_ret;exact⟨rfl,rfl⟩
theorem km(c:g7)(w:World)(h:hZ c):
 Calls prog 233 #[hf c] w fun e w'=>e= .returned (.bool true)/\Below w.heap.size w w':=by
 obtain⟨st,d,f,j⟩:=c;obtain⟨g,i,b,a⟩:=h;simp only at g i b a;unfold hf;rcases(by omega:st=0\/st=1\/st=2\/st=3)with rfl|rfl|rfl|rfl
 ·obtain rfl:d=0:=b.2 am;obtain rfl:f= -1:=a.2.2 am;clear b a;exact iS
 ·obtain rfl:d=0:=b.2 am;obtain rfl:f= -1:=a.2.2 am;clear b a;exact iS
 ·have b:=b.1 rfl;exact iS
 ·obtain rfl:d=0:=b.2 am;clear b;exact iS
theorem Cq(x:Int)(h:aR x):bits .and .u64 x 3=x %4:=pM 2 am x h
section
variable(x:Int)(w:World)(a:aR x)
include x w a
theorem ES:
 Calls prog 312 #[.int .u64 x,.int .i64 0,.int .i64 2] w fun e w'=>e= .returned (.int .i64 (x %4))/\Below w.heap.size w w':=by
 have b:=Cq x a;go_enter func312,ntmps312;go_wp2_with fail;go_quiet (fail);go_wp2_with fail;go_ret;refine⟨lC (by show IntKind.i64.wrap (bits .and .u64 x 3)=_;unfold aR at a;rw[b,gM]<;>omega),?_⟩;exact a2
theorem ET:
 Calls prog 312 #[.int .u64 x,.int .i64 2,.int .i64 8] w fun e w'=>e= .returned (.int .i64 (x/4 %256))/\Below w.heap.size w w':=by
 have b:=jJ (x/4) (by unfold aR at*;omega);go_enter func312,ntmps312;go_wp2_with fail;go_quiet (fail);go_wp2_with fail;go_ret;refine⟨lC (by show IntKind.i64.wrap (bits .and .u64 (x/4) 255)=_;unfold aR at a;rw[b,gM]<;>omega),?_⟩;exact a2
theorem Cr:
 Calls prog 312 #[.int .u64 x,.int .i64 10,.int .i64 8] w fun e w'=>e= .returned (.int .i64 (x/1024 %256))/\Below w.heap.size w w':=by
 have b:=jJ (x/1024) (by unfold aR at*;omega);go_enter func312,ntmps312;go_wp2_with fail;go_quiet (fail);go_wp2_with fail;go_ret;refine⟨lC (by show IntKind.i64.wrap (bits .and .u64 (x/1024) 255)=_;unfold aR at a;rw[b,gM]<;>omega),?_⟩;exact a2
theorem Cs:
 Calls prog 312 #[.int .u64 x,.int .i64 18,.int .i64 24] w fun e w'=>e= .returned (.int .i64 (x/262144 %16777216))/\Below w.heap.size w w':=by
 have b:=qy (x/262144) (by unfold aR at*;omega);go_enter func312,ntmps312;go_wp2_with fail;go_quiet (fail);go_wp2_with fail;go_ret;refine⟨lC (by show IntKind.i64.wrap (bits .and .u64 (x/262144) 16777215)=_;unfold aR at a;rw[b,gM]<;>omega),?_⟩;exact a2
end
theorem nD(c:g7)(w:World)(h:hZ c):
 Calls prog 278 #[hf c] w fun e w'=>e= .returned (.tuple #[.int .u64 (TK c),.int .i64 0])/\Below w.heap.size w w':=by
 have d:=fun w=>km c w h;obtain⟨st,b,g,f⟩:=c;obtain⟨l,m,k,a⟩:=h;simp only at l m k a;unfold hf at*;simp only at d;have v:0<=b/\b<=7:=J;have q:bits .or .u64 st (b*4)=st+b*4:=jn 2 _ _ J J J J J J;have n:bits .or .u64 (st+b*4) ((g+1)*1024)=st+b*4+(g+1)*1024:=jn 10 _ _ J J J J J J;have r:bits .or .u64 (st+b*4+(g+1)*1024) (f*262144)=st+b*4+(g+1)*1024+f*262144:=jn 18 _ _ J J J J J J;clear k;have a:=And.intro a.1 a.2.1;go_enter func278,ntmps278;go_wp2_with fail;refine(d _).mono ?_;rintro e j ⟨rfl,N⟩;have i:=N.size;(repeat(first|rw[World.size_alloc]at i|rw[World.size_setCell]at i|rw[World.size_drew]at i));have s:w.heap.size<j.heap.size:=J;have t:=fun o=>N.cell (p:=⟨w.heap.size,o,none⟩) ch;have u:=fun o=>N.frozen (p:=⟨w.heap.size,o,none⟩) ch;go_wp2_with fail;go_ret2;refine⟨wX (by unfold TK;simp only;omega) rfl,?_⟩;exact a2
theorem gQ(x:Int)(w:World)(h:okW x)(b:aR x):
 Calls prog 239 #[.int .u64 x] w fun e w'=>e= .returned (.tuple #[hf (up x),.int .i64 0])/\Below w.heap.size w w':=by
 have d:=fun w=>km (up x) w h.ok;have P:x<4398046511104:=by have:=h.ok.UK;rw[h.eq]at this;omega
 have v:(x/4398046511104 !=0)=false:=by unfold aR at b;simp;omega
 unfold hf up at*;simp only at d⊢;clear h;unfold aR at b;go_enter func239,ntmps239;go_wp2_with fail;refine(ES _ _ b).mono ?_;rintro e r ⟨rfl,N⟩;have i:=N.size;(repeat(first|rw[World.size_alloc]at i|rw[World.size_setCell]at i|rw[World.size_drew]at i));have Q:w.heap.size<r.heap.size:=J;have R:=fun o=>N.cell (p:=⟨w.heap.size,o,none⟩) ch;have S:=fun o=>N.frozen (p:=⟨w.heap.size,o,none⟩) ch;go_wp2_with fail;refine(ET _ _ b).mono ?_;rintro e u ⟨rfl,f⟩;have j:=f.size;(repeat(first|rw[World.size_alloc]at j|rw[World.size_setCell]at j|rw[World.size_drew]at j));have T:w.heap.size<u.heap.size:=J;have U:=fun o=>f.cell (p:=⟨w.heap.size,o,none⟩) ch;have V:=fun o=>f.frozen (p:=⟨w.heap.size,o,none⟩) ch;go_wp2_with fail;refine(Cr _ _ b).mono ?_;rintro e w3 ⟨rfl,k⟩;have m:=k.size;(repeat(first|rw[World.size_alloc]at m|rw[World.size_setCell]at m|rw[World.size_drew]at m));have B:w.heap.size<w3.heap.size:=J;have C:=fun o=>k.cell (p:=⟨w.heap.size,o,none⟩) ch;have F:=fun o=>k.frozen (p:=⟨w.heap.size,o,none⟩) ch;go_wp2_with fail;refine(Cs _ _ b).mono ?_;rintro e a ⟨rfl,l⟩;have n:=l.size;(repeat(first|rw[World.size_alloc]at n|rw[World.size_setCell]at n|rw[World.size_drew]at n));have G:w.heap.size<a.heap.size:=J;have H:=fun o=>l.cell (p:=⟨w.heap.size,o,none⟩) ch;have K:=fun o=>l.frozen (p:=⟨w.heap.size,o,none⟩) ch;go_wp2_with fail;refine(d _).mono ?_;rintro e s ⟨rfl,c⟩;have q:=c.size;(repeat(first|rw[World.size_alloc]at q|rw[World.size_setCell]at q|rw[World.size_drew]at q));have L:w.heap.size<s.heap.size:=J;have M:=fun o=>c.cell (p:=⟨w.heap.size,o,none⟩) ch;have O:=fun o=>c.frozen (p:=⟨w.heap.size,o,none⟩) ch;have y:a.heap.size<s.heap.size:=J;have z:=fun o=>c.cell (p:=⟨a.heap.size,o,none⟩) ch;have A:=fun o=>c.frozen (p:=⟨a.heap.size,o,none⟩) ch;go_wp2_with fail;refine aZ (g:=w.heap.size) (t:=56) (fr:=(0,0)) (cs:= #[.int .i64 (x %4),.int .i64 (x/4 %256),.int .i64 (x/1024 %256-1),.int .i64 (x/262144 %16777216)]) results239 ?_ ?_ ?_ underlying56 rfl ?_ ?_;(focus rfl);(focus rfl);(focus(apply Exists.intro;apply And.intro;(focus(repeat(first|(with_reducible exact dL _ _)|((with_reducible apply eg);(focus(first|(simp;done)|omega)))|(with_reducible apply eC)|((with_reducible apply eQ);(focus(first|omega|(simp;done)|(simp;omega))))|((with_reducible apply dA);(focus(with_reducible assumption));(focus(first|omega|(simp;done)|(simp;omega))))|((with_reducible apply cQ);(focus(first|omega|(simp;done)|(simp;omega)))))));(focus rfl)));(focus kernel_rfl);refine⟨rfl,?_⟩;exact a2
end
section
theorem iT{G:Prop}(h:G:=by
 go_enter func287,ntmps287;go_wp2_with fail;refine(UD _).mono ?_;rintro e EH ⟨rfl,N⟩;have bz:=N.size;(repeat(first|rw[World.size_alloc]at bz|rw[World.size_setCell]at bz|rw[World.size_drew]at bz));have dB:w.heap.size<EH.heap.size:=(by omega);have dC:=fun o=>N.cell (p:=⟨w.heap.size,o,none⟩) ch;have dD:=fun o=>N.frozen (p:=⟨w.heap.size,o,none⟩) ch;have fQ:w.heap.size+1<EH.heap.size:=(by omega);have fR:=fun o=>N.cell (p:=⟨w.heap.size+1,o,none⟩) ch;have fS:=fun o=>N.frozen (p:=⟨w.heap.size+1,o,none⟩) ch;go_wp2_with(first|(go_at_call 104;refine(bm _ _ _ _ (by omega) (by omega)).mono ?_;rintro e w' ⟨rfl,rfl⟩));refine aZ (g:=w.heap.size+1) (t:=56) (fr:=(0,0)) (cs:= #[.int .i64 0,.int .i64 0,.int .i64 0,.int .i64 0]) results287 ?_ ?_ ?_ underlying56 rfl ?_ ?_;(focus rfl);(focus rfl);(focus(apply Exists.intro;apply And.intro;(focus(repeat(first|(with_reducible exact dL _ _)|((with_reducible apply eg);(focus(first|(simp;done)|omega)))|(with_reducible apply eC)|((with_reducible apply eQ);(focus(first|omega|(simp;done)|(simp;omega))))|((with_reducible apply dA);(focus(with_reducible assumption));(focus(first|omega|(simp;done)|(simp;omega))))|((with_reducible apply cQ);(focus(first|omega|(simp;done)|(simp;omega)))))));(focus rfl)));(focus kernel_rfl);refine⟨rfl,?_⟩;exact a2):G:=h
theorem EU(c:g7)(k:Int)(w:World)(h:hZ c)(f:c.st=k):
 Calls prog 340 #[hf c,.int .i64 k] w fun e w'=>e= .returned (.int .i64 0)/\Below w.heap.size w w':=by
 have a:=fun w=>km c w h;subst f;obtain⟨st,i,j,g⟩:=c;clear h;unfold hf at*;simp only at a⊢;go_enter func340,ntmps340;go_wp2_with fail;refine(a _).mono ?_;rintro e d ⟨rfl,N⟩;have b:=N.size;(repeat(first|rw[World.size_alloc]at b|rw[World.size_setCell]at b|rw[World.size_drew]at b));have l:w.heap.size<d.heap.size:=J;have m:=fun o=>N.cell (p:=⟨w.heap.size,o,none⟩) ch;have n:=fun o=>N.frozen (p:=⟨w.heap.size,o,none⟩) ch;go_wp2_with fail;go_ret;refine⟨rfl,?_⟩;exact a2
section
variable(c:g7)(w:World)(h:hZ c)
include c w h
theorem Ct(k:c.st=2):
 Calls prog 291 #[hf c] w fun e w'=>e= .returned (.tuple #[hf (ic c),.int .i64 0])/\Below w.heap.size w w':=by
 have d:=fun w=>EU c 2 w h k;obtain⟨st,l,m,i⟩:=c;obtain⟨q,n,j,f⟩:=h;simp only at q n j f k;subst k;have j:=j.1 rfl;unfold hf ic at*;simp only at d⊢;clear n f;by_cases e:l=1
 ·subst e;go_enter func291,ntmps291;go_wp2_with fail;refine(d _).mono ?_;rintro e a ⟨rfl,N⟩;have b:=N.size;(repeat(first|rw[World.size_alloc]at b|rw[World.size_setCell]at b|rw[World.size_drew]at b));have r:w.heap.size<a.heap.size:=J;have s:=fun o=>N.cell (p:=⟨w.heap.size,o,none⟩) ch;have u:=fun o=>N.frozen (p:=⟨w.heap.size,o,none⟩) ch;have v:w.heap.size+1<a.heap.size:=J;have x:=fun o=>N.cell (p:=⟨w.heap.size+1,o,none⟩) ch;have y:=fun o=>N.frozen (p:=⟨w.heap.size+1,o,none⟩) ch;go_wp2_with fail;refine aZ (g:=w.heap.size+1) (t:=56) (fr:=(0,0)) (cs:= #[.int .i64 3,.int .i64 0,.int .i64 m,.int .i64 i]) results291 ?_ ?_ ?_ underlying56 rfl ?_ ?_;(focus rfl);(focus rfl);(focus(apply Exists.intro;apply And.intro;(focus(repeat(first|(with_reducible exact dL _ _)|((with_reducible apply eg);(focus(first|(simp;done)|omega)))|(with_reducible apply eC)|((with_reducible apply eQ);(focus(first|omega|(simp;done)|(simp;omega))))|((with_reducible apply dA);(focus(with_reducible assumption));(focus(first|omega|(simp;done)|(simp;omega))))|((with_reducible apply cQ);(focus(first|omega|(simp;done)|(simp;omega)))))));(focus rfl)));(focus kernel_rfl);refine⟨rfl,?_⟩;exact a2
 ·rw[Y e];go_enter func291,ntmps291;go_wp2_with fail;refine(d _).mono ?_;rintro e a ⟨rfl,N⟩;have b:=N.size;(repeat(first|rw[World.size_alloc]at b|rw[World.size_setCell]at b|rw[World.size_drew]at b));have r:w.heap.size<a.heap.size:=J;have s:=fun o=>N.cell (p:=⟨w.heap.size,o,none⟩) ch;have u:=fun o=>N.frozen (p:=⟨w.heap.size,o,none⟩) ch;have v:w.heap.size+1<a.heap.size:=J;have x:=fun o=>N.cell (p:=⟨w.heap.size+1,o,none⟩) ch;have y:=fun o=>N.frozen (p:=⟨w.heap.size+1,o,none⟩) ch;go_wp2_with fail;refine aZ (g:=w.heap.size+1) (t:=56) (fr:=(0,0)) (cs:= #[.int .i64 2,.int .i64 (l-1),.int .i64 m,.int .i64 i]) results291 ?_ ?_ ?_ underlying56 rfl ?_ ?_;(focus rfl);(focus rfl);(focus(apply Exists.intro;apply And.intro;(focus(repeat(first|(with_reducible exact dL _ _)|((with_reducible apply eg);(focus(first|(simp;done)|omega)))|(with_reducible apply eC)|((with_reducible apply eQ);(focus(first|omega|(simp;done)|(simp;omega))))|((with_reducible apply dA);(focus(with_reducible assumption));(focus(first|omega|(simp;done)|(simp;omega))))|((with_reducible apply cQ);(focus(first|omega|(simp;done)|(simp;omega)))))));(focus rfl)));(focus kernel_rfl);refine⟨rfl,?_⟩;exact a2
theorem EV(f:c.st=3):
 Calls prog 292 #[hf c] w fun e w'=>e= .returned (.tuple #[hf (jX c),.int .i64 0])/\Below w.heap.size w w':=by
 have b:=fun w=>EU c 3 w h f;have j:=abw (c.T5+1);obtain⟨st,q,r,k⟩:=c;obtain⟨n,m,l,d⟩:=h;simp only at n m l d f j;subst f;unfold hf jX at*;simp only at b⊢;clear m d l;go_enter func292,ntmps292;go_wp2_with fail;refine(b _).mono ?_;rintro e a ⟨rfl,N⟩;have i:=N.size;(repeat(first|rw[World.size_alloc]at i|rw[World.size_setCell]at i|rw[World.size_drew]at i));have s:w.heap.size<a.heap.size:=J;have u:=fun o=>N.cell (p:=⟨w.heap.size,o,none⟩) ch;have v:=fun o=>N.frozen (p:=⟨w.heap.size,o,none⟩) ch;have x:w.heap.size+1<a.heap.size:=J;have y:=fun o=>N.cell (p:=⟨w.heap.size+1,o,none⟩) ch;have z:=fun o=>N.frozen (p:=⟨w.heap.size+1,o,none⟩) ch;go_wp2_with fail;refine aZ (g:=w.heap.size+1) (t:=56) (fr:=(0,0)) (cs:= #[.int .i64 1,.int .i64 0,.int .i64 (-1),.int .i64 ((k+1)%16777216)]) results292 ?_ ?_ ?_ underlying56 rfl ?_ ?_;(focus rfl);(focus rfl);(focus(apply Exists.intro;apply And.intro;(focus(repeat(first|(with_reducible exact dL _ _)|((with_reducible apply eg);(focus(first|(simp;done)|omega)))|(with_reducible apply eC)|((with_reducible apply eQ);(focus(first|omega|(simp;done)|(simp;omega))))|((with_reducible apply dA);(focus(with_reducible assumption));(focus(first|omega|(simp;done)|(simp;omega))))|((with_reducible apply cQ);(focus(first|omega|(simp;done)|(simp;omega)))))));(focus rfl)));(focus kernel_rfl);refine⟨rfl,?_⟩;exact a2
theorem EW(f:c.st=3):
 Calls prog 358 #[hf c] w fun e w'=>e= .returned (.tuple #[hf (mp c),.int .i64 0])/\Below w.heap.size w w':=by
 have b:=fun w=>EU c 3 w h f;obtain⟨st,q,n,j⟩:=c;obtain⟨m,l,k,d⟩:=h;simp only at m l k d f;subst f;unfold hf mp at*;simp only at b⊢;clear l d k;go_enter func358,ntmps358;go_wp2_with fail;refine(b _).mono ?_;rintro e a ⟨rfl,N⟩;have i:=N.size;(repeat(first|rw[World.size_alloc]at i|rw[World.size_setCell]at i|rw[World.size_drew]at i));have r:w.heap.size<a.heap.size:=J;have s:=fun o=>N.cell (p:=⟨w.heap.size,o,none⟩) ch;have u:=fun o=>N.frozen (p:=⟨w.heap.size,o,none⟩) ch;have v:w.heap.size+1<a.heap.size:=J;have x:=fun o=>N.cell (p:=⟨w.heap.size+1,o,none⟩) ch;have y:=fun o=>N.frozen (p:=⟨w.heap.size+1,o,none⟩) ch;go_wp2_with fail;refine aZ (g:=w.heap.size+1) (t:=56) (fr:=(0,0)) (cs:= #[.int .i64 2,.int .i64 1,.int .i64 n,.int .i64 j]) results358 ?_ ?_ ?_ underlying56 rfl ?_ ?_;(focus rfl);(focus rfl);(focus(apply Exists.intro;apply And.intro;(focus(repeat(first|(with_reducible exact dL _ _)|((with_reducible apply eg);(focus(first|(simp;done)|omega)))|(with_reducible apply eC)|((with_reducible apply eQ);(focus(first|omega|(simp;done)|(simp;omega))))|((with_reducible apply dA);(focus(with_reducible assumption));(focus(first|omega|(simp;done)|(simp;omega))))|((with_reducible apply cQ);(focus(first|omega|(simp;done)|(simp;omega)))))));(focus rfl)));(focus kernel_rfl);refine⟨rfl,?_⟩;exact a2
end
theorem r7(c:g7)(f:Int)(w:World)(h:hZ c)(r:0<=f/\f<=7):
 Calls prog 287 #[hf c,.int .i64 f] w fun e w'=>e= .returned (.tuple #[hf (ca c f).1,.int .i64 (ca c f).2])/\Below w.heap.size w w':=by
 have UD:=fun w=>km c w h;obtain⟨st,b,m,k⟩:=c;obtain⟨n,q,l,a⟩:=h;simp only at n q l a;have u:0<=b/\b<=7:=J;have d:st=1->b=0:=fun e=>l.2 J;have s:=And.intro a.1 a.2.1;clear l a;unfold hf ca at*;simp only at UD⊢;rcases(by omega:st=0\/st=1\/st=2\/st=3)with rfl|rfl|rfl|rfl
 ·rw[Z rfl];clear d;exact iT
 ·rw[Y am,Y am,Z rfl];obtain rfl:b=0:=d rfl;clear d;go_enter func287,ntmps287;go_wp2_with fail;refine(UD _).mono ?_;rintro e EH ⟨rfl,N⟩;have bz:=N.size;(repeat(first|rw[World.size_alloc]at bz|rw[World.size_setCell]at bz|rw[World.size_drew]at bz));have dB:w.heap.size<EH.heap.size:=J;have dC:=fun o=>N.cell (p:=⟨w.heap.size,o,none⟩) ch;have dD:=fun o=>N.frozen (p:=⟨w.heap.size,o,none⟩) ch;have fQ:w.heap.size+1<EH.heap.size:=J;have fR:=fun o=>N.cell (p:=⟨w.heap.size+1,o,none⟩) ch;have fS:=fun o=>N.frozen (p:=⟨w.heap.size+1,o,none⟩) ch;go_wp2_with(first|(go_at_call 104;refine(bm _ _ _ _ J J).mono ?_;rintro e w' ⟨rfl,rfl⟩));refine aZ (g:=w.heap.size+1) (t:=56) (fr:=(0,0)) (cs:= #[.int .i64 2,.int .i64 1,.int .i64 f,.int .i64 k]) results287 ?_ ?_ ?_ underlying56 rfl ?_ ?_;(focus rfl);(focus rfl);(focus(apply Exists.intro;apply And.intro;(focus(repeat(first|(with_reducible exact dL _ _)|((with_reducible apply eg);(focus(first|(simp;done)|omega)))|(with_reducible apply eC)|((with_reducible apply eQ);(focus(first|omega|(simp;done)|(simp;omega))))|((with_reducible apply dA);(focus(with_reducible assumption));(focus(first|omega|(simp;done)|(simp;omega))))|((with_reducible apply cQ);(focus(first|omega|(simp;done)|(simp;omega)))))));(focus rfl)));(focus kernel_rfl);refine⟨rfl,?_⟩;exact a2
 ·rw[Y am,Y am,Y am];clear d;by_cases i:m=f
  ·subst i;rw[Y aN];by_cases j:b=7
   ·subst j;rw[Z rfl];exact iT
   ·rw[Y j];go_enter func287,ntmps287;go_wp2_with fail;refine(UD _).mono ?_;rintro e EH ⟨rfl,N⟩;have bz:=N.size;(repeat(first|rw[World.size_alloc]at bz|rw[World.size_setCell]at bz|rw[World.size_drew]at bz));have dB:w.heap.size<EH.heap.size:=J;have dC:=fun o=>N.cell (p:=⟨w.heap.size,o,none⟩) ch;have dD:=fun o=>N.frozen (p:=⟨w.heap.size,o,none⟩) ch;have fQ:w.heap.size+1<EH.heap.size:=J;have fR:=fun o=>N.cell (p:=⟨w.heap.size+1,o,none⟩) ch;have fS:=fun o=>N.frozen (p:=⟨w.heap.size+1,o,none⟩) ch;go_wp2_with(first|(go_at_call 104;refine(bm _ _ _ _ J J).mono ?_;rintro e w' ⟨rfl,rfl⟩));refine aZ (g:=w.heap.size+1) (t:=56) (fr:=(0,0)) (cs:= #[.int .i64 2,.int .i64 (b+1),.int .i64 m,.int .i64 k]) results287 ?_ ?_ ?_ underlying56 rfl ?_ ?_;(focus rfl);(focus rfl);(focus(apply Exists.intro;apply And.intro;(focus(repeat(first|(with_reducible exact dL _ _)|((with_reducible apply eg);(focus(first|(simp;done)|omega)))|(with_reducible apply eC)|((with_reducible apply eQ);(focus(first|omega|(simp;done)|(simp;omega))))|((with_reducible apply dA);(focus(with_reducible assumption));(focus(first|omega|(simp;done)|(simp;omega))))|((with_reducible apply cQ);(focus(first|omega|(simp;done)|(simp;omega)))))));(focus rfl)));(focus kernel_rfl);refine⟨rfl,?_⟩;exact a2
  ·rw[Z i];exact iT
 ·rw[Y am,Z rfl];clear d;exact iT
end
section
theorem Fg(a b:Int)(w:World)(c:jI a)(hb:jI b)(d:jI (a+b)):
 Calls prog 317 #[.int .i64 a,.int .i64 b] w fun e w'=>e= .returned (.tuple #[.int .i64 (a+b),.int .i64 0])/\w=w':=by
 have h:(!decide (a<a+b)==decide (0<b))=false:=by
  by_cases h:0<b<;>simp[h]<;>omega
 go_enter func317,ntmps317;go_wp2;all_goals(go_ret2;exact⟨rfl,rfl⟩)
section
variable(n:Int)(w:World)(a:0<=n)(hb:n<=9223372036854775800)
include n w a hb
theorem tv:
 Calls prog 264 #[.int .i64 n] w fun e w'=>e= .returned (.tuple #[.int .i64 (8*((n+7)/8)),.int .i64 0])/\w=w':=by
 have h:=ac7 (n+7) J J;go_enter func264,ntmps264;go_wp2_with(go_at_call 317;refine(Fg _ _ _ J J J).mono ?_;rintro e w' ⟨rfl,rfl⟩);go_ret2;exact⟨rfl,rfl⟩
theorem Ay:
 Calls prog 294 #[.int .i64 n] w fun e w'=>e= .returned (.tuple #[.int .i64 ((n+7)/8),.int .i64 0])/\w=w':=by
 go_enter func294,ntmps294;go_wp2_with(go_at_call 264;refine(tv _ _ J J).mono ?_;rintro e w' ⟨rfl,rfl⟩);go_ret2;exact⟨wX J rfl,rfl⟩
end
end
section
theorem nS{G:Prop}(h:G:=by
 go_enter func155,ntmps155;go_wp2_with fail;refine(kJ _ _ _ _ _ ok.out).mono ?_;rintro e EH ⟨rfl,N⟩;have bz:=N.size;(repeat(first|rw[World.size_alloc]at bz|rw[World.size_setCell]at bz|rw[World.size_drew]at bz));have dB:w.heap.size<EH.heap.size:=(by omega);have dC:=fun o=>N.cell (p:=⟨w.heap.size,o,none⟩) ch;have dD:=fun o=>N.frozen (p:=⟨w.heap.size,o,none⟩) ch;go_wp2_with(first|(go_at_call 104;refine(bm _ _ _ _ (by omega) (by omega)).mono ?_;rintro e w' ⟨rfl,rfl⟩)|(go_at_call 104;refine(fq _ _ _ _ (by omega)).mono ?_;rintro e w' ⟨rfl,rfl⟩));go_ret2;refine⟨rfl,?_⟩;exact a2):G:=h
theorem hC{G:Prop}(h:G:=by
 go_enter func77,ntmps77;go_wp2_with(first|(go_at_call 104;refine(bm _ _ _ _ (by omega) (by omega)).mono ?_;rintro e w' ⟨rfl,rfl⟩)|(go_at_call 104;refine(fq _ _ _ _ (by omega)).mono ?_;rintro e w' ⟨rfl,rfl⟩));go_ret;refine⟨rfl,?_⟩;exact a2):G:=h
abbrev kf(s t i h:Int):Prop:=(1<=s/\s<=8)/\(1<=t/\t<=4)/\(0<=i/\i<=2048)/\(0<=h/\h<=8192)/\i %8=0/\h %8=0
theorem Sh(i h:Int)(hi:0<=i/\i<=2048)(b:0<=h/\h<=8192):0<=bits .or .i64 i h/\(bits .or .i64 i h %8=0↔i %8=0/\h %8=0):=by
 obtain⟨a,rfl⟩:=bn hi.1;obtain⟨K,rfl⟩:=bn b.1;rw[(bits_nat .i64 63 am gM a K J J).2];refine⟨J,?_⟩;have e:(a ||| K)%8=(a %8)|||(K %8):=Nat.or_mod_two_pow (n:=3);have c:(a ||| K)%8=0↔a %8=0/\K %8=0:=by rw[e,Nat.or_eq_zero_iff]
 omega
section
variable(s t i h:Int)(w:World)
include s t i h w
theorem AF:
 Calls prog 77 #[.agg #[.int .i64 s,.int .i64 t,.int .i64 i,.int .i64 h]] w fun x w'=>x= .returned (.bool (if kf s t i h then true else false))/\Below w.heap.size w w':=by
 by_cases g:1<=s/\s<=8
 case neg=>
  rw[aB];go_enter func77,ntmps77;go_wp2_with(go_at_call 104;refine(fq _ _ _ _ J).mono ?_;rintro e w' ⟨rfl,rfl⟩);go_ret;refine⟨rfl,?_⟩;exact a2
 by_cases j:1<=t/\t<=4
 case neg=>
  rw[aB];exact hC
 by_cases c:0<=i/\i<=2048
 case neg=>
  rw[aB];exact hC
 by_cases f:0<=h/\h<=8192
 case neg=>
  rw[aB];exact hC
 obtain⟨k,a⟩:=Sh i h c f;by_cases b:i %8=0/\h %8=0
 case neg=>
  rw[aB];have d:(bits .or .i64 i h %8==0)=false:=by simp;omega
  clear a b;exact hC
 rw[m3];have d:(bits .or .i64 i h %8==0)=true:=by simp;omega
 clear a b;exact hC
theorem kJ(ok:kf s t i h):
 Calls prog 77 #[.agg #[.int .i64 s,.int .i64 t,.int .i64 i,.int .i64 h]] w fun x w'=>x= .returned (.bool true)/\Below w.heap.size w w':=by
 have:=AF s t i h w;rwa[Z ok]at this
section
variable(ok:Hid (kf s t i h))(a:1<=s/\s<=8)
include ok a
theorem jS:
 Calls prog 199 #[.agg #[.int .i64 s,.int .i64 t,.int .i64 i,.int .i64 h]] w fun x w'=>x= .returned (.tuple #[.agg #[.int .i64 (s*64),.int .i64 i],.int .i64 0])/\Below w.heap.size w w':=by
 go_enter func199,ntmps199;go_wp2_with fail;refine(kJ _ _ _ _ _ ok.out).mono ?_;rintro e b ⟨rfl,N⟩;have c:=N.size;(repeat(first|rw[World.size_alloc]at c|rw[World.size_setCell]at c|rw[World.size_drew]at c));have d:w.heap.size<b.heap.size:=J;have f:=fun o=>N.cell (p:=⟨w.heap.size,o,none⟩) ch;have g:=fun o=>N.frozen (p:=⟨w.heap.size,o,none⟩) ch;have j:w.heap.size+1<b.heap.size:=J;have k:=fun o=>N.cell (p:=⟨w.heap.size+1,o,none⟩) ch;have l:=fun o=>N.frozen (p:=⟨w.heap.size+1,o,none⟩) ch;go_wp2_with fail;refine bodyPost_ret (v:=.tuple #[.agg #[.int .i64 (s*64),.int .i64 i],.int .i64 0]) (by simp only[results,results199];go_simp) rfl ⟨rfl,?_⟩;exact a2
theorem pR(hi:0<=i/\i<=2048):
 Calls prog 153 #[.agg #[.int .i64 s,.int .i64 t,.int .i64 i,.int .i64 h]] w fun x w'=>x= .returned (.tuple #[.agg #[.int .i64 (s*64+i),.int .i64 h],.int .i64 0])/\Below w.heap.size w w':=by
 go_enter func153,ntmps153;go_wp2_with fail;refine(jS _ _ _ _ _ ok a).mono ?_;rintro e b ⟨rfl,N⟩;have c:=N.size;(repeat(first|rw[World.size_alloc]at c|rw[World.size_setCell]at c|rw[World.size_drew]at c));have d:w.heap.size<b.heap.size:=J;have f:=fun o=>N.cell (p:=⟨w.heap.size,o,none⟩) ch;have g:=fun o=>N.frozen (p:=⟨w.heap.size,o,none⟩) ch;have j:w.heap.size+1<b.heap.size:=J;have k:=fun o=>N.cell (p:=⟨w.heap.size+1,o,none⟩) ch;have l:=fun o=>N.frozen (p:=⟨w.heap.size+1,o,none⟩) ch;go_wp2_with fail;refine bodyPost_ret (v:=.tuple #[.agg #[.int .i64 (s*64+i),.int .i64 h],.int .i64 0]) (by simp only[results,results153];go_simp) rfl ⟨rfl,?_⟩;exact a2
theorem IJ(hi:0<=i/\i<=2048)(d:0<=h/\h<=8192):
 Calls prog 196 #[.agg #[.int .i64 s,.int .i64 t,.int .i64 i,.int .i64 h]] w fun x w'=>x= .returned (.tuple #[.int .i64 (s*64+i+h),.int .i64 0])/\Below w.heap.size w w':=by
 go_enter func196,ntmps196;go_wp2_with fail;refine(pR _ _ _ _ _ ok a hi).mono ?_;rintro e c ⟨rfl,N⟩;have b:=N.size;(repeat(first|rw[World.size_alloc]at b|rw[World.size_setCell]at b|rw[World.size_drew]at b));have f:w.heap.size<c.heap.size:=J;have g:=fun o=>N.cell (p:=⟨w.heap.size,o,none⟩) ch;have j:=fun o=>N.frozen (p:=⟨w.heap.size,o,none⟩) ch;go_wp2_with fail;go_ret2;refine⟨rfl,?_⟩;exact a2
end
end
section
variable(s t i h p k:Int)(w:World)(ok:Hid (kf s t i h))(b:1<=s/\s<=8)(a:0<=p/\p<=4)
include s t i h p k w ok b a
theorem OZ(c:k<0\/s<=k):
 Calls prog 155 #[.agg #[.int .i64 s,.int .i64 t,.int .i64 i,.int .i64 h],.int .i64 p,.int .i64 k] w fun x w'=>x= .returned (.tuple #[.int .i64 0,.int .i64 2])/\Below w.heap.size w w':=by
 exact nS
theorem KI(c:0<=k/\k<s):
 Calls prog 155 #[.agg #[.int .i64 s,.int .i64 t,.int .i64 i,.int .i64 h],.int .i64 p,.int .i64 k] w fun x w'=>x= .returned (.tuple #[.int .i64 (k*64+p*8),.int .i64 0])/\Below w.heap.size w w':=by
 exact nS
end
theorem Fl(s t i h:Int)(w:World)(b:1<=s/\s<=8)(hi:0<=i/\i<=2048)(a:0<=h/\h<=8192):
 Calls prog 53 #[.agg #[.int .i64 s,.int .i64 t,.int .i64 i,.int .i64 h]] w fun x w'=>x= .returned (.int .i64 (s*64+i+h))/\Below w.heap.size w w':=by
 go_enter func53,ntmps53;go_wp2_with fail;go_ret;refine⟨lC J,?_⟩;exact a2
end
theorem kU{G:Prop}(h:G:=by
 go_enter func161,ntmps161;go_wp2_with(first|(go_at_call 104;refine(bm _ _ _ _ (by omega) (by omega)).mono ?_;rintro e w' ⟨rfl,rfl⟩)|(go_at_call 104;refine(fq _ _ _ _ (by omega)).mono ?_;rintro e w' ⟨rfl,rfl⟩));go_ret2;exact⟨rfl,(Below.refl _ _).alloc (ai _) _⟩):G:=h
abbrev jB(s e a:Int):Prop:=0<=s/\s<=7/\0<=e/\e<=16777215/\8<=a/\a<=65528/\a %8=0
theorem zb(s e a:Int)(w:World)(h:jB s e a):
 Calls prog 161 #[.agg #[.int .i64 s,.int .i64 e,.int .i64 a]] w fun x w'=>x= .returned (.tuple #[.int .u64 (a/8+16777216*s+4294967296*e),.int .i64 0])/\Below w.heap.size w w':=by
 obtain⟨h1,c,k,j,f,i,b⟩:=h;have hm:(a %8 !=0)=false:=by simpa using b
 have g:bits .or .u64 (a/8) (s*16777216)=a/8+s*16777216:=jn 24 _ _ J J J J J J;have d:bits .or .u64 (a/8+s*16777216) (e*4294967296)=a/8+s*16777216+e*4294967296:=jn 32 _ _ J J J J J J;clear b;go_enter func161,ntmps161;go_wp2_with(go_at_call 104;refine(bm _ _ _ _ J J).mono ?_;rintro e w' ⟨rfl,rfl⟩);go_ret2;exact⟨wX J rfl,(Below.refl _ _).alloc (ai _) _⟩
theorem zc(s e a:Int)(w:World)(f:jI s)(c:jI e)(d:jI a)(h: ¬jB s e a):
 Calls prog 161 #[.agg #[.int .i64 s,.int .i64 e,.int .i64 a]] w fun x w'=>x= .returned (.tuple #[.int .u64 0,.int .i64 1])/\Below w.heap.size w w':=by
 by_cases h1:0<=s/\s<=7
 ·by_cases b:0<=e/\e<=16777215
  ·by_cases g:8<=a/\a<=65528
   ·have hm:(a %8 !=0)=true:=by simp;omega
    clear h;go_enter func161,ntmps161;go_wp2_with(go_at_call 104;refine(bm _ _ _ _ J J).mono ?_;rintro e w' ⟨rfl,rfl⟩);go_ret2;exact⟨rfl,(Below.refl _ _).alloc (ai _) _⟩
   ·clear h;exact kU
  ·clear h;exact kU
 ·clear h;exact kU
def uH(s e a:Int):Int×Int:=if jB s e a then(a/8+16777216*s+4294967296*e,0)else(0,1)
theorem C1(s e a:Int)(w:World)(d:jI s)(b:jI e)(c:jI a):
 Calls prog 161 #[.agg #[.int .i64 s,.int .i64 e,.int .i64 a]] w fun x w'=>x= .returned (.tuple #[.int .u64 (uH s e a).1,.int .i64 (uH s e a).2])/\Below w.heap.size w w':=by
 unfold uH;by_cases h:jB s e a
 ·rw[Z h];exact zb s e a w h
 ·rw[Y h];exact zc s e a w d b c h
abbrev Y5(h:Int):Int:=h/16777216 %256
abbrev cC(h:Int):Int:=h/4294967296
abbrev VH(h:Int):Int:=h %16777216*8
theorem acg(h:Int)(a:aR h)(ok:jB (Y5 h) (cC h) (VH h)):uH (Y5 h) (cC h) (VH h)=(h,0):=by
 unfold uH;rw[Z ok];unfold jB Y5 cC VH at*;exact dz (·,0) J
theorem A0(h:Int)(w:World)(c:aR h)(ok:jB (Y5 h) (cC h) (VH h)):
 Calls prog 157 #[.int .u64 h] w fun x w'=>x= .returned (.tuple #[.agg #[.int .i64 (Y5 h),.int .i64 (cC h),.int .i64 (VH h)],.int .i64 0])/\Below w.heap.size w w':=by
 have o:=qy h c;have m:=jJ (h/16777216) J;have b:=acg h c ok;unfold Y5 cC VH jB at*;obtain⟨q,p,s,r,t,u,g⟩:=ok;have f:=I (dz Prod.fst b);have j:=I (dz Prod.snd b);clear b g;go_enter func157,ntmps157;go_wp2_with fail;refine(C1 _ _ _ _ J J J).mono ?_;rw[f.out,j.out];rintro e a ⟨rfl,hb⟩;obtain⟨d,n⟩:=Ey hb;have i:=hb.size;(try simp at i);go_wp2_with fail;have l:a.cell? ⟨w.heap.size,0,none⟩=some (.int .i64 0):=(by rw[d _ _ ch];simp[go_sem]);have q1:a.cell? ⟨w.heap.size,1,none⟩=some (.int .i64 0):=(by rw[d _ _ ch];simp[go_sem]);have k:a.cell? ⟨w.heap.size,2,none⟩=some (.int .i64 0):=(by rw[d _ _ ch];simp[go_sem])
 refine bodyPost_ret (v:=.tuple #[.agg #[.int .i64 (h/16777216 %256),.int .i64 (h/4294967296),.int .i64 (h %16777216*8)],.int .i64 0]) (by simp[results,results157,go_sem,l,q1,k]) rfl ⟨rfl,?_⟩;exact a2
theorem A1(h:Int)(w:World)(c:aR h)(no: ¬jB (Y5 h) (cC h) (VH h)):
 Calls prog 157 #[.int .u64 h] w fun x w'=>x= .returned (.tuple #[.agg #[.int .i64 0,.int .i64 0,.int .i64 0],.int .i64 18])/\Below w.heap.size w w':=by
 have k:=qy h c;have i:=jJ (h/16777216) J;unfold Y5 cC VH at*;have H:=I no;clear no;go_enter func157,ntmps157;go_wp2_with fail;refine(zc _ _ _ _ J J J H.out).mono ?_;rintro e a ⟨rfl,hb⟩;obtain⟨b,j⟩:=Ey hb;have d:=hb.size;(try simp at d);go_wp2_with fail;have g:a.cell? ⟨w.heap.size,0,none⟩=some (.int .i64 0):=(by rw[b _ _ ch];simp[go_sem]);have q1:a.cell? ⟨w.heap.size,1,none⟩=some (.int .i64 0):=(by rw[b _ _ ch];simp[go_sem]);have f:a.cell? ⟨w.heap.size,2,none⟩=some (.int .i64 0):=(by rw[b _ _ ch];simp[go_sem])
 refine bodyPost_ret (v:=.tuple #[.agg #[.int .i64 0,.int .i64 0,.int .i64 0],.int .i64 18]) (by simp[results,results157,go_sem,g,q1,f]) rfl ⟨rfl,?_⟩;exact a2
section
theorem kV{G:Prop}(h:G:=by
 rw[aB];go_enter func313,ntmps313;go_wp2_with(first|(go_at_call 349;refine(sx _ _ _ (by omega) (by omega) (by omega)).mono ?_;rintro e w' ⟨rfl,rfl⟩)|(go_at_call 349;refine(wC _ _ _ (by omega) (by omega) (by omega)).mono ?_;rintro e w' ⟨rfl,rfl⟩)|(go_at_call 104;refine(bm _ _ _ _ (by omega) (by omega)).mono ?_;rintro e w' ⟨rfl,rfl⟩));go_ret;refine⟨rfl,?_⟩;exact a2):G:=h
abbrev gj(z l g s e:Int):Prop:=(0<=l/\l<=6)/\(2+l<=z/\z<=72)/\(0<=g/\g<=7)/\(0<=s/\s<=7)/\(0<=e/\e<=16777215)
abbrev lz(z l g:Int)(d:Bool)(s e:Int):Value:=.agg #[.int .i64 z,.int .i64 l,.int .i64 g,.bool d,.int .i64 s,.int .i64 e]
theorem sx(n m:Int)(w:World)(h1:0<=n)(a:n<m)(b:m<=16777216):
 Calls prog 349 #[.int .i64 n,.int .i64 m] w fun x w'=>x= .returned (.bool true)/\w=w':=by
 go_enter func349,ntmps349;exact kq
theorem wC(n m:Int)(w:World)(h1:n<0\/m<=n)(a:1<=m)(b:m<=16777216):
 Calls prog 349 #[.int .i64 n,.int .i64 m] w fun x w'=>x= .returned (.bool false)/\w=w':=by
 go_enter func349,ntmps349;exact p7
section
variable(z l g:Int)(d:Bool)(s e:Int)(w:World)
include z l g d s e w
theorem s2:
 Calls prog 313 #[lz z l g d s e] w fun x w'=>x= .returned (.bool (if gj z l g s e then true else false))/\Below w.heap.size w w':=by
 unfold lz;by_cases c:0<=l/\l<=6
 case neg=>
  rw[aB];go_enter func313,ntmps313;go_wp2_with(go_at_call 349;refine(wC _ _ _ J J J).mono ?_;rintro e w' ⟨rfl,rfl⟩);go_ret;refine⟨rfl,?_⟩;exact a2
 by_cases f:2+l<=z/\z<=72
 case neg=>
  rw[aB];go_enter func313,ntmps313;go_wp2_with(first|(go_at_call 349;refine(sx _ _ _ J J J).mono ?_;rintro e w' ⟨rfl,rfl⟩)|(go_at_call 104;refine(fq _ _ _ _ J).mono ?_;rintro e w' ⟨rfl,rfl⟩));go_ret;refine⟨rfl,?_⟩;exact a2
 by_cases a:0<=g/\g<=7
 case neg=>
  exact kV
 by_cases h:0<=s/\s<=7
 case neg=>
  exact kV
 by_cases b:0<=e/\e<=16777215
 case neg=>
  exact kV
 rw[m3];go_enter func313,ntmps313;go_wp2_with(first|(go_at_call 349;refine(sx _ _ _ J J J).mono ?_;rintro e w' ⟨rfl,rfl⟩)|(go_at_call 104;refine(bm _ _ _ _ J J).mono ?_;rintro e w' ⟨rfl,rfl⟩));go_ret;refine⟨rfl,?_⟩;exact a2
theorem C2(ok:gj z l g s e):
 Calls prog 313 #[lz z l g d s e] w fun x w'=>x= .returned (.bool true)/\Below w.heap.size w w':=by
 have:=s2 z l g d s e w;rwa[Z ok]at this
theorem C3(no: ¬gj z l g s e):
 Calls prog 313 #[lz z l g d s e] w fun x w'=>x= .returned (.bool false)/\Below w.heap.size w w':=by
 have:=s2 z l g d s e w;rwa[Y no]at this
end
theorem C4(x:Int)(h:aR x)(g:x %562949953421312<281474976710656):bits .or .u64 x 281474976710656=x+281474976710656:=by
 obtain⟨a,rfl⟩:=bn h.1;have f:a<18446744073709551616:=by have:=h.2;omega
 show bits .or .u64 (a:Int) ((281474976710656:Nat):Int)=_;rw[u64_or_nat a _ f am];have e:a=2^49*(a/2^49)+a %2^49:=(Nat.div_add_mod a (2^49)).symm;have hb:a %2^49<2^48:=J;have b:2^49*(a/2^49)+a %2^49=2^49*(a/2^49)||| a %2^49:=Nat.two_pow_add_eq_or_of_lt J _;have c:2^48*1+a %2^49=2^48*1 ||| a %2^49:=Nat.two_pow_add_eq_or_of_lt hb 1;have d:2^49*(a/2^49)+(2^48*1+a %2^49)=2^49*(a/2^49)|||(2^48*1+a %2^49):=Nat.two_pow_add_eq_or_of_lt J _;have key:a ||| 281474976710656=a+281474976710656:=by
  calc a ||| 281474976710656=(2^49*(a/2^49)||| a %2^49)||| 2^48*1:=by rw[<-b,<-e]
   _=2^49*(a/2^49)|||(2^48*1 ||| a %2^49):=by rw[Nat.or_assoc,Nat.or_comm (a %2^49)]
   _=2^49*(a/2^49)+(2^48*1+a %2^49):=by rw[<-c,<-d]
   _=a+281474976710656:=J
 rw[key];rfl
abbrev hF(z l g δ:Int):Int:=z+4294967296*l+1099511627776*g+281474976710656*δ+11889503016258109440
theorem zd{k l m:IntKind}{a b c d e f:Int}(h:a=b)(g:c=d)(i:e=f):Ending.returned (.tuple #[.int k a,.int l c,.int m e])= .returned (.tuple #[.int k b,.int l d,.int m f]):=by rw[h,g,i]
end
end Go.Proofs.YtcimojgkeoecfaaGreat
