import Derived.Test.YtcimojgkeoecfaaGreatXbd
import Derived.Test.YtcimojgkeoecfaaGreatXat
set_option linter.all false
set_option maxHeartbeats 16000000
set_option maxRecDepth 100000
namespace Go.Proofs.YtcimojgkeoecfaaGreat
open Go.RowKit Tryz
section
theorem oq{G:Prop}(h:G:=by
 clear q;generalize c.a=y at*;go_enter func256,ntmps256;go_wp2_with(first|(go_at_call 218;refine(abk _ H.out).mono ?_;rintro e aaM ⟨rfl,N⟩));go_ret;exact⟨rfl,N⟩):G:=h
theorem acr.lit{w:World}{S:Nat->Prop}{g:Nat}{t:TypeId}{cs:Array Value}(hb:ah w g t cs)(YF:S g)(n:Nat)(F:Nat->List Value)(abi:n<=1000)(hF: ∀i,i<n->F i= [cs.getD i (.bool false)]/\i<cs.size):
 acr w S (.slice (some ⟨g,0,none⟩) n n) n 1 F:=by
 refine⟨_,_,rfl,ai _,by unfold maxLen;omega,fun _=>⟨g,0,rfl,YF,hb.lt,fun i j u hi hu=>?_⟩⟩;obtain⟨h1,aaV⟩:=hF i hi;rw[h1]at hu;have aeD:j=0:=by have:=(List.getElem?_eq_some_iff.1 hu).1;simpa using this
 subst aeD;simp at hu;rw[hb.cell,ax,Nat.mul_one,cZ,Array.getElem?_eq_getElem aaV];simpa [aaV]using hu
theorem Dd(x:Int)(w:World)(h:0<=x/\x<=3):Calls prog 315 #[.int .u8 x] w fun e w'=>e= .returned (.bool false)/\Below w.heap.size w w':=by
 go_enter func315,ntmps315;go_wp2_with fail;go_ret;exact⟨qx (by simp;omega),Below.refl _ _⟩
theorem zh(w:World)(S:Nat->Prop)(v:Value)(n:Nat)(f:Nat->Int)(h:acr w S v n 1 (fun i=> [.int .u8 (f i)]))(abi:n<=65536)(acA: ∀i,i<n->0<=f i/\f i<=3):
 Calls prog 261 #[v] w fun e w'=>e= .returned (.bool true)/\Below w.heap.size w w':=by
 have ab7: ∀args w,(callFunc 315 args).run prog w= .ok (.enter 315 args) w:=enters_of func315 aM rfl;have XP:=fun w h=>wk w S v n _ (fun i=>.int .u8 (f i)) 315 #[] (fun _=>false) ab7 h (fun i _=>rfl) abi (fun i hi w' _=>Dd (f i) w' (acA i hi));have H:=I h;have YT:=I XP;clear h XP ab7 acA;go_enter func261,ntmps261;go_wp2_with(first|(refine(YT.out _ H.out).mono ?_;rintro e aaM ⟨r,rfl,abk,N⟩));obtain rfl:r=false:=by
  rcases abk with⟨rfl,_⟩|⟨_,i,_,h⟩
  ·rfl
  ·cases h
 go_ret;exact⟨rfl,N⟩
def me:List Int->Int
 | []=>0
 |x::l=>if x=0 then me l else x
theorem uM{l:List Int}{k:Nat}{x:Int}(h:l[k]? =some x):me (l.drop k)=if x=0 then me (l.drop (k+1))else x:=by
 obtain⟨ae3,rfl⟩:=List.getElem?_eq_some_iff.1 h;rw[List.drop_eq_getElem_cons ae3,me]
theorem zi(w:World)(S:Nat->Prop)(v:Value)(l:List Int)(h:cF w S v l)(YJ:l.length<=1000):
 Calls prog 262 #[v] w fun e w'=>e= .returned (.int .i64 (me l))/\Below w.heap.size w w':=by
 obtain⟨A,c,rfl,h1,aaV,ZV⟩:=id h;clear h h1 aaV;generalize abi:l.length=n at*;have ZG:=I abi;have H:=I ZV;clear ZV abi;go_enter func262,ntmps262;go_wp2_with fail;go_loopw [7] (fun i wr=> ∃k:Nat,k<=n/\i= .int .i64 k/\Hid (me l=me (l.drop k))/\wr=w) (fun i _=>n-(intOf i).toNat)
 case atStart=>exact⟨0,J,rfl,I rfl,by first|rfl|trivial⟩
 case round=>
  obtain⟨k,ae3,rfl,VX,rfl⟩:=hrel;by_cases bV:k<n
  ·have Wy: ∃x,l[k]? =some x:=⟨_,an (by have:=ZG.out;omega)⟩
   obtain⟨x,Wy⟩:=Wy;obtain⟨b,off,rfl,YF,hb,XP⟩:=H.out J;have c3:wr.cell? ⟨b,off+k,none⟩=some (.int .i64 x):=by
    have:=XP k 0 (.int .i64 x) bV (by simp[hq,Wy]);simpa using this
   have VN:=I Wy;clear Wy XP;by_cases e:x=0
   ·subst e;go_wp2_with fail;go_roundw
    case rel=>exact⟨k+1,J,by go_num,I (by rw[VX.out,uM VN.out,Z rfl]),by first|rfl|trivial⟩
    case measure=>simp[intOf];omega
   ·have abF:(x==0)=false:=by simpa using e
    have acL:(x !=0)=true:=by simpa using e
    have eV:=I e;clear e;go_wp2_with fail;go_ret;refine⟨lC ?_,Below.refl _ _⟩;rw[VX.out,uM VN.out,Y eV.out]
  ·obtain rfl:k=n:=by omega
   go_wp2_with fail;go_ret;refine⟨lC ?_,Below.refl _ _⟩;rw[VX.out,<-ZG.out,List.drop_length];rfl
abbrev dX(p:afy)(v:Value)(c:dM)(h x:Int):Array Value:= #[.int .i64 p.s,.int .i64 p.t,.int .i64 p.i,.int .i64 p.h,v,.int .u8 c.op,.int .u8 c.r,.int .u8 c.h,.int .u8 c.v,.int .i64 c.a,.int .i64 c.b,.int .i64 c.c,.int .u64 h,.int .u64 x]
def Ask(w:World)(g:Nat)(p:afy)(v:Value)(c:dM)(h x:Int):Prop:=ah w g 289 (dX p v c h x)
theorem Ask.below{w w':World}{g:Nat}{p:afy}{v:Value}{c:dM}{h x:Int}(a:Ask w g p v c h x)(k:Below w.heap.size w w'):Ask w' g p v c h x:=ah.below a k a.lt
def ep(p:afy)(a f:Int):Int:=if f<=a/\a<p.s then 0 else 11
def fA(l:List bO)(a:Int):Int:=if reach l a then 0 else 20
def ot(l:List bO):Int:=if l.length<6 then 0 else 24
def ou(b:Bool):Int:=if b then 0 else 1
section
variable(w:World)
include w
theorem kW(g:Nat)(p:afy)(v:Value)(c:dM)(h x f:Int)(a:Ask w g p v c h x)(aeJ:a9 p)(acA:0<=f/\f<=1):
 Calls prog 255 #[.int .i64 f,.pointer (some ⟨g,0,none⟩)] w fun e w'=>e= .returned (.int .i64 (ep p c.a f))/\Below w.heap.size w w':=by
 unfold ep;have VI:=a.cell 0;have ab4:=a.cell 9;have YF:=aeJ.s;simp at VI ab4;clear a aeJ;by_cases q:f<=c.a/\c.a<p.s
 ·rw[Z q];generalize c.a=y at*;generalize p.s=s at*;go_enter func255,ntmps255;go_wp2_with(first|(go_at_call 104;refine(bm _ _ _ _ J J).mono ?_;rintro e w' ⟨rfl,rfl⟩));go_ret;exact⟨rfl,Below.refl _ _⟩
 ·rw[Y q];generalize c.a=y at*;generalize p.s=s at*;go_enter func255,ntmps255;go_wp2_with(first|(go_at_call 104;refine(fq _ _ _ _ J).mono ?_;rintro e w' ⟨rfl,rfl⟩));go_ret;exact⟨rfl,Below.refl _ _⟩
section
variable(S:Nat->Prop)(g:Nat)(p:afy)(v:Value)(l:List bO)(c:dM)(h x:Int)(a:Ask w g p v c h x)(abo:de w S v l)(YJ:l.length<=65536)
include S g p v l c h x a abo YJ
theorem mf:
 Calls prog 256 #[.pointer (some ⟨g,0,none⟩)] w fun e w'=>e= .returned (.int .i64 (fA l c.a))/\Below w.heap.size w w':=by
 unfold fA;have afw:=a.cell 4;have ab4:=a.cell 9;simp at afw ab4;have abk:=fun w (h':de w S v l)=>tS w S v l c.a h' YJ;have H:=I abo;clear a abo;by_cases q:reach l c.a
 ·rw[Z q];rw[decide_eq_true q]at abk;exact oq
 ·rw[Y q];rw[decide_eq_false q]at abk;exact oq
theorem BV:
 Calls prog 257 #[.pointer (some ⟨g,0,none⟩)] w fun e w'=>e= .returned (.int .i64 (ot l))/\Below w.heap.size w w':=by
 unfold ot;have afw:=a.cell 4;simp at afw;by_cases q:l.length<6
 ·rw[Z q];have abk:=fun w (h':de w S v l)=>BH w S v l 0 false h' q;have H:=I abo;clear a abo;go_enter func257,ntmps257;go_wp2_with(first|(go_at_call 191;refine(abk _ H.out).mono ?_;rintro e aaM ⟨v',rfl,_,N⟩));go_ret;exact⟨rfl,N⟩
 ·rw[Y q];have abk:=fun w (h':de w S v l)=>Il w S v l 0 false h' J YJ;have H:=I abo;clear a abo;go_enter func257,ntmps257;go_wp2_with(first|(go_at_call 191;refine(abk _ H.out).mono ?_;rintro e aaM ⟨rfl,N⟩));go_ret;exact⟨rfl,N⟩
end
theorem mJ(b:Bool):Calls prog 258 #[.bool b] w fun e w'=>e= .returned (.int .i64 (ou b))/\Below w.heap.size w w':=by
 unfold ou;cases b
 ·go_enter func258,ntmps258;go_wp2_with fail;go_ret;exact⟨rfl,Below.refl _ _⟩
 ·go_enter func258,ntmps258;go_wp2_with fail;go_ret;exact⟨rfl,Below.refl _ _⟩
theorem sA(S:Nat->Prop)(g:Nat)(p:afy)(v:Value)(l:List bO)(c:dM)(h x y:Int)(a:Ask w g p v c h x)(abo:de w S v l)(YJ:l.length<=65536)(hy:aR y):
 Calls prog 259 #[.int .u64 y,.pointer (some ⟨g,0,none⟩)] w fun e w'=>e= .returned (.int .i64 (check p l y))/\Below w.heap.size w w':=by
 have VI:=a.cell 0;have WJ:=a.cell 1;have adr:=a.cell 2;have XO:=a.cell 3;have afw:=a.cell 4;simp at VI WJ adr XO afw;have abk:=fun w (h':de w S v l)=>zg w S v p l y hy h' YJ;have H:=I abo;unfold ej at abk;clear a abo;generalize check p l y=r at*;obtain⟨s,t,i,q⟩:=p;simp only at*;go_enter func259,ntmps259;go_wp2_with(first|(go_at_call 260;refine(abk _ H.out).mono ?_;rintro e aaM ⟨XN,abE,Yk,rfl,N⟩));have bz:=N.size;go_ret;refine⟨rfl,?_⟩;exact a2
end
end
section
theorem ov{G:Prop}(h:G:=by
 have bz:=N.size;(repeat(first|rw[World.size_alloc]at bz|rw[World.size_drew]at bz));have YN:=(Zn.out _).below N;have aal:=(acr.alloc Yl.out _).below N;go_wp2_with fail;go_ret;refine⟨rfl,?_⟩;exact a2):G:=h
theorem KS(a b:Int):me [a,b]=if a=0 then b else a:=by
 unfold me me me;by_cases h:b=0<;>simp[h]
theorem PB(a b c:Int):me [a,b,c]=if a=0 then(if b=0 then c else b)else a:=by
 rw[me,KS]
def hG(a b:Int):Int:=if a=0 then b else a
def ha(a b c:Int):Int:=if a=0 then(if b=0 then c else b)else a
section
variable(w:World)(g:Nat)(t:TypeId)
include w g t
theorem mg(a:Int)(hb:ah w g t #[.int .u8 a])(h:0<=a/\a<=3):
 Calls prog 261 #[.slice (some ⟨g,0,none⟩) 1 1] w fun e w'=>e= .returned (.bool true)/\Below w.heap.size w w':=
 zh w (fun _=>True) _ 1 (fun _=>a) (acr.lit (S:=fun _=>True) hb trivial 1 _ J fun i hi=>by
  obtain rfl:i=0:=J
  exact⟨rfl,aN⟩) J fun _ _=>h
theorem zj(a b:Int)(hb:ah w g t #[.int .u8 a,.int .u8 b])(h:0<=a/\a<=3)(aaV:0<=b/\b<=3):
 Calls prog 261 #[.slice (some ⟨g,0,none⟩) 2 2] w fun e w'=>e= .returned (.bool true)/\Below w.heap.size w w':=
 zh w (fun _=>True) _ 2 (fun i=>if i=0 then a else b) (acr.lit (S:=fun _=>True) hb trivial 2 _ J fun i hi=>by
  rcases(by omega:i=0\/i=1)with rfl|rfl
  ·exact⟨rfl,aN⟩
  ·exact⟨rfl,aN⟩) J fun i _=>by split<;>assumption
theorem rH(a b:Int)(hb:ah w g t #[.int .i64 a,.int .i64 b]):
 Calls prog 262 #[.slice (some ⟨g,0,none⟩) 2 2] w fun e w'=>e= .returned (.int .i64 (hG a b))/\Below w.heap.size w w':=by
 unfold hG;rw[<-KS];exact zi w (fun _=>True) _ [a,b] (acr.lit (S:=fun _=>True) hb trivial 2 _ J fun i hi=>by
  rcases(by omega:i=0\/i=1)with rfl|rfl
  ·exact⟨rfl,aN⟩
  ·exact⟨rfl,aN⟩) aN
theorem ox(a b c:Int)(hb:ah w g t #[.int .i64 a,.int .i64 b,.int .i64 c]):
 Calls prog 262 #[.slice (some ⟨g,0,none⟩) 3 3] w fun e w'=>e= .returned (.int .i64 (ha a b c))/\Below w.heap.size w w':=by
 unfold ha;rw[<-PB];exact zi w (fun _=>True) _ [a,b,c] (acr.lit (S:=fun _=>True) hb trivial 3 _ J fun i hi=>by
  rcases(by omega:i=0\/i=1\/i=2)with rfl|rfl|rfl
  ·exact⟨rfl,aN⟩
  ·exact⟨rfl,aN⟩
  ·exact⟨rfl,aN⟩) aN
end
section
variable{w:World}{g:Nat}{p:afy}{v:Value}{c:dM}{h x:Int}(a:Ask w g p v c h x)
include w g p v c h x a
theorem Ask.alloc(o:Obj):Ask (w.alloc o) g p v c h x:=ah.alloc a o
theorem Ask.drew:Ask w.drew g p v c h x:=a
end
section
variable(w:World)(S:Nat->Prop)(p:afy)(v:Value)(l:List bO)(c:dM)(h x:Int)(abo:de w S v l)(YJ:l.length<=6)(aeJ:a9 p)(XP:cG c)(acu:aR h)(Wy:aR x)
include w S p v l c h x abo YJ aeJ XP acu Wy
theorem xz(ZQ:c.op=0):
 Calls prog 182 #[.agg (dX p v c h x)] w fun e w'=>e= .returned (.int .i64 (0))/\Below w.heap.size w w':=by
 have abk:=XP.r;have hN:=XP.h;have fg:=XP.v;have dv:=XP.a;have it:=XP.b;have gD:=XP.c;have fb:=aeJ.s;clear XP;obtain⟨op,V4,YM,Xr,a,b,VI⟩:=c;simp only at ZQ abk hN fg dv it gD;subst ZQ;have A: ∀w:World,Ask (w.alloc (.cells (dX p v ⟨0,V4,YM,Xr,a,b,VI⟩ h x) 289)) w.heap.size p v ⟨0,V4,YM,Xr,a,b,VI⟩ h x:=fun w=>ah.new w _ _;have Zn:=I A;have Yl:=I abo;have ZR:=I aeJ;clear A abo aeJ;go_enter func182,ntmps182;go_wp2_with fail;go_ret;refine⟨rfl,?_⟩;exact a2
theorem zk(ZQ:c.op=1):
 Calls prog 182 #[.agg (dX p v c h x)] w fun e w'=>e= .returned (.int .i64 (0))/\Below w.heap.size w w':=by
 have abk:=XP.r;have hN:=XP.h;have fg:=XP.v;have dv:=XP.a;have it:=XP.b;have gD:=XP.c;have fb:=aeJ.s;clear XP;obtain⟨op,V4,YM,Xr,a,b,VI⟩:=c;simp only at ZQ abk hN fg dv it gD;subst ZQ;have A: ∀w:World,Ask (w.alloc (.cells (dX p v ⟨1,V4,YM,Xr,a,b,VI⟩ h x) 289)) w.heap.size p v ⟨1,V4,YM,Xr,a,b,VI⟩ h x:=fun w=>ah.new w _ _;have Zn:=I A;have Yl:=I abo;have ZR:=I aeJ;clear A abo aeJ;go_enter func182,ntmps182;go_wp2_with fail;refine(mg _ _ _ _ (ah.q3 _ _ _ aN) J).mono ?_;rintro e aaM ⟨rfl,N⟩;have bz:=N.size;(repeat(first|rw[World.size_alloc]at bz|rw[World.size_drew]at bz));have YN:=(Ask.alloc (Zn.out _) _).below N;have aal:=(acr.alloc (acr.alloc Yl.out _) _).below N;go_wp2_with fail;refine(mJ _ _).mono ?_;rintro e WW ⟨rfl,be⟩;have c5:=be.size;(repeat(first|rw[World.size_alloc]at c5|rw[World.size_drew]at c5));have XW:=YN.below be;have abF:=aal.below be;go_wp2_with fail;go_ret;refine⟨rfl,?_⟩;exact a2
theorem uN(ZQ:c.op=2):
 Calls prog 182 #[.agg (dX p v c h x)] w fun e w'=>e= .returned (.int .i64 (ou (decide (1<=c.a)&&decide (c.a<=8192))))/\Below w.heap.size w w':=by
 have abk:=XP.r;have hN:=XP.h;have fg:=XP.v;have dv:=XP.a;have it:=XP.b;have gD:=XP.c;have fb:=aeJ.s;clear XP;obtain⟨op,V4,YM,Xr,a,b,VI⟩:=c;simp only at ZQ abk hN fg dv it gD;subst ZQ;have A: ∀w:World,Ask (w.alloc (.cells (dX p v ⟨2,V4,YM,Xr,a,b,VI⟩ h x) 289)) w.heap.size p v ⟨2,V4,YM,Xr,a,b,VI⟩ h x:=fun w=>ah.new w _ _;have Zn:=I A;have Yl:=I abo;have ZR:=I aeJ;clear A abo aeJ;go_enter func182,ntmps182;go_wp2_with fail;refine(fM _ _ _ _).mono ?_;rintro e w' ⟨rfl,rfl⟩;go_wp2_with fail;refine(mJ _ _).mono ?_;rintro e aaM ⟨rfl,N⟩;exact ov
theorem tm(ZQ:c.op=3):
 Calls prog 182 #[.agg (dX p v c h x)] w fun e w'=>e= .returned (.int .i64 (ep p c.a 1))/\Below w.heap.size w w':=by
 have abk:=XP.r;have hN:=XP.h;have fg:=XP.v;have dv:=XP.a;have it:=XP.b;have gD:=XP.c;have fb:=aeJ.s;clear XP;obtain⟨op,V4,YM,Xr,a,b,VI⟩:=c;simp only at ZQ abk hN fg dv it gD;subst ZQ;have A: ∀w:World,Ask (w.alloc (.cells (dX p v ⟨3,V4,YM,Xr,a,b,VI⟩ h x) 289)) w.heap.size p v ⟨3,V4,YM,Xr,a,b,VI⟩ h x:=fun w=>ah.new w _ _;have Zn:=I A;have Yl:=I abo;have ZR:=I aeJ;clear A abo aeJ;go_enter func182,ntmps182;go_wp2_with fail;refine(kW _ _ p v ⟨3,V4,YM,Xr,a,b,VI⟩ h x 1 (Zn.out _) ZR.out J).mono ?_;rintro e aaM ⟨rfl,N⟩;exact ov
theorem vP(ZQ:c.op=4):
 Calls prog 182 #[.agg (dX p v c h x)] w fun e w'=>e= .returned (.int .i64 (hG (ep p c.a 1) (ot l)))/\Below w.heap.size w w':=by
 have abk:=XP.r;have hN:=XP.h;have fg:=XP.v;have dv:=XP.a;have it:=XP.b;have gD:=XP.c;have fb:=aeJ.s;clear XP;obtain⟨op,V4,YM,Xr,a,b,VI⟩:=c;simp only at ZQ abk hN fg dv it gD;subst ZQ;have A: ∀w:World,Ask (w.alloc (.cells (dX p v ⟨4,V4,YM,Xr,a,b,VI⟩ h x) 289)) w.heap.size p v ⟨4,V4,YM,Xr,a,b,VI⟩ h x:=fun w=>ah.new w _ _;have Zn:=I A;have Yl:=I abo;have ZR:=I aeJ;clear A abo aeJ;go_enter func182,ntmps182;go_wp2_with fail;refine(kW _ _ p v ⟨4,V4,YM,Xr,a,b,VI⟩ h x 1 (Zn.out _) ZR.out J).mono ?_;rintro e aaM ⟨rfl,N⟩;have bz:=N.size;(repeat(first|rw[World.size_alloc]at bz|rw[World.size_drew]at bz));have YN:=(Zn.out _).below N;have aal:=(acr.alloc Yl.out _).below N;go_wp2_with fail;refine(BV _ S _ p v l ⟨4,V4,YM,Xr,a,b,VI⟩ h x YN aal J).mono ?_;rintro e WW ⟨rfl,be⟩;have c5:=be.size;(repeat(first|rw[World.size_alloc]at c5|rw[World.size_drew]at c5));have XW:=YN.below be;have abF:=aal.below be;go_wp2_with fail;refine(rH _ _ _ _ _ (ah.new _ _ _)).mono ?_;rintro e w3 ⟨rfl,fB⟩;have ij:=fB.size;(repeat(first|rw[World.size_alloc]at ij|rw[World.size_drew]at ij));have ZA:=(Ask.alloc XW _).below fB;have acL:=(acr.alloc abF _).below fB;go_wp2_with fail;go_ret;refine⟨rfl,?_⟩;exact a2
theorem A4(ZQ:c.op=6):
 Calls prog 182 #[.agg (dX p v c h x)] w fun e w'=>e= .returned (.int .i64 (ha (ep p c.a 0) (fA l c.a) (ot l)))/\Below w.heap.size w w':=by
 have abk:=XP.r;have hN:=XP.h;have fg:=XP.v;have dv:=XP.a;have it:=XP.b;have gD:=XP.c;have fb:=aeJ.s;clear XP;obtain⟨op,V4,YM,Xr,a,b,VI⟩:=c;simp only at ZQ abk hN fg dv it gD;subst ZQ;have A: ∀w:World,Ask (w.alloc (.cells (dX p v ⟨6,V4,YM,Xr,a,b,VI⟩ h x) 289)) w.heap.size p v ⟨6,V4,YM,Xr,a,b,VI⟩ h x:=fun w=>ah.new w _ _;have Zn:=I A;have Yl:=I abo;have ZR:=I aeJ;clear A abo aeJ;go_enter func182,ntmps182;go_wp2_with fail;refine(kW _ _ p v ⟨6,V4,YM,Xr,a,b,VI⟩ h x 0 (Zn.out _) ZR.out J).mono ?_;rintro e aaM ⟨rfl,N⟩;have bz:=N.size;(repeat(first|rw[World.size_alloc]at bz|rw[World.size_drew]at bz));have YN:=(Zn.out _).below N;have aal:=(acr.alloc Yl.out _).below N;go_wp2_with fail;refine(mf _ S _ p v l ⟨6,V4,YM,Xr,a,b,VI⟩ h x YN aal J).mono ?_;rintro e WW ⟨rfl,be⟩;have c5:=be.size;(repeat(first|rw[World.size_alloc]at c5|rw[World.size_drew]at c5));have XW:=YN.below be;have abF:=aal.below be;go_wp2_with fail;refine(BV _ S _ p v l ⟨6,V4,YM,Xr,a,b,VI⟩ h x XW abF J).mono ?_;rintro e w3 ⟨rfl,fB⟩;have ij:=fB.size;(repeat(first|rw[World.size_alloc]at ij|rw[World.size_drew]at ij));have ZA:=XW.below fB;have acL:=abF.below fB;go_wp2_with fail;refine(ox _ _ _ _ _ _ (ah.new _ _ _)).mono ?_;rintro e acJ ⟨rfl,h3⟩;have lE:=h3.size;(repeat(first|rw[World.size_alloc]at lE|rw[World.size_drew]at lE));have afu:=(Ask.alloc ZA _).below h3;have acS:=(acr.alloc acL _).below h3;go_wp2_with fail;go_ret;refine⟨rfl,?_⟩;exact a2
theorem uO(ZQ:c.op=10):
 Calls prog 182 #[.agg (dX p v c h x)] w fun e w'=>e= .returned (.int .i64 (ha 0 (ep p c.a 1) (fA l c.a)))/\Below w.heap.size w w':=by
 have abk:=XP.r;have hN:=XP.h;have fg:=XP.v;have dv:=XP.a;have it:=XP.b;have gD:=XP.c;have fb:=aeJ.s;clear XP;obtain⟨op,V4,YM,Xr,a,b,VI⟩:=c;simp only at ZQ abk hN fg dv it gD;subst ZQ;have A: ∀w:World,Ask (w.alloc (.cells (dX p v ⟨10,V4,YM,Xr,a,b,VI⟩ h x) 289)) w.heap.size p v ⟨10,V4,YM,Xr,a,b,VI⟩ h x:=fun w=>ah.new w _ _;have Zn:=I A;have Yl:=I abo;have ZR:=I aeJ;clear A abo aeJ;go_enter func182,ntmps182;go_wp2_with fail;refine(mg _ _ _ _ (ah.q3 _ _ _ aN) J).mono ?_;rintro e aaM ⟨rfl,N⟩;have bz:=N.size;(repeat(first|rw[World.size_alloc]at bz|rw[World.size_drew]at bz));have YN:=(Ask.alloc (Zn.out _) _).below N;have aal:=(acr.alloc (acr.alloc Yl.out _) _).below N;go_wp2_with fail;refine(mJ _ _).mono ?_;rintro e WW ⟨rfl,be⟩;have c5:=be.size;(repeat(first|rw[World.size_alloc]at c5|rw[World.size_drew]at c5));have XW:=YN.below be;have abF:=aal.below be;go_wp2_with fail;refine(kW _ _ p v ⟨10,V4,YM,Xr,a,b,VI⟩ h x 1 XW ZR.out J).mono ?_;rintro e w3 ⟨rfl,fB⟩;have ij:=fB.size;(repeat(first|rw[World.size_alloc]at ij|rw[World.size_drew]at ij));have ZA:=XW.below fB;have acL:=abF.below fB;go_wp2_with fail;refine(mf _ S _ p v l ⟨10,V4,YM,Xr,a,b,VI⟩ h x ZA acL J).mono ?_;rintro e acJ ⟨rfl,h3⟩;have lE:=h3.size;(repeat(first|rw[World.size_alloc]at lE|rw[World.size_drew]at lE));have afu:=ZA.below h3;have acS:=acL.below h3;go_wp2_with fail;refine(ox _ _ _ _ _ _ (ah.new _ _ _)).mono ?_;rintro e Wo ⟨rfl,j0⟩;have qE:=j0.size;(repeat(first|rw[World.size_alloc]at qE|rw[World.size_drew]at qE));have XQ:=(Ask.alloc afu _).below j0;have VF:=(acr.alloc acS _).below j0;go_wp2_with fail;go_ret;refine⟨rfl,?_⟩;exact a2
end
end
section
theorem oy{G:Prop}(h:G:=by
 have bz:=N.size;(repeat(first|rw[World.size_alloc]at bz|rw[World.size_drew]at bz));go_wp2_with fail;go_ret;refine⟨?_,?_⟩
 ·rfl
 exact a2):G:=h
theorem oz{G:Prop}(h:G:=by
 go_wp2_with fail;refine(mg _ _ _ _ (ah.q3 _ _ _ (by simp)) (by omega)).mono ?_;rintro e aaM ⟨rfl,N⟩;have bz:=N.size;(repeat(first|rw[World.size_alloc]at bz|rw[World.size_drew]at bz));have YN:=(Ask.alloc (Zn.out _) _).below N;have aeX:aaM.cell? ⟨w.heap.size,11,none⟩=some (.int .i64 VI):=ah.cell YN 11;have aal:=(acr.alloc (acr.alloc Yl.out _) _).below N;go_wp2_with fail;refine(fM _ _ _ _).mono ?_;rintro e w' ⟨rfl,rfl⟩;go_wp2_with fail;refine(mJ _ _).mono ?_;rintro e WW ⟨rfl,be⟩;have c5:=be.size;(repeat(first|rw[World.size_alloc]at c5|rw[World.size_drew]at c5));have XW:=YN.below be;have abF:=aal.below be;go_wp2_with fail;refine(rH _ _ _ _ _ (ah.new _ _ _)).mono ?_;rintro e w3 ⟨rfl,fB⟩;have ij:=fB.size;(repeat(first|rw[World.size_alloc]at ij|rw[World.size_drew]at ij));have ZA:=(Ask.alloc XW _).below fB;have acL:=(acr.alloc abF _).below fB;go_wp2_with fail;go_ret;refine⟨?_,?_⟩
 ·rfl
 exact a2):G:=h
theorem oA{G:Prop}(h:G:=by
 go_wp2_with fail;go_ret;refine⟨rfl,?_⟩;exact aeG.trans (Below.mono (by assumption) (Nat.le_of_lt qD))):G:=h
theorem oB{G:Prop}(h:G:=by
 have Zx:Wo.cell? ⟨w.heap.size,13,none⟩=some (.int .u64 x):=ah.cell XQ 13;go_wp2_with fail;go_ret;refine⟨?_,?_⟩
 ·rfl
 exact a2):G:=h
section
variable(w:World)(S:Nat->Prop)(p:afy)(v:Value)(l:List bO)(c:dM)(h x:Int)(abo:de w S v l)(YJ:l.length<=6)(aeJ:a9 p)(XP:cG c)(acu:aR h)(Wy:aR x)
include w S p v l c h x abo YJ aeJ XP acu Wy
theorem vQ(ZQ:c.op=5)(ti:l= []):
 Calls prog 182 #[.agg (dX p v c h x)] w fun e w'=>e= .returned (.int .i64 (23))/\Below w.heap.size w w':=by
 have abk:=XP.r;have hN:=XP.h;have fg:=XP.v;have dv:=XP.a;have it:=XP.b;have gD:=XP.c;have fb:=aeJ.s;clear XP;obtain⟨op,V4,YM,Xr,a,b,VI⟩:=c;simp only at ZQ abk hN fg dv it gD;subst ZQ;have A: ∀w:World,Ask (w.alloc (.cells (dX p v ⟨5,V4,YM,Xr,a,b,VI⟩ h x) 289)) w.heap.size p v ⟨5,V4,YM,Xr,a,b,VI⟩ h x:=fun w=>ah.new w _ _;have Zn:=I A;have Yl:=I abo;have ZR:=I aeJ;clear A abo aeJ;go_enter func182,ntmps182;obtain rfl:=ti;go_wp2_with fail;refine(Lr _ S _ (acr.alloc Yl.out _)).mono ?_;rintro e aaM ⟨rfl,N⟩;exact oy
theorem xA(ZQ:c.op=5)(ti: ∃pre s d,l=pre++ [⟨s,d⟩]):
 Calls prog 182 #[.agg (dX p v c h x)] w fun e w'=>e= .returned (.int .i64 (0))/\Below w.heap.size w w':=by
 have abk:=XP.r;have hN:=XP.h;have fg:=XP.v;have dv:=XP.a;have it:=XP.b;have gD:=XP.c;have fb:=aeJ.s;clear XP;obtain⟨op,V4,YM,Xr,a,b,VI⟩:=c;simp only at ZQ abk hN fg dv it gD;subst ZQ;have A: ∀w:World,Ask (w.alloc (.cells (dX p v ⟨5,V4,YM,Xr,a,b,VI⟩ h x) 289)) w.heap.size p v ⟨5,V4,YM,Xr,a,b,VI⟩ h x:=fun w=>ah.new w _ _;have Zn:=I A;have Yl:=I abo;have ZR:=I aeJ;clear A abo aeJ;go_enter func182,ntmps182;obtain⟨pre,s',d',rfl⟩:=ti;go_wp2_with fail;refine(EO _ S _ _ _ _ (acr.alloc Yl.out _) (by simp at YJ;omega)).mono ?_;rintro e aaM ⟨v',rfl,_,N⟩;exact oy
theorem uP(ZQ:c.op=7)(mK:(0<=c.a/\c.a<=6)/\0<=c.b/\c.b<=512):
 Calls prog 182 #[.agg (dX p v c h x)] w fun e w'=>e= .returned (.int .i64 (hG (ou true) 0))/\Below w.heap.size w w':=by
 have abk:=XP.r;have hN:=XP.h;have fg:=XP.v;have dv:=XP.a;have it:=XP.b;have gD:=XP.c;have fb:=aeJ.s;clear XP;obtain⟨op,V4,YM,Xr,a,b,VI⟩:=c;simp only at ZQ mK abk hN fg dv it gD;subst ZQ;have A: ∀w:World,Ask (w.alloc (.cells (dX p v ⟨7,V4,YM,Xr,a,b,VI⟩ h x) 289)) w.heap.size p v ⟨7,V4,YM,Xr,a,b,VI⟩ h x:=fun w=>ah.new w _ _;have Zn:=I A;have Yl:=I abo;have ZR:=I aeJ;clear A abo aeJ;go_enter func182,ntmps182;have VX:=I mK;clear mK;go_wp2_with fail;refine(qQ _ _ _ VX.out.1 VX.out.2).mono ?_;rintro e w' ⟨rfl,rfl⟩;exact oz
theorem uQ(ZQ:c.op=7)(mK: ¬((0<=c.a/\c.a<=6)/\0<=c.b/\c.b<=512)):
 Calls prog 182 #[.agg (dX p v c h x)] w fun e w'=>e= .returned (.int .i64 (hG (ou true) 1))/\Below w.heap.size w w':=by
 have abk:=XP.r;have hN:=XP.h;have fg:=XP.v;have dv:=XP.a;have it:=XP.b;have gD:=XP.c;have fb:=aeJ.s;clear XP;obtain⟨op,V4,YM,Xr,a,b,VI⟩:=c;simp only at ZQ mK abk hN fg dv it gD;subst ZQ;have A: ∀w:World,Ask (w.alloc (.cells (dX p v ⟨7,V4,YM,Xr,a,b,VI⟩ h x) 289)) w.heap.size p v ⟨7,V4,YM,Xr,a,b,VI⟩ h x:=fun w=>ah.new w _ _;have Zn:=I A;have Yl:=I abo;have ZR:=I aeJ;clear A abo aeJ;go_enter func182,ntmps182;have VX:=I mK;clear mK;go_wp2_with fail;refine(A3 _ _ _ (by have:=VX.out;omega)).mono ?_;rintro e w' ⟨rfl,rfl⟩;exact oz
theorem vR(ZQ:c.op=11)(mK:ha 0 (ep p c.a 1) (fA l c.a)≠0):
 Calls prog 182 #[.agg (dX p v c h x)] w fun e w'=>e= .returned (.int .i64 (ha 0 (ep p c.a 1) (fA l c.a)))/\Below w.heap.size w w':=by
 have abk:=XP.r;have hN:=XP.h;have fg:=XP.v;have dv:=XP.a;have it:=XP.b;have gD:=XP.c;have fb:=aeJ.s;clear XP;obtain⟨op,V4,YM,Xr,a,b,VI⟩:=c;simp only at ZQ mK abk hN fg dv it gD;subst ZQ;have A: ∀w:World,Ask (w.alloc (.cells (dX p v ⟨11,V4,YM,Xr,a,b,VI⟩ h x) 289)) w.heap.size p v ⟨11,V4,YM,Xr,a,b,VI⟩ h x:=fun w=>ah.new w _ _;have Zn:=I A;have Yl:=I abo;have ZR:=I aeJ;clear A abo aeJ;go_enter func182,ntmps182;have VX:=I mK;clear mK;go_wp2_with fail;refine(mg _ _ _ _ (ah.q3 _ _ _ aN) J).mono ?_;rintro e aaM ⟨rfl,N⟩;have bz:=N.size;(repeat(first|rw[World.size_alloc]at bz|rw[World.size_drew]at bz));have YN:=(Ask.alloc (Zn.out _) _).below N;have aal:=(acr.alloc (acr.alloc Yl.out _) _).below N;go_wp2_with fail;refine(mJ _ _).mono ?_;rintro e WW ⟨rfl,be⟩;have c5:=be.size;(repeat(first|rw[World.size_alloc]at c5|rw[World.size_drew]at c5));have XW:=YN.below be;have abF:=aal.below be;go_wp2_with fail;refine(kW _ _ p v ⟨11,V4,YM,Xr,a,b,VI⟩ h x 1 XW ZR.out J).mono ?_;rintro e w3 ⟨rfl,fB⟩;have ij:=fB.size;(repeat(first|rw[World.size_alloc]at ij|rw[World.size_drew]at ij));have ZA:=XW.below fB;have acL:=abF.below fB;go_wp2_with fail;refine(mf _ S _ p v l ⟨11,V4,YM,Xr,a,b,VI⟩ h x ZA acL J).mono ?_;rintro e acJ ⟨rfl,h3⟩;have lE:=h3.size;(repeat(first|rw[World.size_alloc]at lE|rw[World.size_drew]at lE));have afu:=ZA.below h3;have acS:=acL.below h3;go_wp2_with fail;refine(ox _ _ _ _ _ _ (ah.new _ _ _)).mono ?_;rintro e Wo ⟨rfl,j0⟩;have qE:=j0.size;(repeat(first|rw[World.size_alloc]at qE|rw[World.size_drew]at qE));have XQ:=(Ask.alloc afu _).below j0;have VF:=(acr.alloc acS _).below j0;have q1:(ha 0 (ep p a 1) (fA l a)==0)=false:=by simpa using VX.out
 exact oB
theorem vS(ZQ:c.op=11)(mK:ha 0 (ep p c.a 1) (fA l c.a)=0/\x=0):
 Calls prog 182 #[.agg (dX p v c h x)] w fun e w'=>e= .returned (.int .i64 (0))/\Below w.heap.size w w':=by
 have abk:=XP.r;have hN:=XP.h;have fg:=XP.v;have dv:=XP.a;have it:=XP.b;have gD:=XP.c;have fb:=aeJ.s;clear XP;obtain⟨op,V4,YM,Xr,a,b,VI⟩:=c;simp only at ZQ mK abk hN fg dv it gD;subst ZQ;have A: ∀w:World,Ask (w.alloc (.cells (dX p v ⟨11,V4,YM,Xr,a,b,VI⟩ h x) 289)) w.heap.size p v ⟨11,V4,YM,Xr,a,b,VI⟩ h x:=fun w=>ah.new w _ _;have Zn:=I A;have Yl:=I abo;have ZR:=I aeJ;clear A abo aeJ;go_enter func182,ntmps182;have VX:=I mK;clear mK;go_wp2_with fail;refine(mg _ _ _ _ (ah.q3 _ _ _ aN) J).mono ?_;rintro e aaM ⟨rfl,N⟩;have bz:=N.size;(repeat(first|rw[World.size_alloc]at bz|rw[World.size_drew]at bz));have YN:=(Ask.alloc (Zn.out _) _).below N;have aal:=(acr.alloc (acr.alloc Yl.out _) _).below N;go_wp2_with fail;refine(mJ _ _).mono ?_;rintro e WW ⟨rfl,be⟩;have c5:=be.size;(repeat(first|rw[World.size_alloc]at c5|rw[World.size_drew]at c5));have XW:=YN.below be;have abF:=aal.below be;go_wp2_with fail;refine(kW _ _ p v ⟨11,V4,YM,Xr,a,b,VI⟩ h x 1 XW ZR.out J).mono ?_;rintro e w3 ⟨rfl,fB⟩;have ij:=fB.size;(repeat(first|rw[World.size_alloc]at ij|rw[World.size_drew]at ij));have ZA:=XW.below fB;have acL:=abF.below fB;go_wp2_with fail;refine(mf _ S _ p v l ⟨11,V4,YM,Xr,a,b,VI⟩ h x ZA acL J).mono ?_;rintro e acJ ⟨rfl,h3⟩;have lE:=h3.size;(repeat(first|rw[World.size_alloc]at lE|rw[World.size_drew]at lE));have afu:=ZA.below h3;have acS:=acL.below h3;go_wp2_with fail;refine(ox _ _ _ _ _ _ (ah.new _ _ _)).mono ?_;rintro e Wo ⟨rfl,j0⟩;have qE:=j0.size;(repeat(first|rw[World.size_alloc]at qE|rw[World.size_drew]at qE));have XQ:=(Ask.alloc afu _).below j0;have VF:=(acr.alloc acS _).below j0;have q1:ha 0 (ep p a 1) (fA l a)=0:=VX.out.1;have Xt:x=0:=VX.out.2;exact oB
theorem xB(ZQ:c.op=11)(mK:ha 0 (ep p c.a 1) (fA l c.a)=0/\x≠0):
 Calls prog 182 #[.agg (dX p v c h x)] w fun e w'=>e= .returned (.int .i64 (check p l x))/\Below w.heap.size w w':=by
 have abk:=XP.r;have hN:=XP.h;have fg:=XP.v;have dv:=XP.a;have it:=XP.b;have gD:=XP.c;have fb:=aeJ.s;clear XP;obtain⟨op,V4,YM,Xr,a,b,VI⟩:=c;simp only at ZQ mK abk hN fg dv it gD;subst ZQ;have A: ∀w:World,Ask (w.alloc (.cells (dX p v ⟨11,V4,YM,Xr,a,b,VI⟩ h x) 289)) w.heap.size p v ⟨11,V4,YM,Xr,a,b,VI⟩ h x:=fun w=>ah.new w _ _;have Zn:=I A;have Yl:=I abo;have ZR:=I aeJ;clear A abo aeJ;go_enter func182,ntmps182;have VX:=I mK;clear mK;go_wp2_with fail;refine(mg _ _ _ _ (ah.q3 _ _ _ aN) J).mono ?_;rintro e aaM ⟨rfl,N⟩;have bz:=N.size;(repeat(first|rw[World.size_alloc]at bz|rw[World.size_drew]at bz));have YN:=(Ask.alloc (Zn.out _) _).below N;have aal:=(acr.alloc (acr.alloc Yl.out _) _).below N;go_wp2_with fail;refine(mJ _ _).mono ?_;rintro e WW ⟨rfl,be⟩;have c5:=be.size;(repeat(first|rw[World.size_alloc]at c5|rw[World.size_drew]at c5));have XW:=YN.below be;have abF:=aal.below be;go_wp2_with fail;refine(kW _ _ p v ⟨11,V4,YM,Xr,a,b,VI⟩ h x 1 XW ZR.out J).mono ?_;rintro e w3 ⟨rfl,fB⟩;have ij:=fB.size;(repeat(first|rw[World.size_alloc]at ij|rw[World.size_drew]at ij));have ZA:=XW.below fB;have acL:=abF.below fB;go_wp2_with fail;refine(mf _ S _ p v l ⟨11,V4,YM,Xr,a,b,VI⟩ h x ZA acL J).mono ?_;rintro e acJ ⟨rfl,h3⟩;have lE:=h3.size;(repeat(first|rw[World.size_alloc]at lE|rw[World.size_drew]at lE));have afu:=ZA.below h3;have acS:=acL.below h3;go_wp2_with fail;refine(ox _ _ _ _ _ _ (ah.new _ _ _)).mono ?_;rintro e Wo ⟨rfl,j0⟩;have qE:=j0.size;(repeat(first|rw[World.size_alloc]at qE|rw[World.size_drew]at qE));have XQ:=(Ask.alloc afu _).below j0;have VF:=(acr.alloc acS _).below j0;have q1:ha 0 (ep p a 1) (fA l a)=0:=VX.out.1;have Xt:(x==0)=false:=by simpa using VX.out.2
 have ada:(x !=0)=true:=by simpa using VX.out.2
 have Zx:Wo.cell? ⟨w.heap.size,13,none⟩=some (.int .u64 x):=ah.cell XQ 13;go_wp2_with fail;refine(sA _ S _ p v l ⟨11,V4,YM,Xr,a,b,VI⟩ h x _ XQ VF J Wy).mono ?_;rintro e ae5 ⟨rfl,tn⟩;have UA:=tn.size;go_wp2_with fail;go_ret;refine⟨?_,?_⟩
 ·rfl
 exact a2
theorem xC(ZQ:c.op=8):
 Calls prog 182 #[.agg (dX p v c h x)] w fun e w'=>e= .returned (.int .i64 (hG 0 (check p l h)))/\Below w.heap.size w w':=by
 have abk:=XP.r;have hN:=XP.h;have fg:=XP.v;have dv:=XP.a;have it:=XP.b;have gD:=XP.c;have fb:=aeJ.s;clear XP;obtain⟨op,V4,YM,Xr,a,b,VI⟩:=c;simp only at ZQ abk hN fg dv it gD;subst ZQ;have A: ∀w:World,Ask (w.alloc (.cells (dX p v ⟨8,V4,YM,Xr,a,b,VI⟩ h x) 289)) w.heap.size p v ⟨8,V4,YM,Xr,a,b,VI⟩ h x:=fun w=>ah.new w _ _;have Zn:=I A;have Yl:=I abo;have ZR:=I aeJ;clear A abo aeJ;go_enter func182,ntmps182;have ac9:=Zn.out w;have V9:=acr.alloc Yl.out (.cells (dX p v ⟨8,V4,YM,Xr,a,b,VI⟩ h x) 289);have aeG:=World.dY w (.cells (dX p v ⟨8,V4,YM,Xr,a,b,VI⟩ h x) 289);have qD:w.heap.size<(w.alloc (.cells (dX p v ⟨8,V4,YM,Xr,a,b,VI⟩ h x) 289)).heap.size:=aN;go_wp2_with fail;generalize(w.alloc (.cells (dX p v ⟨8,V4,YM,Xr,a,b,VI⟩ h x) 289))=dw at*;have ac9:=I ac9;have V9:=I V9;have aaK: ∀w',Below dw.heap.size dw w'->w'.cell? ⟨w.heap.size,6,none⟩=some (.int .u8 V4):=fun w' g=>(g.cell (p:=⟨w.heap.size,6,none⟩) qD).trans (ac9.out.cell 6);have abq: ∀w',Below dw.heap.size dw w'->w'.cell? ⟨w.heap.size,7,none⟩=some (.int .u8 YM):=fun w' g=>(g.cell (p:=⟨w.heap.size,7,none⟩) qD).trans (ac9.out.cell 7);have abb: ∀w',Below dw.heap.size dw w'->w'.cell? ⟨w.heap.size,12,none⟩=some (.int .u64 h):=fun w' g=>(g.cell (p:=⟨w.heap.size,12,none⟩) qD).trans (ac9.out.cell 12);clear Zn;go_region_held3 (fun w'=>Below dw.heap.size dw w') (first|exact(Below.refl _ _).drew|assumption|exact Below.trans (by assumption) (Below.mono (by assumption) (Below.size (by assumption)))|exact Below.alloc (by assumption) (Below.size (by assumption)) _|exact Below.alloc (Below.refl _ _).drew (ai _) _)
  (first|(go_at_call 261;refine(zj _ _ _ _ _ (ah.drew (ah.new _ _ _)) J J).mono ?_;rintro e aeZ ⟨rfl,Sv⟩)|(go_at_call 258;refine(mJ _ _).mono ?_;rintro e Zc ⟨rfl,sB⟩)|(go_at_call 259;refine(sA _ S _ p v l ⟨8,V4,YM,Xr,a,b,VI⟩ h x _ (ah.below ac9.out (by assumption) qD) (acr.below V9.out (by assumption)) J acu).mono ?_;rintro e wc ⟨rfl,Sw⟩)|(go_at_call 262;refine(rH _ _ _ _ _ (ah.q3 _ _ _ (by(first|rfl|(simp;done))))).mono ?_;rintro e wf ⟨rfl,CX⟩))
 exact oA
theorem vT(ZQ:c.op=9):
 Calls prog 182 #[.agg (dX p v c h x)] w fun e w'=>e= .returned (.int .i64 (hG 0 (check p l h)))/\Below w.heap.size w w':=by
 have abk:=XP.r;have hN:=XP.h;have fg:=XP.v;have dv:=XP.a;have it:=XP.b;have gD:=XP.c;have fb:=aeJ.s;clear XP;obtain⟨op,V4,YM,Xr,a,b,VI⟩:=c;simp only at ZQ abk hN fg dv it gD;subst ZQ;have A: ∀w:World,Ask (w.alloc (.cells (dX p v ⟨9,V4,YM,Xr,a,b,VI⟩ h x) 289)) w.heap.size p v ⟨9,V4,YM,Xr,a,b,VI⟩ h x:=fun w=>ah.new w _ _;have Zn:=I A;have Yl:=I abo;have ZR:=I aeJ;clear A abo aeJ;go_enter func182,ntmps182;have ac9:=Zn.out w;have V9:=acr.alloc Yl.out (.cells (dX p v ⟨9,V4,YM,Xr,a,b,VI⟩ h x) 289);have aeG:=World.dY w (.cells (dX p v ⟨9,V4,YM,Xr,a,b,VI⟩ h x) 289);have qD:w.heap.size<(w.alloc (.cells (dX p v ⟨9,V4,YM,Xr,a,b,VI⟩ h x) 289)).heap.size:=aN;go_wp2_with fail;generalize(w.alloc (.cells (dX p v ⟨9,V4,YM,Xr,a,b,VI⟩ h x) 289))=dw at*;have ac9:=I ac9;have V9:=I V9;have aaK: ∀w',Below dw.heap.size dw w'->w'.cell? ⟨w.heap.size,7,none⟩=some (.int .u8 YM):=fun w' g=>(g.cell (p:=⟨w.heap.size,7,none⟩) qD).trans (ac9.out.cell 7);have abq: ∀w',Below dw.heap.size dw w'->w'.cell? ⟨w.heap.size,8,none⟩=some (.int .u8 Xr):=fun w' g=>(g.cell (p:=⟨w.heap.size,8,none⟩) qD).trans (ac9.out.cell 8);have abb: ∀w',Below dw.heap.size dw w'->w'.cell? ⟨w.heap.size,12,none⟩=some (.int .u64 h):=fun w' g=>(g.cell (p:=⟨w.heap.size,12,none⟩) qD).trans (ac9.out.cell 12);clear Zn;go_region_held3 (fun w'=>Below dw.heap.size dw w') (first|exact(Below.refl _ _).drew|assumption|exact Below.trans (by assumption) (Below.mono (by assumption) (Below.size (by assumption)))|exact Below.alloc (by assumption) (Below.size (by assumption)) _|exact Below.alloc (Below.refl _ _).drew (ai _) _)
  (first|(go_at_call 261;refine(zj _ _ _ _ _ (ah.drew (ah.new _ _ _)) J J).mono ?_;rintro e aeZ ⟨rfl,Sv⟩)|(go_at_call 258;refine(mJ _ _).mono ?_;rintro e Zc ⟨rfl,sB⟩)|(go_at_call 259;refine(sA _ S _ p v l ⟨9,V4,YM,Xr,a,b,VI⟩ h x _ (ah.below ac9.out (by assumption) qD) (acr.below V9.out (by assumption)) J acu).mono ?_;rintro e wc ⟨rfl,Sw⟩)|(go_at_call 262;refine(rH _ _ _ _ _ (ah.q3 _ _ _ (by(first|rfl|(simp;done))))).mono ?_;rintro e wf ⟨rfl,CX⟩))
 exact oA
end
end
section
theorem oC{G:Prop}(h:G:=by
 unfold b2 ha ep fA;by_cases q:1<=c.a/\c.a<p.s<;>by_cases Xt:reach l c.a<;>simp[o,q,Xt]):G:=h
section
variable(w:World)(S:Nat->Prop)(p:afy)(v:Value)(l:List bO)(c:dM)(h x:Int)(abo:de w S v l)(YJ:l.length<=6)
include w S p v l c h x abo YJ
theorem wD(aeJ:a9 p)(XP:cG c)(acu:aR h)(Wy:aR x):
 Calls prog 182 #[.agg (dX p v c h x)] w fun e w'=>e= .returned (.int .i64 (b2 p l c h x))/\Below w.heap.size w w':=by
 have ZQ:=XP.op;rcases(by omega:c.op=0\/c.op=1\/c.op=2\/c.op=3\/c.op=4\/c.op=5\/c.op=6\/c.op=7\/c.op=8\/c.op=9\/c.op=10\/c.op=11)with o|o|o|o|o|o|o|o|o|o|o|o
 ·have e:b2 p l c h x=0:=by unfold b2;simp[o]
  rw[e];exact xz w S p v l c h x abo YJ aeJ XP acu Wy o
 ·have e:b2 p l c h x=0:=by unfold b2;simp[o]
  rw[e];exact zk w S p v l c h x abo YJ aeJ XP acu Wy o
 ·have e:b2 p l c h x=ou (decide (1<=c.a)&&decide (c.a<=8192)):=by
   unfold b2 ou;simp[o]
  rw[e];exact uN w S p v l c h x abo YJ aeJ XP acu Wy o
 ·have e:b2 p l c h x=ep p c.a 1:=by unfold b2 ep;simp[o]
  rw[e];exact tm w S p v l c h x abo YJ aeJ XP acu Wy o
 ·have e:b2 p l c h x=hG (ep p c.a 1) (ot l):=by
   unfold b2 hG ep ot;by_cases q:1<=c.a/\c.a<p.s<;>simp[o,q]
  rw[e];exact vP w S p v l c h x abo YJ aeJ XP acu Wy o
 ·rcases ct l with q|⟨pre,⟨s,d⟩,q⟩
  ·have e:b2 p l c h x=23:=by unfold b2;simp[o,q]
   rw[e];exact vQ w S p v l c h x abo YJ aeJ XP acu Wy o q
  ·rw[cu]at q;have e:b2 p l c h x=0:=by unfold b2;simp[o,q]
   rw[e];exact xA w S p v l c h x abo YJ aeJ XP acu Wy o ⟨_,_,_,q⟩
 ·have e:b2 p l c h x=ha (ep p c.a 0) (fA l c.a) (ot l):=by
   unfold b2 ha ep ot fA;by_cases q:0<=c.a/\c.a<p.s<;>by_cases Xt:reach l c.a<;>simp[o,q,Xt]
  rw[e];exact A4 w S p v l c h x abo YJ aeJ XP acu Wy o
 ·by_cases q:(0<=c.a/\c.a<=6)/\0<=c.b/\c.b<=512
  ·have e:b2 p l c h x=hG (ou true) 0:=by
    unfold b2 hG ou;simp only[o,q];simp
   rw[e];exact uP w S p v l c h x abo YJ aeJ XP acu Wy o q
  ·have e:b2 p l c h x=hG (ou true) 1:=by
    unfold b2 hG ou;simp only[o,q];simp
   rw[e];exact uQ w S p v l c h x abo YJ aeJ XP acu Wy o q
 ·have e:b2 p l c h x=hG 0 (check p l h):=by unfold b2 hG;simp[o]
  rw[e];exact xC w S p v l c h x abo YJ aeJ XP acu Wy o
 ·have e:b2 p l c h x=hG 0 (check p l h):=by unfold b2 hG;simp[o]
  rw[e];exact vT w S p v l c h x abo YJ aeJ XP acu Wy o
 ·have e:b2 p l c h x=ha 0 (ep p c.a 1) (fA l c.a):=by
   exact oC
  rw[e];exact uO w S p v l c h x abo YJ aeJ XP acu Wy o
 ·have e:b2 p l c h x=if ha 0 (ep p c.a 1) (fA l c.a)=0 then(if x=0 then 0 else check p l x)else ha 0 (ep p c.a 1) (fA l c.a):=by
   exact oC
  rw[e];by_cases q:ha 0 (ep p c.a 1) (fA l c.a)=0
  ·rw[Z q];by_cases Xt:x=0
   ·rw[Z Xt];exact vS w S p v l c h x abo YJ aeJ XP acu Wy o ⟨q,Xt⟩
   ·rw[Y Xt];exact xB w S p v l c h x abo YJ aeJ XP acu Wy o ⟨q,Xt⟩
  ·rw[Y q];exact vR w S p v l c h x abo YJ aeJ XP acu Wy o q
theorem PD(ZQ:0<=c.op/\c.op<=11)(afY:c.op=5->l≠ []):
 Calls prog 183 #[.agg (dX p v c h x)] w fun e w'=>e= .returned (.int .i64 (jo l c x))/\Below w.heap.size w w':=by
 obtain⟨op,V4,YM,Xr,a,b,VI⟩:=c;simp only at ZQ afY;by_cases YZ:op=5
 ·subst YZ;rcases ct l with rfl|⟨pre,⟨s,d⟩,rfl⟩
  ·exact absurd rfl (afY rfl)
  rw[cu]at*;have e:jo (pre++ [⟨s,d⟩]) ⟨5,V4,YM,Xr,a,b,VI⟩ x=if d then 15 else 0:=by
   unfold jo;cases d<;>simp
  rw[e];clear e afY;obtain⟨A,c,rfl,h1,aaV,ZV⟩:=id abo;obtain⟨_,b',off,rfl,YF,hb,_,XP⟩:=abo.at_ (i:=pre.length) (e:=⟨s,d⟩) aN;clear abo h1 aaV ZV;rw[ak,dh]at*;generalize pre.length=m at*;cases d
  ·go_enter func183,ntmps183;go_wp2_with fail;go_ret;refine⟨rfl,?_⟩;exact a2
  ·go_enter func183,ntmps183;go_wp2_with fail;go_ret;refine⟨rfl,?_⟩;exact a2
 ·by_cases PE:op=11
  ·subst PE;by_cases q:x=0
   ·have e:jo l ⟨11,V4,YM,Xr,a,b,VI⟩ x=12:=by unfold jo;simp[q]
    rw[e];subst q;clear abo afY e;go_enter func183,ntmps183;go_wp2_with fail;go_ret;refine⟨rfl,?_⟩;exact a2
   ·have e:jo l ⟨11,V4,YM,Xr,a,b,VI⟩ x=7:=by unfold jo;simp[q]
    rw[e];have Xt:(x==0)=false:=by simpa using q
    clear abo afY e q;go_enter func183,ntmps183;go_wp2_with fail;go_ret;refine⟨rfl,?_⟩;exact a2
  ·clear abo afY;rcases(by omega:op=0\/op=1\/op=2\/op=3\/op=4\/op=6\/op=7\/op=8\/op=9\/op=10)with rfl|rfl|rfl|rfl|rfl|rfl|rfl|rfl|rfl|rfl
   all_goals
    clear YZ PE ZQ;unfold jo;simp only;go_enter func183,ntmps183;go_wp2_with fail;go_ret;refine⟨rfl,?_⟩;exact a2
end
theorem lA(w:World)(S:Nat->Prop)(aep:Value)(regs:Nat->Int)(g:Nat)(t:TypeId)(i:Int)(hb:ah w g t #[aep])(h:acr w S aep 4 1 fun j=> [.int .u64 (regs j)])(hi:0<=i/\i<=3):
 Calls prog 180 #[.int .u8 i,.pointer (some ⟨g,0,none⟩)] w fun e w'=>e= .returned (.int .u64 (regs i.toNat))/\w=w':=by
 obtain⟨k,rfl⟩: ∃k:Nat,i=k:=⟨i.toNat,J⟩
 obtain⟨A,c,rfl,h1,aaV,ZV⟩:=h;obtain⟨b,off,rfl,YF,bV,XP⟩:=ZV J;have VI:=hb.cell 0;simp at VI;have ae3:=XP k 0 (.int .u64 (regs k)) J rfl;simp at ae3;clear ZV XP hb;have uR:k<4:=J;clear hi;simp only[bL];go_enter func180,ntmps180;go_wp2_with fail;go_ret;exact⟨rfl,rfl⟩
end
end Go.Proofs.YtcimojgkeoecfaaGreat
