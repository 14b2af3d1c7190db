import Derived.Test.YtcimojgkeoecfaaGreatVbd
import Derived.Test.YtcimojgkeoecfaaGreatVat
set_option linter.all false
set_option maxHeartbeats 16000000
set_option maxRecDepth 100000
namespace Go.Proofs.YtcimojgkeoecfaaGreat
open Go.RowKit Tryz
section
theorem oq{G:Prop}(h:G:=by
 clear q;generalize c.a=y at*;go_enter func256,ntmps256;go_wp2_with(first|(go_at_call 218;refine(UD _ H.out).mono ?_;rintro e EH ⟨rfl,N⟩));go_ret;exact⟨rfl,N⟩):G:=h
theorem KC.lit{w:World}{S:Nat->Prop}{g:Nat}{t:TypeId}{cs:Array Value}(hb:ah w g t cs)(c:S g)(n:Nat)(F:Nat->List Value)(d:n<=1000)(hF: ∀i,i<n->F i= [cs.getD i (.bool false)]/\i<cs.size):
 KC w S (.slice (some ⟨g,0,none⟩) n n) n 1 F:=by
 refine⟨_,_,rfl,ai _,by unfold maxLen;omega,fun _=>⟨g,0,rfl,c,hb.lt,fun i j u hi hu=>?_⟩⟩;obtain⟨h1,a⟩:=hF i hi;rw[h1]at hu;have b:j=0:=by have:=(List.getElem?_eq_some_iff.1 hu).1;simpa using this
 subst b;simp at hu;rw[hb.cell,ax,Nat.mul_one,cZ,Array.getElem?_eq_getElem a];simpa [a]using hu
theorem Dd(x:Int)(w:World)(h:0<=x/\x<=3):Calls prog 315 #[.int .u8 x] w fun e w'=>e= .returned (.bool false)/\Below w.heap.size w w':=by
 go_enter func315,ntmps315;go_wp2_with fail;go_ret;exact⟨qx (by simp;omega),Below.refl _ _⟩
theorem zh(w:World)(S:Nat->Prop)(v:Value)(n:Nat)(f:Nat->Int)(h:KC w S v n 1 (fun i=> [.int .u8 (f i)]))(c:n<=65536)(b: ∀i,i<n->0<=f i/\f i<=3):
 Calls prog 261 #[v] w fun e w'=>e= .returned (.bool true)/\Below w.heap.size w w':=by
 have a: ∀args w,(callFunc 315 args).run prog w= .ok (.enter 315 args) w:=enters_of func315 aM rfl;have g:=fun w h=>wk w S v n _ (fun i=>.int .u8 (f i)) 315 #[] (fun _=>false) a h (fun i _=>rfl) c (fun i hi w' _=>Dd (f i) w' (b i hi));have H:=I h;have j:=I g;clear h g a b;go_enter func261,ntmps261;go_wp2_with(first|(refine(j.out _ H.out).mono ?_;rintro e k ⟨r,rfl,d,N⟩));obtain rfl:r=false:=by
  rcases d with⟨rfl,_⟩|⟨_,i,_,h⟩
  ·rfl
  ·cases h
 go_ret;exact⟨rfl,N⟩
def me:List Int->Int
 | []=>0
 |x::l=>if x=0 then me l else x
theorem uM{l:List Int}{k:Nat}{x:Int}(h:l[k]? =some x):me (l.drop k)=if x=0 then me (l.drop (k+1))else x:=by
 obtain⟨a,rfl⟩:=List.getElem?_eq_some_iff.1 h;rw[List.drop_eq_getElem_cons a,me]
theorem zi(w:World)(S:Nat->Prop)(v:Value)(l:List Int)(h:cF w S v l)(z:l.length<=1000):
 Calls prog 262 #[v] w fun e w'=>e= .returned (.int .i64 (me l))/\Below w.heap.size w w':=by
 obtain⟨A,c,rfl,h1,g,p⟩:=id h;clear h h1 g;generalize d:l.length=n at*;have o:=I d;have H:=I p;clear p d;go_enter func262,ntmps262;go_wp2_with fail;go_loopw [7] (fun i wr=> ∃k:Nat,k<=n/\i= .int .i64 k/\Hid (me l=me (l.drop k))/\wr=w) (fun i _=>n-(intOf i).toNat)
 case atStart=>exact⟨0,J,rfl,I rfl,by first|rfl|trivial⟩
 case round=>
  obtain⟨k,u,rfl,f,rfl⟩:=hrel;by_cases q:k<n
  ·have a: ∃x,l[k]? =some x:=⟨_,an (by have:=o.out;omega)⟩
   obtain⟨x,a⟩:=a;obtain⟨b,off,rfl,y,hb,m⟩:=H.out J;have B:wr.cell? ⟨b,off+k,none⟩=some (.int .i64 x):=by
    have:=m k 0 (.int .i64 x) q (by simp[hq,a]);simpa using this
   have j:=I a;clear a m;by_cases e:x=0
   ·subst e;go_wp2_with fail;go_roundw
    case rel=>exact⟨k+1,J,by go_num,I (by rw[f.out,uM j.out,Z rfl]),by first|rfl|trivial⟩
    case measure=>simp[intOf];omega
   ·have s:(x==0)=false:=by simpa using e
    have t:(x !=0)=true:=by simpa using e
    have r:=I e;clear e;go_wp2_with fail;go_ret;refine⟨lC ?_,Below.refl _ _⟩;rw[f.out,uM j.out,Y r.out]
  ·obtain rfl:k=n:=by omega
   go_wp2_with fail;go_ret;refine⟨lC ?_,Below.refl _ _⟩;rw[f.out,<-o.out,List.drop_length];rfl
abbrev dX(p:PO)(v:Value)(c:dM)(h x:Int):Array Value:= #[.int .i64 p.s,.int .i64 p.t,.int .i64 p.i,.int .i64 p.h,v,.int .u8 c.op,.int .u8 c.r,.int .u8 c.h,.int .u8 c.v,.int .i64 c.a,.int .i64 c.b,.int .i64 c.c,.int .u64 h,.int .u64 x]
def Ask(w:World)(g:Nat)(p:PO)(v:Value)(c:dM)(h x:Int):Prop:=ah w g 289 (dX p v c h x)
theorem Ask.below{w w':World}{g:Nat}{p:PO}{v:Value}{c:dM}{h x:Int}(a:Ask w g p v c h x)(k:Below w.heap.size w w'):Ask w' g p v c h x:=ah.below a k a.lt
def ep(p:PO)(a f:Int):Int:=if f<=a/\a<p.s then 0 else 11
def fA(l:List bO)(a:Int):Int:=if reach l a then 0 else 20
def ot(l:List bO):Int:=if l.length<6 then 0 else 24
def ou(b:Bool):Int:=if b then 0 else 1
section
variable(w:World)
include w
theorem kW(g:Nat)(p:PO)(v:Value)(c:dM)(h x f:Int)(a:Ask w g p v c h x)(b:a9 p)(j:0<=f/\f<=1):
 Calls prog 255 #[.int .i64 f,.pointer (some ⟨g,0,none⟩)] w fun e w'=>e= .returned (.int .i64 (ep p c.a f))/\Below w.heap.size w w':=by
 unfold ep;have i:=a.cell 0;have d:=a.cell 9;have k:=b.s;simp at i d;clear a b;by_cases q:f<=c.a/\c.a<p.s
 ·rw[Z q];generalize c.a=y at*;generalize p.s=s at*;go_enter func255,ntmps255;go_wp2_with(first|(go_at_call 104;refine(bm _ _ _ _ J J).mono ?_;rintro e w' ⟨rfl,rfl⟩));go_ret;exact⟨rfl,Below.refl _ _⟩
 ·rw[Y q];generalize c.a=y at*;generalize p.s=s at*;go_enter func255,ntmps255;go_wp2_with(first|(go_at_call 104;refine(fq _ _ _ _ J).mono ?_;rintro e w' ⟨rfl,rfl⟩));go_ret;exact⟨rfl,Below.refl _ _⟩
section
variable(S:Nat->Prop)(g:Nat)(p:PO)(v:Value)(l:List bO)(c:dM)(h x:Int)(a:Ask w g p v c h x)(b:de w S v l)(d:l.length<=65536)
include S g p v l c h x a b d
theorem mf:
 Calls prog 256 #[.pointer (some ⟨g,0,none⟩)] w fun e w'=>e= .returned (.int .i64 (fA l c.a))/\Below w.heap.size w w':=by
 unfold fA;have i:=a.cell 4;have f:=a.cell 9;simp at i f;have UD:=fun w (h':de w S v l)=>tS w S v l c.a h' d;have H:=I b;clear a b;by_cases q:reach l c.a
 ·rw[Z q];rw[decide_eq_true q]at UD;exact oq
 ·rw[Y q];rw[decide_eq_false q]at UD;exact oq
theorem BV:
 Calls prog 257 #[.pointer (some ⟨g,0,none⟩)] w fun e w'=>e= .returned (.int .i64 (ot l))/\Below w.heap.size w w':=by
 unfold ot;have j:=a.cell 4;simp at j;by_cases q:l.length<6
 ·rw[Z q];have f:=fun w (h':de w S v l)=>BH w S v l 0 false h' q;have H:=I b;clear a b;go_enter func257,ntmps257;go_wp2_with(first|(go_at_call 191;refine(f _ H.out).mono ?_;rintro e i ⟨v',rfl,_,N⟩));go_ret;exact⟨rfl,N⟩
 ·rw[Y q];have f:=fun w (h':de w S v l)=>Il w S v l 0 false h' J d;have H:=I b;clear a b;go_enter func257,ntmps257;go_wp2_with(first|(go_at_call 191;refine(f _ H.out).mono ?_;rintro e i ⟨rfl,N⟩));go_ret;exact⟨rfl,N⟩
end
theorem mJ(b:Bool):Calls prog 258 #[.bool b] w fun e w'=>e= .returned (.int .i64 (ou b))/\Below w.heap.size w w':=by
 unfold ou;cases b
 ·go_enter func258,ntmps258;go_wp2_with fail;go_ret;exact⟨rfl,Below.refl _ _⟩
 ·go_enter func258,ntmps258;go_wp2_with fail;go_ret;exact⟨rfl,Below.refl _ _⟩
theorem sA(S:Nat->Prop)(g:Nat)(p:PO)(v:Value)(l:List bO)(c:dM)(h x y:Int)(a:Ask w g p v c h x)(d:de w S v l)(o:l.length<=65536)(hy:aR y):
 Calls prog 259 #[.int .u64 y,.pointer (some ⟨g,0,none⟩)] w fun e w'=>e= .returned (.int .i64 (check p l y))/\Below w.heap.size w w':=by
 have k:=a.cell 0;have m:=a.cell 1;have f:=a.cell 2;have n:=a.cell 3;have j:=a.cell 4;simp at k m f n j;have b:=fun w (h':de w S v l)=>zg w S v p l y hy h' o;have H:=I d;unfold ej at b;clear a d;generalize check p l y=r at*;obtain⟨s,t,i,q⟩:=p;simp only at*;go_enter func259,ntmps259;go_wp2_with(first|(go_at_call 260;refine(b _ H.out).mono ?_;rintro e u ⟨A,z,B,rfl,N⟩));have C:=N.size;go_ret;refine⟨rfl,?_⟩;exact a2
end
end
section
theorem ov{G:Prop}(h:G:=by
 have bz:=N.size;(repeat(first|rw[World.size_alloc]at bz|rw[World.size_drew]at bz));have YN:=(Zn.out _).below N;have UR:=(KC.alloc Yl.out _).below N;go_wp2_with fail;go_ret;refine⟨rfl,?_⟩;exact a2):G:=h
theorem KS(a b:Int):me [a,b]=if a=0 then b else a:=by
 unfold me me me;by_cases h:b=0<;>simp[h]
theorem PB(a b c:Int):me [a,b,c]=if a=0 then(if b=0 then c else b)else a:=by
 rw[me,KS]
def hG(a b:Int):Int:=if a=0 then b else a
def ha(a b c:Int):Int:=if a=0 then(if b=0 then c else b)else a
section
variable(w:World)(g:Nat)(t:TypeId)
include w g t
theorem mg(a:Int)(hb:ah w g t #[.int .u8 a])(h:0<=a/\a<=3):
 Calls prog 261 #[.slice (some ⟨g,0,none⟩) 1 1] w fun e w'=>e= .returned (.bool true)/\Below w.heap.size w w':=
 zh w (fun _=>True) _ 1 (fun _=>a) (KC.lit (S:=fun _=>True) hb trivial 1 _ J fun i hi=>by
  obtain rfl:i=0:=J
  exact⟨rfl,aN⟩) J fun _ _=>h
theorem zj(a b:Int)(hb:ah w g t #[.int .u8 a,.int .u8 b])(h:0<=a/\a<=3)(c:0<=b/\b<=3):
 Calls prog 261 #[.slice (some ⟨g,0,none⟩) 2 2] w fun e w'=>e= .returned (.bool true)/\Below w.heap.size w w':=
 zh w (fun _=>True) _ 2 (fun i=>if i=0 then a else b) (KC.lit (S:=fun _=>True) hb trivial 2 _ J fun i hi=>by
  rcases(by omega:i=0\/i=1)with rfl|rfl
  ·exact⟨rfl,aN⟩
  ·exact⟨rfl,aN⟩) J fun i _=>by split<;>assumption
theorem rH(a b:Int)(hb:ah w g t #[.int .i64 a,.int .i64 b]):
 Calls prog 262 #[.slice (some ⟨g,0,none⟩) 2 2] w fun e w'=>e= .returned (.int .i64 (hG a b))/\Below w.heap.size w w':=by
 unfold hG;rw[<-KS];exact zi w (fun _=>True) _ [a,b] (KC.lit (S:=fun _=>True) hb trivial 2 _ J fun i hi=>by
  rcases(by omega:i=0\/i=1)with rfl|rfl
  ·exact⟨rfl,aN⟩
  ·exact⟨rfl,aN⟩) aN
theorem ox(a b c:Int)(hb:ah w g t #[.int .i64 a,.int .i64 b,.int .i64 c]):
 Calls prog 262 #[.slice (some ⟨g,0,none⟩) 3 3] w fun e w'=>e= .returned (.int .i64 (ha a b c))/\Below w.heap.size w w':=by
 unfold ha;rw[<-PB];exact zi w (fun _=>True) _ [a,b,c] (KC.lit (S:=fun _=>True) hb trivial 3 _ J fun i hi=>by
  rcases(by omega:i=0\/i=1\/i=2)with rfl|rfl|rfl
  ·exact⟨rfl,aN⟩
  ·exact⟨rfl,aN⟩
  ·exact⟨rfl,aN⟩) aN
end
section
variable{w:World}{g:Nat}{p:PO}{v:Value}{c:dM}{h x:Int}(a:Ask w g p v c h x)
include w g p v c h x a
theorem Ask.alloc(o:Obj):Ask (w.alloc o) g p v c h x:=ah.alloc a o
theorem Ask.drew:Ask w.drew g p v c h x:=a
end
section
variable(w:World)(S:Nat->Prop)(p:PO)(v:Value)(l:List bO)(c:dM)(h x:Int)(g:de w S v l)(k:l.length<=6)(f:a9 p)(d:cG c)(i:aR h)(j:aR x)
include w S p v l c h x g k f d i j
theorem ach(u:c.op=0):
 Calls prog 182 #[.agg (dX p v c h x)] w fun e w'=>e= .returned (.int .i64 (0))/\Below w.heap.size w w':=by
 have m:=d.r;have C:=d.h;have z:=d.v;have y:=d.a;have F:=d.b;have B:=d.c;have L:=f.s;clear d;obtain⟨op,n,t,q,a,b,o⟩:=c;simp only at u m C z y F B;subst u;have A: ∀w:World,Ask (w.alloc (.cells (dX p v ⟨0,n,t,q,a,b,o⟩ h x) 289)) w.heap.size p v ⟨0,n,t,q,a,b,o⟩ h x:=fun w=>ah.new w _ _;have K:=I A;have G:=I g;have H:=I f;clear A g f;go_enter func182,ntmps182;go_wp2_with fail;go_ret;refine⟨rfl,?_⟩;exact a2
theorem adS(z:c.op=1):
 Calls prog 182 #[.agg (dX p v c h x)] w fun e w'=>e= .returned (.int .i64 (0))/\Below w.heap.size w w':=by
 have o:=d.r;have O:=d.h;have L:=d.v;have K:=d.a;have P:=d.b;have M:=d.c;have W:=f.s;clear d;obtain⟨op,q,y,u,a,b,t⟩:=c;simp only at z o O L K P M;subst z;have A: ∀w:World,Ask (w.alloc (.cells (dX p v ⟨1,q,y,u,a,b,t⟩ h x) 289)) w.heap.size p v ⟨1,q,y,u,a,b,t⟩ h x:=fun w=>ah.new w _ _;have H:=I A;have G:=I g;have V:=I f;clear A g f;go_enter func182,ntmps182;go_wp2_with fail;refine(mg _ _ _ _ (ah.q3 _ _ _ aN) J).mono ?_;rintro e Q ⟨rfl,N⟩;have B:=N.size;(repeat(first|rw[World.size_alloc]at B|rw[World.size_drew]at B));have F:=(Ask.alloc (H.out _) _).below N;have n:=(KC.alloc (KC.alloc G.out _) _).below N;go_wp2_with fail;refine(mJ _ _).mono ?_;rintro e T ⟨rfl,m⟩;have C:=m.size;(repeat(first|rw[World.size_alloc]at C|rw[World.size_drew]at C));have U:=F.below m;have R:=n.below m;go_wp2_with fail;go_ret;refine⟨rfl,?_⟩;exact a2
theorem abH(u:c.op=2):
 Calls prog 182 #[.agg (dX p v c h x)] w fun e w'=>e= .returned (.int .i64 (ou (decide (1<=c.a)&&decide (c.a<=8192))))/\Below w.heap.size w w':=by
 have m:=d.r;have C:=d.h;have z:=d.v;have y:=d.a;have F:=d.b;have B:=d.c;have K:=f.s;clear d;obtain⟨op,n,t,q,a,b,o⟩:=c;simp only at u m C z y F B;subst u;have A: ∀w:World,Ask (w.alloc (.cells (dX p v ⟨2,n,t,q,a,b,o⟩ h x) 289)) w.heap.size p v ⟨2,n,t,q,a,b,o⟩ h x:=fun w=>ah.new w _ _;have Zn:=I A;have Yl:=I g;have H:=I f;clear A g f;go_enter func182,ntmps182;go_wp2_with fail;refine(fM _ _ _ _).mono ?_;rintro e w' ⟨rfl,rfl⟩;go_wp2_with fail;refine(mJ _ _).mono ?_;rintro e G ⟨rfl,N⟩;exact ov
theorem abF(u:c.op=3):
 Calls prog 182 #[.agg (dX p v c h x)] w fun e w'=>e= .returned (.int .i64 (ep p c.a 1))/\Below w.heap.size w w':=by
 have t:=d.r;have F:=d.h;have B:=d.v;have z:=d.a;have G:=d.b;have C:=d.c;have K:=f.s;clear d;obtain⟨op,m,q,o,a,b,n⟩:=c;simp only at u t F B z G C;subst u;have A: ∀w:World,Ask (w.alloc (.cells (dX p v ⟨3,m,q,o,a,b,n⟩ h x) 289)) w.heap.size p v ⟨3,m,q,o,a,b,n⟩ h x:=fun w=>ah.new w _ _;have Zn:=I A;have Yl:=I g;have y:=I f;clear A g f;go_enter func182,ntmps182;go_wp2_with fail;refine(kW _ _ p v ⟨3,m,q,o,a,b,n⟩ h x 1 (Zn.out _) y.out J).mono ?_;rintro e H ⟨rfl,N⟩;exact ov
theorem abl(F:c.op=4):
 Calls prog 182 #[.agg (dX p v c h x)] w fun e w'=>e= .returned (.int .i64 (hG (ep p c.a 1) (ot l)))/\Below w.heap.size w w':=by
 have B:=d.r;have U:=d.h;have R:=d.v;have Q:=d.a;have V:=d.b;have T:=d.c;have fb:=f.s;clear d;obtain⟨op,n,t,q,a,b,o⟩:=c;simp only at F B U R Q V T;subst F;have A: ∀w:World,Ask (w.alloc (.cells (dX p v ⟨4,n,t,q,a,b,o⟩ h x) 289)) w.heap.size p v ⟨4,n,t,q,a,b,o⟩ h x:=fun w=>ah.new w _ _;have G:=I A;have O:=I g;have P:=I f;clear A g f;go_enter func182,ntmps182;go_wp2_with fail;refine(kW _ _ p v ⟨4,n,t,q,a,b,o⟩ h x 1 (G.out _) P.out J).mono ?_;rintro e W ⟨rfl,N⟩;have H:=N.size;(repeat(first|rw[World.size_alloc]at H|rw[World.size_drew]at H));have C:=(G.out _).below N;have m:=(KC.alloc O.out _).below N;go_wp2_with fail;refine(BV _ S _ p v l ⟨4,n,t,q,a,b,o⟩ h x C m J).mono ?_;rintro e WW ⟨rfl,u⟩;have K:=u.size;(repeat(first|rw[World.size_alloc]at K|rw[World.size_drew]at K));have M:=C.below u;have z:=m.below u;go_wp2_with fail;refine(rH _ _ _ _ _ (ah.new _ _ _)).mono ?_;rintro e w3 ⟨rfl,y⟩;have L:=y.size;(repeat(first|rw[World.size_alloc]at L|rw[World.size_drew]at L));have ZA:=(Ask.alloc M _).below y;have X:=(KC.alloc z _).below y;go_wp2_with fail;go_ret;refine⟨rfl,?_⟩;exact a2
theorem A4(K:c.op=6):
 Calls prog 182 #[.agg (dX p v c h x)] w fun e w'=>e= .returned (.int .i64 (ha (ep p c.a 0) (fA l c.a) (ot l)))/\Below w.heap.size w w':=by
 have C:=d.r;have hN:=d.h;have W:=d.v;have V:=d.a;have it:=d.b;have X:=d.c;have fb:=f.s;clear d;obtain⟨op,m,q,o,a,b,n⟩:=c;simp only at K C hN W V it X;subst K;have A: ∀w:World,Ask (w.alloc (.cells (dX p v ⟨6,m,q,o,a,b,n⟩ h x) 289)) w.heap.size p v ⟨6,m,q,o,a,b,n⟩ h x:=fun w=>ah.new w _ _;have L:=I A;have R:=I g;have U:=I f;clear A g f;go_enter func182,ntmps182;go_wp2_with fail;refine(kW _ _ p v ⟨6,m,q,o,a,b,n⟩ h x 0 (L.out _) U.out J).mono ?_;rintro e EH ⟨rfl,N⟩;have M:=N.size;(repeat(first|rw[World.size_alloc]at M|rw[World.size_drew]at M));have H:=(L.out _).below N;have t:=(KC.alloc R.out _).below N;go_wp2_with fail;refine(mf _ S _ p v l ⟨6,m,q,o,a,b,n⟩ h x H t J).mono ?_;rintro e WW ⟨rfl,y⟩;have O:=y.size;(repeat(first|rw[World.size_alloc]at O|rw[World.size_drew]at O));have G:=H.below y;have u:=t.below y;go_wp2_with fail;refine(BV _ S _ p v l ⟨6,m,q,o,a,b,n⟩ h x G u J).mono ?_;rintro e w3 ⟨rfl,z⟩;have P:=z.size;(repeat(first|rw[World.size_alloc]at P|rw[World.size_drew]at P));have T:=G.below z;have F:=u.below z;go_wp2_with fail;refine(ox _ _ _ _ _ _ (ah.new _ _ _)).mono ?_;rintro e iH ⟨rfl,B⟩;have Q:=B.size;(repeat(first|rw[World.size_alloc]at Q|rw[World.size_drew]at Q));have vs:=(Ask.alloc T _).below B;have ue:=(KC.alloc F _).below B;go_wp2_with fail;go_ret;refine⟨rfl,?_⟩;exact a2
theorem abJ(O:c.op=10):
 Calls prog 182 #[.agg (dX p v c h x)] w fun e w'=>e= .returned (.int .i64 (ha 0 (ep p c.a 1) (fA l c.a)))/\Below w.heap.size w w':=by
 have G:=d.r;have hN:=d.h;have fg:=d.v;have dv:=d.a;have it:=d.b;have gD:=d.c;have fb:=f.s;clear d;obtain⟨op,n,t,q,a,b,o⟩:=c;simp only at O G hN fg dv it gD;subst O;have A: ∀w:World,Ask (w.alloc (.cells (dX p v ⟨10,n,t,q,a,b,o⟩ h x) 289)) w.heap.size p v ⟨10,n,t,q,a,b,o⟩ h x:=fun w=>ah.new w _ _;have Zn:=I A;have W:=I g;have X:=I f;clear A g f;go_enter func182,ntmps182;go_wp2_with fail;refine(mg _ _ _ _ (ah.q3 _ _ _ aN) J).mono ?_;rintro e EH ⟨rfl,N⟩;have P:=N.size;(repeat(first|rw[World.size_alloc]at P|rw[World.size_drew]at P));have V:=(Ask.alloc (Zn.out _) _).below N;have C:=(KC.alloc (KC.alloc W.out _) _).below N;go_wp2_with fail;refine(mJ _ _).mono ?_;rintro e WW ⟨rfl,u⟩;have Q:=u.size;(repeat(first|rw[World.size_alloc]at Q|rw[World.size_drew]at Q));have L:=V.below u;have F:=C.below u;go_wp2_with fail;refine(kW _ _ p v ⟨10,n,t,q,a,b,o⟩ h x 1 L X.out J).mono ?_;rintro e w3 ⟨rfl,y⟩;have R:=y.size;(repeat(first|rw[World.size_alloc]at R|rw[World.size_drew]at R));have M:=L.below y;have m:=F.below y;go_wp2_with fail;refine(mf _ S _ p v l ⟨10,n,t,q,a,b,o⟩ h x M m J).mono ?_;rintro e iH ⟨rfl,z⟩;have T:=z.size;(repeat(first|rw[World.size_alloc]at T|rw[World.size_drew]at T));have K:=M.below z;have H:=m.below z;go_wp2_with fail;refine(ox _ _ _ _ _ _ (ah.new _ _ _)).mono ?_;rintro e Wo ⟨rfl,B⟩;have U:=B.size;(repeat(first|rw[World.size_alloc]at U|rw[World.size_drew]at U));have XQ:=(Ask.alloc K _).below B;have VF:=(KC.alloc H _).below B;go_wp2_with fail;go_ret;refine⟨rfl,?_⟩;exact a2
end
end
section
theorem oy{G:Prop}(h:G:=by
 have bz:=N.size;(repeat(first|rw[World.size_alloc]at bz|rw[World.size_drew]at bz));go_wp2_with fail;go_ret;refine⟨?_,?_⟩
 ·rfl
 exact a2):G:=h
theorem oz{G:Prop}(h:G:=by
 go_wp2_with fail;refine(mg _ _ _ _ (ah.q3 _ _ _ (by simp)) (by omega)).mono ?_;rintro e EH ⟨rfl,N⟩;have bz:=N.size;(repeat(first|rw[World.size_alloc]at bz|rw[World.size_drew]at bz));have YN:=(Ask.alloc (Zn.out _) _).below N;have xw:EH.cell? ⟨w.heap.size,11,none⟩=some (.int .i64 VI):=ah.cell YN 11;have UR:=(KC.alloc (KC.alloc Yl.out _) _).below N;go_wp2_with fail;refine(fM _ _ _ _).mono ?_;rintro e w' ⟨rfl,rfl⟩;go_wp2_with fail;refine(mJ _ _).mono ?_;rintro e WW ⟨rfl,be⟩;have c5:=be.size;(repeat(first|rw[World.size_alloc]at c5|rw[World.size_drew]at c5));have XW:=YN.below be;have UN:=UR.below be;go_wp2_with fail;refine(rH _ _ _ _ _ (ah.new _ _ _)).mono ?_;rintro e w3 ⟨rfl,fB⟩;have ij:=fB.size;(repeat(first|rw[World.size_alloc]at ij|rw[World.size_drew]at ij));have ZA:=(Ask.alloc XW _).below fB;have UZ:=(KC.alloc UN _).below fB;go_wp2_with fail;go_ret;refine⟨?_,?_⟩
 ·rfl
 exact a2):G:=h
theorem oA{G:Prop}(h:G:=by
 go_wp2_with fail;go_ret;refine⟨rfl,?_⟩;exact zD.trans (Below.mono (by assumption) (Nat.le_of_lt qD))):G:=h
theorem oB{G:Prop}(h:G:=by
 have aar:Wo.cell? ⟨w.heap.size,13,none⟩=some (.int .u64 x):=ah.cell XQ 13;go_wp2_with fail;go_ret;refine⟨?_,?_⟩
 ·rfl
 exact a2):G:=h
section
variable(w:World)(S:Nat->Prop)(p:PO)(v:Value)(l:List bO)(c:dM)(h x:Int)(j:de w S v l)(n:l.length<=6)(i:a9 p)(f:cG c)(k:aR h)(m:aR x)
include w S p v l c h x j n i f k m
theorem abn(u:c.op=5)(H:l= []):
 Calls prog 182 #[.agg (dX p v c h x)] w fun e w'=>e= .returned (.int .i64 (23))/\Below w.heap.size w w':=by
 have d:=f.r;have F:=f.h;have B:=f.v;have z:=f.a;have G:=f.b;have C:=f.c;have O:=i.s;clear f;obtain⟨op,g,t,q,a,b,o⟩:=c;simp only at u d F B z G C;subst u;have A: ∀w:World,Ask (w.alloc (.cells (dX p v ⟨5,g,t,q,a,b,o⟩ h x) 289)) w.heap.size p v ⟨5,g,t,q,a,b,o⟩ h x:=fun w=>ah.new w _ _;have M:=I A;have y:=I j;have L:=I i;clear A j i;go_enter func182,ntmps182;obtain rfl:=H;go_wp2_with fail;refine(Lr _ S _ (KC.alloc y.out _)).mono ?_;rintro e K ⟨rfl,N⟩;exact oy
theorem acH(y:c.op=5)(K: ∃pre s d,l=pre++ [⟨s,d⟩]):
 Calls prog 182 #[.agg (dX p v c h x)] w fun e w'=>e= .returned (.int .i64 (0))/\Below w.heap.size w w':=by
 have g:=f.r;have G:=f.h;have C:=f.v;have B:=f.a;have H:=f.b;have F:=f.c;have P:=i.s;clear f;obtain⟨op,o,u,t,a,b,q⟩:=c;simp only at y g G C B H F;subst y;have A: ∀w:World,Ask (w.alloc (.cells (dX p v ⟨5,o,u,t,a,b,q⟩ h x) 289)) w.heap.size p v ⟨5,o,u,t,a,b,q⟩ h x:=fun w=>ah.new w _ _;have O:=I A;have z:=I j;have M:=I i;clear A j i;go_enter func182,ntmps182;obtain⟨pre,s',d',rfl⟩:=K;go_wp2_with fail;refine(EO _ S _ _ _ _ (KC.alloc z.out _) (by simp at n;omega)).mono ?_;rintro e L ⟨v',rfl,_,N⟩;exact oy
theorem abK(y:c.op=7)(d:(0<=c.a/\c.a<=6)/\0<=c.b/\c.b<=512):
 Calls prog 182 #[.agg (dX p v c h x)] w fun e w'=>e= .returned (.int .i64 (hG (ou true) 0))/\Below w.heap.size w w':=by
 have g:=f.r;have F:=f.h;have B:=f.v;have z:=f.a;have G:=f.b;have C:=f.c;have K:=i.s;clear f;obtain⟨op,o,u,t,a,b,VI⟩:=c;simp only at y d g F B z G C;subst y;have A: ∀w:World,Ask (w.alloc (.cells (dX p v ⟨7,o,u,t,a,b,VI⟩ h x) 289)) w.heap.size p v ⟨7,o,u,t,a,b,VI⟩ h x:=fun w=>ah.new w _ _;have Zn:=I A;have Yl:=I j;have H:=I i;clear A j i;go_enter func182,ntmps182;have q:=I d;clear d;go_wp2_with fail;refine(qQ _ _ _ q.out.1 q.out.2).mono ?_;rintro e w' ⟨rfl,rfl⟩;exact oz
theorem abM(u:c.op=7)(d: ¬((0<=c.a/\c.a<=6)/\0<=c.b/\c.b<=512)):
 Calls prog 182 #[.agg (dX p v c h x)] w fun e w'=>e= .returned (.int .i64 (hG (ou true) 1))/\Below w.heap.size w w':=by
 have g:=f.r;have F:=f.h;have B:=f.v;have z:=f.a;have G:=f.b;have C:=f.c;have K:=i.s;clear f;obtain⟨op,o,t,q,a,b,VI⟩:=c;simp only at u d g F B z G C;subst u;have A: ∀w:World,Ask (w.alloc (.cells (dX p v ⟨7,o,t,q,a,b,VI⟩ h x) 289)) w.heap.size p v ⟨7,o,t,q,a,b,VI⟩ h x:=fun w=>ah.new w _ _;have Zn:=I A;have Yl:=I j;have H:=I i;clear A j i;go_enter func182,ntmps182;have y:=I d;clear d;go_wp2_with fail;refine(A3 _ _ _ (by have:=y.out;omega)).mono ?_;rintro e w' ⟨rfl,rfl⟩;exact oz
theorem abo(P:c.op=11)(C:ha 0 (ep p c.a 1) (fA l c.a)≠0):
 Calls prog 182 #[.agg (dX p v c h x)] w fun e w'=>e= .returned (.int .i64 (ha 0 (ep p c.a 1) (fA l c.a)))/\Below w.heap.size w w':=by
 have H:=f.r;have hN:=f.h;have fg:=f.v;have dv:=f.a;have it:=f.b;have gD:=f.c;have fb:=i.s;clear f;obtain⟨op,g,t,q,a,b,o⟩:=c;simp only at P C H hN fg dv it gD;subst P;have A: ∀w:World,Ask (w.alloc (.cells (dX p v ⟨11,g,t,q,a,b,o⟩ h x) 289)) w.heap.size p v ⟨11,g,t,q,a,b,o⟩ h x:=fun w=>ah.new w _ _;have Zn:=I A;have Yl:=I j;have ZR:=I i;clear A j i;go_enter func182,ntmps182;have W:=I C;clear C;go_wp2_with fail;refine(mg _ _ _ _ (ah.q3 _ _ _ aN) J).mono ?_;rintro e EH ⟨rfl,N⟩;have Q:=N.size;(repeat(first|rw[World.size_alloc]at Q|rw[World.size_drew]at Q));have X:=(Ask.alloc (Zn.out _) _).below N;have F:=(KC.alloc (KC.alloc Yl.out _) _).below N;go_wp2_with fail;refine(mJ _ _).mono ?_;rintro e WW ⟨rfl,u⟩;have R:=u.size;(repeat(first|rw[World.size_alloc]at R|rw[World.size_drew]at R));have M:=X.below u;have G:=F.below u;go_wp2_with fail;refine(kW _ _ p v ⟨11,g,t,q,a,b,o⟩ h x 1 M ZR.out J).mono ?_;rintro e w3 ⟨rfl,y⟩;have T:=y.size;(repeat(first|rw[World.size_alloc]at T|rw[World.size_drew]at T));have O:=M.below y;have d:=G.below y;go_wp2_with fail;refine(mf _ S _ p v l ⟨11,g,t,q,a,b,o⟩ h x O d J).mono ?_;rintro e iH ⟨rfl,z⟩;have U:=z.size;(repeat(first|rw[World.size_alloc]at U|rw[World.size_drew]at U));have L:=O.below z;have K:=d.below z;go_wp2_with fail;refine(ox _ _ _ _ _ _ (ah.new _ _ _)).mono ?_;rintro e Wo ⟨rfl,B⟩;have V:=B.size;(repeat(first|rw[World.size_alloc]at V|rw[World.size_drew]at V));have XQ:=(Ask.alloc L _).below B;have VF:=(KC.alloc K _).below B;have q1:(ha 0 (ep p a 1) (fA l a)==0)=false:=by simpa using W.out
 exact oB
theorem abp(Q:c.op=11)(C:ha 0 (ep p c.a 1) (fA l c.a)=0/\x=0):
 Calls prog 182 #[.agg (dX p v c h x)] w fun e w'=>e= .returned (.int .i64 (0))/\Below w.heap.size w w':=by
 have H:=f.r;have hN:=f.h;have fg:=f.v;have dv:=f.a;have it:=f.b;have gD:=f.c;have fb:=i.s;clear f;obtain⟨op,g,t,q,a,b,o⟩:=c;simp only at Q C H hN fg dv it gD;subst Q;have A: ∀w:World,Ask (w.alloc (.cells (dX p v ⟨11,g,t,q,a,b,o⟩ h x) 289)) w.heap.size p v ⟨11,g,t,q,a,b,o⟩ h x:=fun w=>ah.new w _ _;have Zn:=I A;have Yl:=I j;have ZR:=I i;clear A j i;go_enter func182,ntmps182;have M:=I C;clear C;go_wp2_with fail;refine(mg _ _ _ _ (ah.q3 _ _ _ aN) J).mono ?_;rintro e EH ⟨rfl,N⟩;have R:=N.size;(repeat(first|rw[World.size_alloc]at R|rw[World.size_drew]at R));have X:=(Ask.alloc (Zn.out _) _).below N;have F:=(KC.alloc (KC.alloc Yl.out _) _).below N;go_wp2_with fail;refine(mJ _ _).mono ?_;rintro e WW ⟨rfl,u⟩;have T:=u.size;(repeat(first|rw[World.size_alloc]at T|rw[World.size_drew]at T));have O:=X.below u;have G:=F.below u;go_wp2_with fail;refine(kW _ _ p v ⟨11,g,t,q,a,b,o⟩ h x 1 O ZR.out J).mono ?_;rintro e w3 ⟨rfl,y⟩;have U:=y.size;(repeat(first|rw[World.size_alloc]at U|rw[World.size_drew]at U));have P:=O.below y;have d:=G.below y;go_wp2_with fail;refine(mf _ S _ p v l ⟨11,g,t,q,a,b,o⟩ h x P d J).mono ?_;rintro e iH ⟨rfl,z⟩;have V:=z.size;(repeat(first|rw[World.size_alloc]at V|rw[World.size_drew]at V));have L:=P.below z;have K:=d.below z;go_wp2_with fail;refine(ox _ _ _ _ _ _ (ah.new _ _ _)).mono ?_;rintro e Wo ⟨rfl,B⟩;have W:=B.size;(repeat(first|rw[World.size_alloc]at W|rw[World.size_drew]at W));have XQ:=(Ask.alloc L _).below B;have VF:=(KC.alloc K _).below B;have q1:ha 0 (ep p a 1) (fA l a)=0:=M.out.1;have Xt:x=0:=M.out.2;exact oB
theorem acJ(R:c.op=11)(F:ha 0 (ep p c.a 1) (fA l c.a)=0/\x≠0):
 Calls prog 182 #[.agg (dX p v c h x)] w fun e w'=>e= .returned (.int .i64 (check p l x))/\Below w.heap.size w w':=by
 have K:=f.r;have hN:=f.h;have fg:=f.v;have dv:=f.a;have it:=f.b;have gD:=f.c;have fb:=i.s;clear f;obtain⟨op,d,q,o,a,b,g⟩:=c;simp only at R F K hN fg dv it gD;subst R;have A: ∀w:World,Ask (w.alloc (.cells (dX p v ⟨11,d,q,o,a,b,g⟩ h x) 289)) w.heap.size p v ⟨11,d,q,o,a,b,g⟩ h x:=fun w=>ah.new w _ _;have Zn:=I A;have Yl:=I j;have ZR:=I i;clear A j i;go_enter func182,ntmps182;have u:=I F;clear F;go_wp2_with fail;refine(mg _ _ _ _ (ah.q3 _ _ _ aN) J).mono ?_;rintro e EH ⟨rfl,N⟩;have T:=N.size;(repeat(first|rw[World.size_alloc]at T|rw[World.size_drew]at T));have YN:=(Ask.alloc (Zn.out _) _).below N;have G:=(KC.alloc (KC.alloc Yl.out _) _).below N;go_wp2_with fail;refine(mJ _ _).mono ?_;rintro e WW ⟨rfl,y⟩;have U:=y.size;(repeat(first|rw[World.size_alloc]at U|rw[World.size_drew]at U));have P:=YN.below y;have H:=G.below y;go_wp2_with fail;refine(kW _ _ p v ⟨11,d,q,o,a,b,g⟩ h x 1 P ZR.out J).mono ?_;rintro e w3 ⟨rfl,z⟩;have V:=z.size;(repeat(first|rw[World.size_alloc]at V|rw[World.size_drew]at V));have Q:=P.below z;have t:=H.below z;go_wp2_with fail;refine(mf _ S _ p v l ⟨11,d,q,o,a,b,g⟩ h x Q t J).mono ?_;rintro e iH ⟨rfl,B⟩;have W:=B.size;(repeat(first|rw[World.size_alloc]at W|rw[World.size_drew]at W));have M:=Q.below B;have L:=t.below B;go_wp2_with fail;refine(ox _ _ _ _ _ _ (ah.new _ _ _)).mono ?_;rintro e Wo ⟨rfl,C⟩;have X:=C.size;(repeat(first|rw[World.size_alloc]at X|rw[World.size_drew]at X));have O:=(Ask.alloc M _).below C;have VF:=(KC.alloc L _).below C;have q1:ha 0 (ep p a 1) (fA l a)=0:=u.out.1;have Xt:(x==0)=false:=by simpa using u.out.2
 have lj:(x !=0)=true:=by simpa using u.out.2
 have aar:Wo.cell? ⟨w.heap.size,13,none⟩=some (.int .u64 x):=ah.cell O 13;go_wp2_with fail;refine(sA _ S _ p v l ⟨11,d,q,o,a,b,g⟩ h x _ O VF J m).mono ?_;rintro e z9 ⟨rfl,tn⟩;have aeL:=tn.size;go_wp2_with fail;go_ret;refine⟨?_,?_⟩
 ·rfl
 exact a2
theorem acL(C:c.op=8):
 Calls prog 182 #[.agg (dX p v c h x)] w fun e w'=>e= .returned (.int .i64 (hG 0 (check p l h)))/\Below w.heap.size w w':=by
 have B:=f.r;have M:=f.h;have K:=f.v;have H:=f.a;have N:=f.b;have L:=f.c;have fb:=i.s;clear f;obtain⟨op,o,q,y,a,b,u⟩:=c;simp only at C B M K H N L;subst C;have A: ∀w:World,Ask (w.alloc (.cells (dX p v ⟨8,o,q,y,a,b,u⟩ h x) 289)) w.heap.size p v ⟨8,o,q,y,a,b,u⟩ h x:=fun w=>ah.new w _ _;have F:=I A;have G:=I j;have W:=I i;clear A j i;go_enter func182,ntmps182;have d:=F.out w;have z:=KC.alloc G.out (.cells (dX p v ⟨8,o,q,y,a,b,u⟩ h x) 289);have zD:=World.dY w (.cells (dX p v ⟨8,o,q,y,a,b,u⟩ h x) 289);have qD:w.heap.size<(w.alloc (.cells (dX p v ⟨8,o,q,y,a,b,u⟩ h x) 289)).heap.size:=aN;go_wp2_with fail;generalize(w.alloc (.cells (dX p v ⟨8,o,q,y,a,b,u⟩ h x) 289))=t at*;have d:=I d;have z:=I z;have O: ∀w',Below t.heap.size t w'->w'.cell? ⟨w.heap.size,6,none⟩=some (.int .u8 o):=fun w' g=>(g.cell (p:=⟨w.heap.size,6,none⟩) qD).trans (d.out.cell 6);have Q: ∀w',Below t.heap.size t w'->w'.cell? ⟨w.heap.size,7,none⟩=some (.int .u8 q):=fun w' g=>(g.cell (p:=⟨w.heap.size,7,none⟩) qD).trans (d.out.cell 7);have P: ∀w',Below t.heap.size t w'->w'.cell? ⟨w.heap.size,12,none⟩=some (.int .u64 h):=fun w' g=>(g.cell (p:=⟨w.heap.size,12,none⟩) qD).trans (d.out.cell 12);clear F;go_region_held3 (fun w'=>Below t.heap.size t w') (first|exact(Below.refl _ _).drew|assumption|exact Below.trans (by assumption) (Below.mono (by assumption) (Below.size (by assumption)))|exact Below.alloc (by assumption) (Below.size (by assumption)) _|exact Below.alloc (Below.refl _ _).drew (ai _) _)
  (first|(go_at_call 261;refine(zj _ _ _ _ _ (ah.drew (ah.new _ _ _)) J J).mono ?_;rintro e R ⟨rfl,U⟩)|(go_at_call 258;refine(mJ _ _).mono ?_;rintro e X ⟨rfl,sB⟩)|(go_at_call 259;refine(sA _ S _ p v l ⟨8,o,q,y,a,b,u⟩ h x _ (ah.below d.out (by assumption) qD) (KC.below z.out (by assumption)) J k).mono ?_;rintro e wc ⟨rfl,V⟩)|(go_at_call 262;refine(rH _ _ _ _ _ (ah.q3 _ _ _ (by(first|rfl|(simp;done))))).mono ?_;rintro e wf ⟨rfl,T⟩))
 exact oA
theorem abq(C:c.op=9):
 Calls prog 182 #[.agg (dX p v c h x)] w fun e w'=>e= .returned (.int .i64 (hG 0 (check p l h)))/\Below w.heap.size w w':=by
 have B:=f.r;have M:=f.h;have K:=f.v;have H:=f.a;have N:=f.b;have L:=f.c;have fb:=i.s;clear f;obtain⟨op,u,q,o,a,b,y⟩:=c;simp only at C B M K H N L;subst C;have A: ∀w:World,Ask (w.alloc (.cells (dX p v ⟨9,u,q,o,a,b,y⟩ h x) 289)) w.heap.size p v ⟨9,u,q,o,a,b,y⟩ h x:=fun w=>ah.new w _ _;have F:=I A;have G:=I j;have W:=I i;clear A j i;go_enter func182,ntmps182;have d:=F.out w;have z:=KC.alloc G.out (.cells (dX p v ⟨9,u,q,o,a,b,y⟩ h x) 289);have zD:=World.dY w (.cells (dX p v ⟨9,u,q,o,a,b,y⟩ h x) 289);have qD:w.heap.size<(w.alloc (.cells (dX p v ⟨9,u,q,o,a,b,y⟩ h x) 289)).heap.size:=aN;go_wp2_with fail;generalize(w.alloc (.cells (dX p v ⟨9,u,q,o,a,b,y⟩ h x) 289))=t at*;have d:=I d;have z:=I z;have O: ∀w',Below t.heap.size t w'->w'.cell? ⟨w.heap.size,7,none⟩=some (.int .u8 q):=fun w' g=>(g.cell (p:=⟨w.heap.size,7,none⟩) qD).trans (d.out.cell 7);have Q: ∀w',Below t.heap.size t w'->w'.cell? ⟨w.heap.size,8,none⟩=some (.int .u8 o):=fun w' g=>(g.cell (p:=⟨w.heap.size,8,none⟩) qD).trans (d.out.cell 8);have P: ∀w',Below t.heap.size t w'->w'.cell? ⟨w.heap.size,12,none⟩=some (.int .u64 h):=fun w' g=>(g.cell (p:=⟨w.heap.size,12,none⟩) qD).trans (d.out.cell 12);clear F;go_region_held3 (fun w'=>Below t.heap.size t w') (first|exact(Below.refl _ _).drew|assumption|exact Below.trans (by assumption) (Below.mono (by assumption) (Below.size (by assumption)))|exact Below.alloc (by assumption) (Below.size (by assumption)) _|exact Below.alloc (Below.refl _ _).drew (ai _) _)
  (first|(go_at_call 261;refine(zj _ _ _ _ _ (ah.drew (ah.new _ _ _)) J J).mono ?_;rintro e R ⟨rfl,U⟩)|(go_at_call 258;refine(mJ _ _).mono ?_;rintro e X ⟨rfl,sB⟩)|(go_at_call 259;refine(sA _ S _ p v l ⟨9,u,q,o,a,b,y⟩ h x _ (ah.below d.out (by assumption) qD) (KC.below z.out (by assumption)) J k).mono ?_;rintro e wc ⟨rfl,V⟩)|(go_at_call 262;refine(rH _ _ _ _ _ (ah.q3 _ _ _ (by(first|rfl|(simp;done))))).mono ?_;rintro e wf ⟨rfl,T⟩))
 exact oA
end
end
section
theorem oC{G:Prop}(h:G:=by
 unfold b2 ha ep fA;by_cases q:1<=c.a/\c.a<p.s<;>by_cases Xt:reach l c.a<;>simp[o,q,Xt]):G:=h
section
variable(w:World)(S:Nat->Prop)(p:PO)(v:Value)(l:List bO)(c:dM)(h x:Int)(f:de w S v l)(g:l.length<=6)
include w S p v l c h x f g
theorem wD(j:a9 p)(k:cG c)(i:aR h)(m:aR x):
 Calls prog 182 #[.agg (dX p v c h x)] w fun e w'=>e= .returned (.int .i64 (b2 p l c h x))/\Below w.heap.size w w':=by
 have n:=k.op;rcases(by omega:c.op=0\/c.op=1\/c.op=2\/c.op=3\/c.op=4\/c.op=5\/c.op=6\/c.op=7\/c.op=8\/c.op=9\/c.op=10\/c.op=11)with o|o|o|o|o|o|o|o|o|o|o|o
 ·have e:b2 p l c h x=0:=by unfold b2;simp[o]
  rw[e];exact ach w S p v l c h x f g j k i m o
 ·have e:b2 p l c h x=0:=by unfold b2;simp[o]
  rw[e];exact adS w S p v l c h x f g j k i m o
 ·have e:b2 p l c h x=ou (decide (1<=c.a)&&decide (c.a<=8192)):=by
   unfold b2 ou;simp[o]
  rw[e];exact abH w S p v l c h x f g j k i m o
 ·have e:b2 p l c h x=ep p c.a 1:=by unfold b2 ep;simp[o]
  rw[e];exact abF w S p v l c h x f g j k i m o
 ·have e:b2 p l c h x=hG (ep p c.a 1) (ot l):=by
   unfold b2 hG ep ot;by_cases q:1<=c.a/\c.a<p.s<;>simp[o,q]
  rw[e];exact abl w S p v l c h x f g j k i m o
 ·rcases ct l with q|⟨pre,⟨s,d⟩,q⟩
  ·have e:b2 p l c h x=23:=by unfold b2;simp[o,q]
   rw[e];exact abn w S p v l c h x f g j k i m o q
  ·rw[cu]at q;have e:b2 p l c h x=0:=by unfold b2;simp[o,q]
   rw[e];exact acH w S p v l c h x f g j k i m o ⟨_,_,_,q⟩
 ·have e:b2 p l c h x=ha (ep p c.a 0) (fA l c.a) (ot l):=by
   unfold b2 ha ep ot fA;by_cases q:0<=c.a/\c.a<p.s<;>by_cases Xt:reach l c.a<;>simp[o,q,Xt]
  rw[e];exact A4 w S p v l c h x f g j k i m o
 ·by_cases q:(0<=c.a/\c.a<=6)/\0<=c.b/\c.b<=512
  ·have e:b2 p l c h x=hG (ou true) 0:=by
    unfold b2 hG ou;simp only[o,q];simp
   rw[e];exact abK w S p v l c h x f g j k i m o q
  ·have e:b2 p l c h x=hG (ou true) 1:=by
    unfold b2 hG ou;simp only[o,q];simp
   rw[e];exact abM w S p v l c h x f g j k i m o q
 ·have e:b2 p l c h x=hG 0 (check p l h):=by unfold b2 hG;simp[o]
  rw[e];exact acL w S p v l c h x f g j k i m o
 ·have e:b2 p l c h x=hG 0 (check p l h):=by unfold b2 hG;simp[o]
  rw[e];exact abq w S p v l c h x f g j k i m o
 ·have e:b2 p l c h x=ha 0 (ep p c.a 1) (fA l c.a):=by
   exact oC
  rw[e];exact abJ w S p v l c h x f g j k i m o
 ·have e:b2 p l c h x=if ha 0 (ep p c.a 1) (fA l c.a)=0 then(if x=0 then 0 else check p l x)else ha 0 (ep p c.a 1) (fA l c.a):=by
   exact oC
  rw[e];by_cases q:ha 0 (ep p c.a 1) (fA l c.a)=0
  ·rw[Z q];by_cases Xt:x=0
   ·rw[Z Xt];exact abp w S p v l c h x f g j k i m o ⟨q,Xt⟩
   ·rw[Y Xt];exact acJ w S p v l c h x f g j k i m o ⟨q,Xt⟩
  ·rw[Y q];exact abo w S p v l c h x f g j k i m o q
theorem PD(z:0<=c.op/\c.op<=11)(j:c.op=5->l≠ []):
 Calls prog 183 #[.agg (dX p v c h x)] w fun e w'=>e= .returned (.int .i64 (jo l c x))/\Below w.heap.size w w':=by
 obtain⟨op,k,r,o,a,b,n⟩:=c;simp only at z j;by_cases y:op=5
 ·subst y;rcases ct l with rfl|⟨pre,⟨s,d⟩,rfl⟩
  ·exact absurd rfl (j rfl)
  rw[cu]at*;have e:jo (pre++ [⟨s,d⟩]) ⟨5,k,r,o,a,b,n⟩ x=if d then 15 else 0:=by
   unfold jo;cases d<;>simp
  rw[e];clear e j;obtain⟨A,c,rfl,h1,t,B⟩:=id f;obtain⟨_,b',off,rfl,G,hb,_,C⟩:=f.at_ (i:=pre.length) (e:=⟨s,d⟩) aN;clear f h1 t B;rw[ak,dh]at*;generalize pre.length=m at*;cases d
  ·go_enter func183,ntmps183;go_wp2_with fail;go_ret;refine⟨rfl,?_⟩;exact a2
  ·go_enter func183,ntmps183;go_wp2_with fail;go_ret;refine⟨rfl,?_⟩;exact a2
 ·by_cases u:op=11
  ·subst u;by_cases q:x=0
   ·have e:jo l ⟨11,k,r,o,a,b,n⟩ x=12:=by unfold jo;simp[q]
    rw[e];subst q;clear f j e;go_enter func183,ntmps183;go_wp2_with fail;go_ret;refine⟨rfl,?_⟩;exact a2
   ·have e:jo l ⟨11,k,r,o,a,b,n⟩ x=7:=by unfold jo;simp[q]
    rw[e];have F:(x==0)=false:=by simpa using q
    clear f j e q;go_enter func183,ntmps183;go_wp2_with fail;go_ret;refine⟨rfl,?_⟩;exact a2
  ·clear f j;rcases(by omega:op=0\/op=1\/op=2\/op=3\/op=4\/op=6\/op=7\/op=8\/op=9\/op=10)with rfl|rfl|rfl|rfl|rfl|rfl|rfl|rfl|rfl|rfl
   all_goals
    clear y u z;unfold jo;simp only;go_enter func183,ntmps183;go_wp2_with fail;go_ret;refine⟨rfl,?_⟩;exact a2
end
theorem lA(w:World)(S:Nat->Prop)(a:Value)(regs:Nat->Int)(g:Nat)(t:TypeId)(i:Int)(hb:ah w g t #[a])(h:KC w S a 4 1 fun j=> [.int .u64 (regs j)])(hi:0<=i/\i<=3):
 Calls prog 180 #[.int .u8 i,.pointer (some ⟨g,0,none⟩)] w fun e w'=>e= .returned (.int .u64 (regs i.toNat))/\w=w':=by
 obtain⟨k,rfl⟩: ∃k:Nat,i=k:=⟨i.toNat,J⟩
 obtain⟨A,c,rfl,h1,n,l⟩:=h;obtain⟨b,off,rfl,o,p,f⟩:=l J;have m:=hb.cell 0;simp at m;have d:=f k 0 (.int .u64 (regs k)) J rfl;simp at d;clear l f hb;have q:k<4:=J;clear hi;simp only[bL];go_enter func180,ntmps180;go_wp2_with fail;go_ret;exact⟨rfl,rfl⟩
end
end Go.Proofs.YtcimojgkeoecfaaGreat
