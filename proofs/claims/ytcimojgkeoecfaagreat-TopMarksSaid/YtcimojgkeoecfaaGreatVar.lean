import Derived.Test.YtcimojgkeoecfaaGreatVaa
set_option linter.all false
set_option maxHeartbeats 16000000
set_option maxRecDepth 100000
namespace Go.Proofs.YtcimojgkeoecfaaGreat
section
section
variable{p:PO}{F:b1}{n:Nat}{W W':Wd}{O:Nat->List Zr}{VM:Nat->Option Nat}{t:Nat}
theorem nK{G:Prop}(h:G:=by
 rw[Y c]at Yg Wy⊢;exact⟨O,VM,gu S.inv S.lt S.busy Wy Yg UA rfl rfl pW (fun _=>bo)⟩):G:=h
theorem Inv.E4(h:Inv p F n W O VM){k:Nat}{s e:Int}(d:he n W.V k s e): ∃S:Nat,s=S/\S<p.s/\∃o,o∈O S/\o.at_=k/\fl W.V k=o/\e=(Wi W.V S).T5:=by
 obtain⟨h1,b,j,i⟩:=d;have hu: ¬ku (W.V k):=by unfold ku;intro c;exact c b.2.2.2.2.2.1
 obtain⟨S,hS,o,f,a⟩:=h.qB k hu;have g:=(h.Zt S hS).hd o f;have m:=h.pl.s;have l:=(h.Zt S hS).ft.ok.T5;have q:0<=(Wi W.V S).T5/\(Wi W.V S).T5<=16777215:=l;rw[a]at g;rw[g.2.2]at j i;refine⟨S,J,hS,o,f,a,?_,J⟩;rw[<-a];exact Zr.EJ g.1 (by rw[a];exact g.2.1)
def KD(j:Nat)(y:Zr):Prop:=y.at_≠j/\y.at_+1≠j
theorem Inv.ri(h:Inv p F n W O VM){S:Nat}(hS:S<p.s){o:Zr}(a:o∈O S):he n W.V o.at_ S (Wi W.V S).T5/\fl W.V o.at_=o:=by
 have g:=(h.Zt S hS).hd o a;have f:=h.pl.s;have c:=(h.Zt S hS).ft.ok.T5;have d:0<=(Wi W.V S).T5/\(Wi W.V S).T5<=16777215:=c;have b:=h.ht hS a;have e:=h.eb hS b.1;exact⟨Zr.EK g.1 g.2.1 g.2.2 J d J,Zr.EJ g.1 g.2.1⟩
section
variable(S:mD p F n W W' O VM t)
include S
theorem wb{k j:Nat}{x:Int}(bW:k<p.s)(live:(Wi W.V k).st=2)(hj:0<=x/\x<18446744073709551616)(hu:ku x)
 (B:j=8*k+4\/∃o,o∈O k/\o.at_+2<=j/\j<o.at_+2+o.l){r':RJ}(K:W'.V=put W.V j x)(A:W'.fr=W.fr)(u:Xb W W' t r')
 (w:r'.fin=true)(U:r'.n=(W.XT t).run.n)(z:(W.XT t).run.call.op≠5)(adg:r'.call=(W.XT t).run.call)(Q:r'.call.op≠4/\r'.call.op≠5/\r'.call.op≠6)
 (xi:about r' (W.XT t).aD=k)(hop:if j=8*k+4 then r'.call.op≠9 else r'.call.op=9):sd p F n W W' O O VM VM t r':=by
 have R:=S.inv.UU t S.lt S.busy;have C:=S.inv.pl;have fb:=C.s;have gk:=S.inv.Zt k bW;have e:=gk.no.2 live;have vC:=S.inv.eb bW J;have G:=gk.ZI J e;have iR:eY (W.XT t) r'=bH {W.XT t with run:=r'}:=by unfold eY;rw[w];rfl
 have g:=u.same;rw[iR]at g;have v:(W'.XT t).aD=(W.XT t).aD:=by rw[g,iV _ (fun _=>Q)]
 have r:W'.V j=x:=by rw[K,aP]
 have Z2: ∀i,i≠j->W'.V i=W.V i:=fun i h1=>by rw[K,aw _ _ h1]
 have a:j=8*k+4\/(bs W.V k<=8*j/\8*(j:Int)<bs W.V k+TJ W.V k/\∀o,o∈O k->o.at_≠j/\o.at_+1≠j):=by
  rcases B with h|⟨o,f,h1,m⟩
  ·exact .inl h
  ·right;have M:=S.inv.ht bW f;have lh:=(gk.hd o f).1;unfold Zr.ok at lh;have:=M.2.2.2.2 e;refine⟨J,J,fun y hy=>?_⟩;rcases nr G (fun o f=>(gk.hd o f).1) f hy with rfl|h|h
   ·omega
   ·omega
   ·have:=(gk.hd y hy).1;unfold Zr.ok at this;omega
 have d: ∀s:Nat,s<p.s->j≠8*s/\j≠8*s+1/\j≠8*s+2/\j≠8*s+3:=by
  intro s b;rcases a with h|h<;>omega
 have iW: ∀s:Nat,s<p.s->Wi W'.V s=Wi W.V s:=fun s b=>by unfold Wi;rw[Z2 _ (by have:=d s b;omega)]
 have P:TJ W'.V k=TJ W.V k:=Z2 _ (by have:=d k bW;omega);have ky:=eH (T:=p.t.toNat) (t:=t) (by have:=S.lt;omega) u.other k;rw[v]at ky;refine⟨?_,?_,?_,?_⟩
 ·refine S.inv.loc S.lt bW J ?_ (by rw[A]) u.other (fun s b=>rfl) (fun _ _=>rfl) ?_ ?_ ?_ ?_ ?_ ?_ ?_ ?_ ?_ ?_ ?_ ?_ ?_ ?_ ?_ ?_ ?_ ?_ ?_ ?_
  ·intro i hi;have:i=j:=Classical.byContradiction fun c=>hi (Z2 i c);subst this;rcases a with h|h
   ·exact .inl (.inr (.inr h))
   ·exact .inr J
  ·rw[Z2 _ (by have:=d k bW;omega)];exact gk.ft
  ·rw[iW k bW];omega
  ·intro X;subst X;rw[iW 0 bW];exact(gk.zero rfl).1
  ·rw[P];exact gk.q7 J
  ·intro y hy;have M:=S.inv.ht bW hy;have L:KD j y:=by
    rcases a with h|h
    ·unfold KD;omega
    ·exact h.2.2 y hy
   rw[iW k bW,Z2 _ L.1,Z2 _ L.2];exact gk.hd y hy
  ·intro _ _;rw[P];exact G
  ·intro q H;rw[e]at H;cases H
  ·rw[iW k bW];exact gk.no
  ·intro h;rw[iW k bW]at h;omega
  ·intro i;by_cases c:i=j
   ·subst c;rw[r];exact hj
   ·rw[Z2 i c];exact S.inv.jd i
  ·intro i hi;by_cases c:i=j
   ·subst c;rw[r]at hi;exact absurd hu hi
   ·rw[Z2 i c]at hi;exact S.inv.qB i hi
  ·rw[v];exact S.inv.U2 t S.lt
  ·intro s _;rw[v]
  ·intro h1;exact lI
  ·intro s _ hd;exact absurd hd (S.fU (.inr z) s)
  ·intro _ ZV;rw[iW k bW]at ZV;omega
  ·intro _ _ N;rw[g,eA]at N;cases N
  ·exact .inr ⟨live,by rw[iW k bW],fun y hy=>⟨y,hy,rfl,rfl⟩⟩
  ·rw[g];exact fj (S.inv.rg t S.lt)
  ·rw[g,es];exact S.inv.ZS t S.lt
 ·exact⟨fun s b=>.inl (by rw[iW s b]),fun s b _ m=>⟨by rw[iW s b];exact m,fun c5=>⟨c5,fun y hy=>⟨y,hy,rfl,rfl,rfl,rfl,fun _=>rfl⟩⟩⟩⟩
 ·rw[U];omega
 ·intro i hi;have:i=j:=Classical.byContradiction fun c=>hi (Z2 i c);subst this;refine⟨k,xi,bW,?_⟩;by_cases c:i=8*k+4
  ·rw[Z c]at hop;exact .inl ⟨J,hop⟩
  ·rw[Y c]at hop;rcases a with h|h
   ·exact absurd h c
   ·exact .inr ⟨J,.inr (.inr hop),J,J⟩
theorem qK(a:(W.XT t).run.call.op=8\/(W.XT t).run.call.op=9\/(W.XT t).run.call.op=10\/(W.XT t).run.call.op=11)(b:5<=(W.XT t).run.Xj/\(W.XT t).run.Xj<=12):
 one p F n W.V W.fr (W.XT t).run=((cK p n W.V (W.XT t).run).1,W.fr,(cK p n W.V (W.XT t).run).2):=by
 unfold one;rw[aB,aB,aB,aB,aB]
theorem CE(r:(W.XT t).run.call.op=8\/(W.XT t).run.call.op=9)(m:dr (W.XT t).run.hand)(hS:VA (W.XT t).run.hand<p.s)(g:reach (W.XT t).aD (VA (W.XT t).run.hand))
 (f:(W.XT t).run.Xj=5\/(Wi W.V (VA (W.XT t).run.hand).toNat).T5=UP (W.XT t).run.hand/\((W.XT t).run.Xj=6\/
   ∃o,o∈O (VA (W.XT t).run.hand).toNat/\8*(o.at_:Int)=WR (W.XT t).run.hand/\0<=(W.XT t).run.call.b/\(W.XT t).run.call.b<o.l/\(W.XT t).run.at_=WR (W.XT t).run.hand+16+8*(W.XT t).run.call.b/\
    ((W.XT t).run.call.op=8/\(W.XT t).run.Xj=9\/(W.XT t).run.call.op=9/\(W.XT t).run.Xj=10/\ku (W.XT t).run.val\/
     (W.XT t).run.call.op=9/\((W.XT t).run.Xj=7\/(W.XT t).run.Xj=8)/\dr (W.XT t).run.val/\VA (W.XT t).run.val<p.s/\reach (W.XT t).aD (VA (W.XT t).run.val)/\((W.XT t).run.Xj=8->(Wi W.V (VA (W.XT t).run.val).toNat).T5=UP (W.XT t).run.val)))):dm p F n W W' O VM t:=by
 have R:=S.inv.UU t S.lt S.busy;have a5:5<=(W.XT t).run.Xj/\(W.XT t).run.Xj<=12:=by
  rcases f with h|⟨_,h|⟨o,_,_,_,_,_,h|h|h⟩⟩<;>omega
 have e:=qK S (by clear f;omega) a5;have Yg:=S.V;have UA:=S.fr;have Wy:=S.Wa;have w:=R.n.2 (by clear f;omega);have j:=R.said;rw[Y (by clear f;omega),Y (by clear f;omega)]at j;unfold dm;rw[e]at Yg UA Wy⊢;have pW: ¬((W.XT t).run.call.op=5/\17<=(W.XT t).run.Xj):=by clear f;omega
 have bo:(W.XT t).run.call.op≠4/\(W.XT t).run.call.op≠5/\(W.XT t).run.call.op≠6:=by clear f;omega
 have ON:=m;unfold dr at ON;unfold cK at Yg Wy⊢;rcases f with T|⟨x,XX|⟨o,i,h1,A,ZV,X,u⟩⟩
 ·rw[Z T]at Yg Wy⊢;unfold ie at Yg Wy⊢;by_cases c:(Wi W.V (VA (W.XT t).run.hand).toNat).T5=UP (W.XT t).run.hand
  ·rw[Z c]at Yg Wy⊢;exact⟨O,VM,quiet S.inv S.lt S.busy Wy Yg UA ⟨rfl,rfl,rfl,rfl,rfl⟩ R.fin R.bF rfl (by simpa using j) rfl (fun _=>w) (fun h=>J) (.slot r m hS g (.inr ⟨c,.inl rfl⟩))⟩
  ·rw[Y c]at Yg Wy⊢;exact⟨O,VM,gu S.inv S.lt S.busy Wy Yg UA rfl rfl pW (fun _=>bo)⟩
 ·rw[aB,Z XX]at Yg Wy⊢;unfold qz at Yg Wy⊢;by_cases K:he n W.V (WR (W.XT t).run.hand/8).toNat (VA (W.XT t).run.hand) (UP (W.XT t).run.hand)
  case neg=>
   rw[Y K]at Yg Wy⊢;exact⟨O,VM,gu S.inv S.lt S.busy Wy Yg UA rfl rfl pW (fun _=>bo)⟩
  rw[Z K]at Yg Wy⊢;obtain⟨k,aX,jN,o,i,fG,ek,_⟩:=S.inv.E4 K;rw[ek]at Yg Wy⊢;by_cases a:0<=(W.XT t).run.call.b/\(W.XT t).run.call.b<o.l
  case neg=>
   rw[Y a]at Yg Wy⊢;exact⟨O,VM,gu S.inv S.lt S.busy Wy Yg UA rfl rfl pW (fun _=>bo)⟩
  rw[Z a]at Yg Wy⊢;have ip:(VA (W.XT t).run.hand).toNat=k:=J;have C:8*(o.at_:Int)=WR (W.XT t).run.hand:=by unfold WR at*;omega
  have G:o∈O (VA (W.XT t).run.hand).toNat:=by rw[ip];exact i
  by_cases L:(W.XT t).run.call.op=8
  ·rw[Z L]at Yg Wy⊢;exact⟨O,VM,quiet S.inv S.lt S.busy Wy Yg UA ⟨rfl,rfl,rfl,rfl,rfl⟩ R.fin R.bF rfl (by simpa using j) rfl (fun _=>w) (fun h=>J) (.slot r m hS g (.inr ⟨x,.inr ⟨o,G,C,a.1,a.2,rfl,.inl ⟨L,rfl⟩⟩⟩))⟩
  rw[Y L]at Yg Wy⊢;have B:(W.XT t).run.call.op=9:=J;by_cases q:(W.XT t).run.val=0
  ·rw[Z q]at Yg Wy⊢;exact⟨O,VM,quiet S.inv S.lt S.busy Wy Yg UA ⟨rfl,rfl,rfl,rfl,rfl⟩ R.fin R.bF rfl (by simpa using j) rfl (fun _=>w) (fun h=>J) (.slot r m hS g (.inr ⟨x,.inr ⟨o,G,C,a.1,a.2,rfl,.inr (.inl ⟨B,rfl,by show ku (W.XT t).run.val;rw[q];exact c2 am⟩)⟩⟩))⟩
  rw[Y q]at Yg Wy⊢;by_cases H:check p (W.XT t).run.chain (W.XT t).run.val=0
  ·rw[Z H]at Yg Wy⊢;have u:=pP H;rw[R.chain]at u;exact⟨O,VM,quiet S.inv S.lt S.busy Wy Yg UA ⟨rfl,rfl,rfl,rfl,rfl⟩ R.fin R.bF rfl (by simpa using j) rfl (fun _=>w) (fun h=>J) (.slot r m hS g (.inr ⟨x,.inr ⟨o,G,C,a.1,a.2,rfl,.inr (.inr ⟨B,.inl rfl,u.1,u.2.1,u.2.2,fun h=>absurd (show(7:Int)=8 from h) am⟩)⟩⟩))⟩
  ·rw[Y H]at Yg Wy⊢;exact⟨O,VM,gu S.inv S.lt S.busy Wy Yg UA rfl rfl pW (fun _=>bo)⟩
 ·have N:=S.inv.rg t S.lt (W.XT t).run.call.v.toNat;rw[<-R.val]at N;obtain⟨k,U⟩: ∃k:Nat,VA (W.XT t).run.hand=k:=⟨(VA (W.XT t).run.hand).toNat,J⟩
  have y:(VA (W.XT t).run.hand).toNat=k:=J;rw[y]at i x;rcases u with⟨d,P⟩|⟨d,m4,LG⟩|⟨d,z,M,WP,Yv,X4⟩
  ·rw[aB,aB,aB,aB,Z P]at Yg Wy⊢;exact⟨O,VM,gu S.inv S.lt S.busy Wy Yg UA rfl rfl pW (fun _=>bo)⟩
  ·rw[aB,aB,aB,aB,aB,Z m4]at Yg Wy⊢;have Q:((W.XT t).run.at_/8).toNat=o.at_+2+(W.XT t).run.call.b.toNat:=J;rw[Q]at Yg Wy⊢;have fZ:=S.inv.ht (s:=k) J i;have Is:=S.inv.eb (s:=k) J fZ.1;refine⟨O,VM,wb S (k:=k) J (S.inv.live S.lt J (by rw[<-U];exact g) (S.fU (.inr J) k)) N LG (.inr ⟨o,i,Nat.le_add_right _ _,J⟩) Yg UA Wy rfl rfl J rfl bo ?_ ?_⟩
   ·show about (tell (W.XT t).run 0 0) _=_;unfold about;simp[tell,d,U]
   ·rw[aB];exact d
  ·have RT:=M;unfold dr at RT;rcases z with z|z
   ·rw[aB,aB,Z z]at Yg Wy⊢;unfold ie at Yg Wy⊢;by_cases c:(Wi W.V (VA (W.XT t).run.val).toNat).T5=UP (W.XT t).run.val
    ·rw[Z c]at Yg Wy⊢;exact⟨O,VM,quiet S.inv S.lt S.busy Wy Yg UA ⟨rfl,rfl,rfl,rfl,rfl⟩ R.fin R.bF rfl (by simpa using j) rfl (fun _=>w) (fun h=>J) (.slot r m hS g (.inr ⟨by show(Wi W.V (VA (W.XT t).run.hand).toNat).T5=_;rw[y];exact x,.inr ⟨o,by show o∈O (VA (W.XT t).run.hand).toNat;rw[y];exact i,h1,A,ZV,X,.inr (.inr ⟨d,.inr rfl,M,WP,Yv,fun _=>c⟩)⟩⟩))⟩
    ·rw[Y c]at Yg Wy⊢;exact⟨O,VM,gu S.inv S.lt S.busy Wy Yg UA rfl rfl pW (fun _=>bo)⟩
   ·rw[aB,aB,aB,Z z]at Yg Wy⊢;unfold lr at Yg Wy⊢;by_cases c:he n W.V (WR (W.XT t).run.val/8).toNat (VA (W.XT t).run.val) (UP (W.XT t).run.val)
    case neg=>
     exact nK
    rw[Z c,Z d,Z d]at Yg Wy⊢;by_cases a:kt (W.XT t).run.chain (VA (W.XT t).run.val) (VA (W.XT t).run.hand)=true
    ·rw[Z a]at Yg Wy⊢;exact⟨O,VM,quiet S.inv S.lt S.busy Wy Yg UA ⟨rfl,rfl,rfl,rfl,rfl⟩ R.fin R.bF rfl (by simpa using j) rfl (fun _=>w) (fun h=>J) (.slot r m hS g (.inr ⟨by show(Wi W.V (VA (W.XT t).run.hand).toNat).T5=_;rw[y];exact x,.inr ⟨o,by show o∈O (VA (W.XT t).run.hand).toNat;rw[y];exact i,h1,A,ZV,X,.inr (.inl ⟨d,rfl,c2 (M.UK N.1)⟩)⟩⟩))⟩
    ·rw[Y a]at Yg Wy⊢;exact⟨O,VM,gu S.inv S.lt S.busy Wy Yg UA rfl rfl pW (fun _=>bo)⟩
theorem acz(f:(W.XT t).run.call.op=10)(d:(W.XT t).run.Xj=11):dm p F n W W' O VM t:=by
 have e:=qK S J J;have c:=S.V;have a:=S.fr;have b:=S.Wa;unfold dm;rw[e]at c a b⊢;unfold cK at c b⊢;rw[aB,aB,aB,aB,aB,aB,Z d]at c b⊢;exact⟨O,VM,gu S.inv S.lt S.busy b c a rfl rfl J (fun _=>by show(W.XT t).run.call.op≠4/\(W.XT t).run.call.op≠5/\(W.XT t).run.call.op≠6;omega)⟩
theorem CF(j:(W.XT t).run.call.op=11)(q:1<=(W.XT t).run.call.a/\(W.XT t).run.call.a<p.s)(b:reach (W.XT t).aD (W.XT t).run.call.a)
 (m:(W.XT t).run.Xj=12/\ku (W.XT t).run.val\/((W.XT t).run.Xj=7\/(W.XT t).run.Xj=8)/\dr (W.XT t).run.val/\VA (W.XT t).run.val<p.s/\reach (W.XT t).aD (VA (W.XT t).run.val)/\((W.XT t).run.Xj=8->(Wi W.V (VA (W.XT t).run.val).toNat).T5=UP (W.XT t).run.val)):dm p F n W W' O VM t:=by
 have R:=S.inv.UU t S.lt S.busy;have e:=qK S J J;have Yg:=S.V;have UA:=S.fr;have Wy:=S.Wa;have u:=R.n.2 J;have i:=R.said;rw[aB,aB]at i;have pW: ¬((W.XT t).run.call.op=5/\17<=(W.XT t).run.Xj):=J;have bo:(W.XT t).run.call.op≠4/\(W.XT t).run.call.op≠5/\(W.XT t).run.call.op≠6:=J;have g:=S.inv.rg t S.lt (W.XT t).run.call.v.toNat;rw[<-R.val]at g;obtain⟨k,o⟩: ∃k:Nat,(W.XT t).run.call.a=k:=⟨(W.XT t).run.call.a.toNat,J⟩
 have z:(W.XT t).run.call.a.toNat=k:=J;unfold dm;rw[e]at Yg UA Wy⊢;unfold cK at Yg Wy⊢;rcases m with⟨A,w⟩|⟨d,r,x,y,B⟩
 ·rw[aB,aB,aB,aB,aB,aB,aB,z]at Yg Wy⊢;refine⟨O,VM,wb S (k:=k) J (S.inv.live S.lt J (by rw[<-o];exact b) (S.fU (.inr J) k)) g w (.inl rfl) Yg UA Wy rfl rfl J rfl bo ?_ ?_⟩
  ·show about (tell (W.XT t).run 0 0) _=_;unfold about;simp[tell,j,o]
  ·rw[Z rfl];show(W.XT t).run.call.op≠9;omega
 ·rcases d with d|d
  ·rw[aB,aB,Z d]at Yg Wy⊢;unfold ie at Yg Wy⊢;by_cases c:(Wi W.V (VA (W.XT t).run.val).toNat).T5=UP (W.XT t).run.val
   ·rw[Z c]at Yg Wy⊢;exact⟨O,VM,quiet S.inv S.lt S.busy Wy Yg UA ⟨rfl,rfl,rfl,rfl,rfl⟩ R.fin R.bF rfl (by simpa using i) rfl (fun _=>u) (fun h=>J) (.gate j q b (.inr ⟨.inr rfl,r,x,y,fun _=>c⟩))⟩
   ·rw[Y c]at Yg Wy⊢;exact⟨O,VM,gu S.inv S.lt S.busy Wy Yg UA rfl rfl pW (fun _=>bo)⟩
  ·rw[aB,aB,aB,Z d]at Yg Wy⊢;unfold lr at Yg Wy⊢;by_cases c:he n W.V (WR (W.XT t).run.val/8).toNat (VA (W.XT t).run.val) (UP (W.XT t).run.val)
   case neg=>
    exact nK
   have l: ¬(W.XT t).run.call.op=9:=J;simp only[Z c,Y l]at Yg Wy⊢;by_cases f:kt (W.XT t).run.chain (VA (W.XT t).run.val) (W.XT t).run.call.a=true
   ·rw[Z f]at Wy⊢;exact⟨O,VM,quiet S.inv S.lt S.busy Wy Yg UA ⟨rfl,rfl,rfl,rfl,rfl⟩ R.fin R.bF rfl (by simpa using i) rfl (fun _=>u) (fun h=>J) (.gate j q b (.inl ⟨rfl,c2 (r.UK g.1)⟩))⟩
   ·rw[Y f]at Wy⊢;exact⟨O,VM,gu S.inv S.lt S.busy Wy Yg UA rfl rfl pW (fun _=>bo)⟩
end
end
end
section
theorem ZL.next{p:PO}{F:b1}{V V':Nat->Int}{O O':Nat->List Zr}{j g:Nat->Option Nat}{T:eD}(R:ZL p F V O j T){r':RJ}(c:mC T.run r')(a:r'.fin=false)(d:r'.bF=false)(e:r'.aC=T.run.aC)
 (f:r'.said.length<=8*r'.n+(if r'.Xj=20 then r'.op else if r'.Xj=21 then 8 else 0))(i:0<=r'.n)(b:r'.Xj<20->r'.n=0/\r'.op=0)(k:XA p F V' O' g T.aD r'):ZL p F V' O' g {T with run:=r'}:=
 ⟨a,d,c.af.trans R.af,c.chain.trans R.chain,by show r'.hand=T.regs r'.call.h.toNat;rw[c.hand,c.call];exact R.hand,by show r'.val=T.regs r'.call.v.toNat;rw[c.val,c.call];exact R.val,
   by show cG r'.call;rw[c.call];exact R.call,f,⟨i,b⟩,by show r'.aC.n=0/\_;rw[e];exact R.aC,k⟩
theorem sf{T:eD}{r':RJ}(h:r'.fin=false):eY T r'= {T with run:=r'}:=by unfold eY;rw[h];rfl
theorem Xb.go{W W':Wd}{t:Nat}{r':RJ}(h:Xb W W' t r')(a:r'.fin=false):W'.XT t= {W.XT t with run:=r'}:=by rw[h.same,sf a]
theorem Xb.end_{W W':Wd}{t:Nat}{r':RJ}(h:Xb W W' t r')(a:r'.fin=true):W'.XT t=bH {W.XT t with run:=r'}:=by rw[h.same];unfold eY;rw[a];rfl
theorem sQ{T:eD}{pre:List bO}{e:bO}(c:T.run.aC.code=0)(a:T.run.call.op=5)(b:T.aD=pre++ [e]):(bH T).aD=pre:=by
 unfold bH;simp[c,a,b]
theorem ad0{T:eD}(a:T.run.aC.code≠0):(bH T).aD=T.aD:=by
 unfold bH;rw[Z a]
section
variable{p:PO}{F:b1}{n:Nat}{W W':Wd}{O:Nat->List Zr}{a:Nat->Option Nat}{t:Nat}
section
variable(S:mD p F n W W' O a t)
include S
theorem uk{k:Nat}{C':g7}{r':RJ}(m:k<p.s)(h1:1<=k)(i:2<=(Wi W.V k).st)(r:hZ C')(vG:2<=C'.st)(v:C'.T5=(Wi W.V k).T5)(e:a k=none)
 (H:W'.V=put W.V (8*k) (TK C'))(y:W'.fr=W.fr)(Q: ∀u,u≠t->W'.XT u=W.XT u)(z:r'.call.op=5)(C:da (W.XT t).aD=k)(x:r'.n=(W.XT t).run.n)
 (U:lD p (W'.XT t).aD)(pV: ∀s,s≠k->fF s (W'.XT t).aD=fF s (W.XT t).aD)
 (A:(C'.st=2->C'.Xf=within W' p.t.toNat k)/\(C'.st=3->within W' p.t.toNat k=1))(N:C'.st=3->gi (W'.XT t) k)
 (M:Wi W'.V k=C'->W'.V (8*k)=TK C'->bs W'.V k=bs W.V k->(W'.XT t).busy=true->ZL p F W'.V O a (W'.XT t))(T:(∀u:Nat,u<p.t->u≠t->¬reach (W.XT u).aD k)\/(Wi W.V k).st=2)
 (R: ∀j,0<=(W'.XT t).regs j/\(W'.XT t).regs j<18446744073709551616)(fc: ∀c,c∈(W'.XT t).calls->cG c):sd p F n W W' O O a a t r':=by
 have fb:=S.inv.pl.s;have gk:=S.inv.Zt k m;have w':W'.V (8*k)=TK C':=by rw[H,aP]
 have b: ∀j,j≠8*k->W'.V j=W.V j:=fun j d=>by rw[H];exact aw _ _ d
 have f:Wi W'.V k=C':=by unfold Wi;rw[w',ni r]
 have RS:bs W'.V k=bs W.V k:=b _ J;have L:TJ W'.V k=TJ W.V k:=b _ J;have XO:=r.st;refine⟨?_,?_,?_,?_⟩
 ·refine S.inv.loc S.lt m J ?_ y Q (fun _ _=>rfl) (fun _ _=>rfl) ?_ ?_ (fun h=>J) ?_ ?_ ?_ ?_ ?_ ?_ ?_ ?_ U pV ?_ ?_ ?_ ?_ ?_ R fc
  ·intro j d;by_cases c:j=8*k
   ·exact .inl (.inl c)
   ·exact absurd (b j c) d
  ·rw[w'];exact r.w
  ·rw[f];omega
  ·rw[L];exact gk.q7 J
  ·intro o l;have X:=S.inv.ht m l;have:=S.inv.eb m X.1;rw[b _ J,b _ J,f,v];exact gk.hd o l
  ·intro _ _;rw[L];exact gk.ZI i e
  ·intro q B;rw[e]at B;cases B
  ·rw[f];exact⟨fun h=>J,fun _=>e⟩
  ·intro h;rw[f]at h;omega
  ·intro j;by_cases c:j=8*k
   ·subst c;rw[w'];have:=r.UK;omega
   ·rw[b j c];exact S.inv.jd j
  ·intro j d;by_cases c:j=8*k
   ·subst c;rw[w']at d;exact absurd (c2 (by have:=r.UK;omega)) d
   ·rw[b j c]at d;exact S.inv.qB j d
  ·intro _;rw[f];exact⟨A.1,A.2,fun h=>J⟩
  ·intro s G hd;exact absurd (hd.2.2.2.symm.trans C) J
  ·intro _ K;rw[f]at K;exact N K
  ·intro P _ hb;exact M f w' P hb
  ·rcases T with g|g
   ·exact .inl g
   ·exact .inr ⟨g,by rw[f,v],fun o l=>⟨o,l,rfl,rfl⟩⟩
 ·refine⟨fun s G=>.inl ?_,fun s G il i=>⟨?_,fun e=>⟨e,fun o l=>⟨o,l,rfl,rfl,rfl,rfl,fun _=>rfl⟩⟩⟩⟩
  ·by_cases c:s=k
   ·subst c;rw[f,v]
   ·unfold Wi;rw[b _ J]
  ·by_cases c:s=k
   ·subst c;rw[f];omega
   ·unfold Wi;rw[b _ J];exact i
 ·rw[x];omega
 ·intro j d;have E2:j=8*k:=Classical.byContradiction fun c=>d (b j c);exact⟨k,by unfold about;simp[z,C],m,.inl ⟨J,J⟩⟩
theorem ul(b:(W.XT t).run.call.op=5)(c:15<=(W.XT t).run.Xj):
 one p F n W.V W.fr (W.XT t).run=((bM F W.V (W.XT t).run).1,W.fr,(bM F W.V (W.XT t).run).2):=by
 unfold one;rw[aB,aB,aB,aB,Z b]
theorem E5(d:(W.XT t).run.call.op=5)(YJ: ∃pre,(W.XT t).aD=pre++ [⟨(W.XT t).run.af,true⟩])(li:(W.XT t).run.list= [])
 (TS:(W.XT t).run.Xj=15\/(W.XT t).run.Xj=16/\okW (W.XT t).run.word/\(up (W.XT t).run.word).st=2/\(W.XT t).run.next=TK (ic (up (W.XT t).run.word))):dm p F n W W' O a t:=by
 have R:=S.inv.UU t S.lt S.busy;have e:=ul S d J;have g:=S.V;have r:=S.fr;have b:=S.Wa;have UG:=S.inv.pl;have fb:=UG.s;have v:=S.inv.U2 t S.lt;obtain⟨pre,o⟩:=YJ;have M:=v.each pre _ [] o;obtain⟨k,H⟩: ∃k:Nat,(W.XT t).run.af=k:=⟨(W.XT t).run.af.toNat,by have:=M.1;simp at this;omega⟩
 have L:(W.XT t).run.af.toNat=k:=J;rw[H]at o M;have B:(k:Int)<p.s:=M.2.1;have Q:1<=k:=by have:=M.2.2.1 rfl;simp at this;omega
 have gk:=S.inv.Zt k B;have U:=R.n.2 J;have K:=R.said;rw[aB,aB]at K;have UD:reach (W.XT t).aD k:=by rw[o];exact .inr aN
 have live:=S.inv.live S.lt B UD (S.fU (.inl J) k);have z:=gk.no.2 live;have N:da (W.XT t).aD=k:=by rw[o,hn]
 unfold dm;rw[e]at g r b⊢;unfold bM at g b⊢;rw[L]at g b⊢;rcases TS with EZ|⟨RU,Vu,cx,A⟩
 ·rw[Z EZ]at g b⊢;exact⟨O,a,quiet S.inv S.lt S.busy b g r ⟨rfl,rfl,rfl,rfl,rfl⟩ R.fin R.bF rfl (by simpa using K) rfl (fun _=>U) (fun _ h=>J)
   (.nn d ⟨pre,by show _=pre++ [⟨(W.XT t).run.af,true⟩];rw[H];exact o⟩ li (.inr ⟨rfl,gk.ft,live,rfl⟩))⟩
 ·rw[aB,Z RU]at g b⊢;by_cases P:W.V (8*k)=(W.XT t).run.word
  case neg=>
   rw[Y P]at g b⊢;exact⟨O,a,quiet S.inv S.lt S.busy b g r ⟨rfl,rfl,rfl,rfl,rfl⟩ R.fin R.bF rfl (by simpa using K) rfl (fun _=>U) (fun _ h=>J)
    (.nn d ⟨pre,by show _=pre++ [⟨(W.XT t).run.af,true⟩];rw[H];exact o⟩ li (.inl rfl))⟩
  rw[Z P]at g b⊢;rw[<-P]at A;have nJ:up (W.V (8*k))=Wi W.V k:=rfl;rw[nJ]at A;have c:=gk.ft.ok.leave live;rw[nJ]at c;obtain⟨C',G⟩: ∃C',ic (Wi W.V k)=C':=⟨_,rfl⟩
  have OO:C'.Xf=(Wi W.V k).Xf-1/\C'.T5=(Wi W.V k).T5:=by rw[<-G];exact⟨rfl,rfl⟩
  rw[G]at c A;have OP:up (W.XT t).run.next=C':=by rw[A,ni c.1]
  rw[OP]at g b⊢;have OQ:W'.V=put W.V (8*k) (TK C'):=by rw[g,A]
  have yr:=(S.inv.Xf k Q B).1 live;have ads:=c.1.Xf;by_cases w:C'.st=3
  ·rw[Z w]at g b⊢;have q:=b.go R.fin;have eR:=c.2.1.1 w;have x:(W'.XT t).aD=(W.XT t).aD:=by rw[q]
   have X:=eH (T:=p.t.toNat) (t:=t) (by have:=S.lt;omega) b.other k;rw[x]at X;refine⟨O,a,uk S B Q J c.1 J OO.2 z OQ r b.other d N rfl (by rw[x];exact v) (fun s _=>by rw[x]) ⟨fun h=>J,fun _=>J⟩ ?_ ?_ ?_ ?_ ?_⟩
   ·intro _;rw[q];exact⟨S.busy,d,(show(17:Int)<=17 by decide),N⟩
   ·intro C y _ _;rw[q];refine R.next ⟨rfl,rfl,rfl,rfl,rfl⟩ R.fin R.bF rfl (by simpa using K) R.n.1 (fun _=>U) (.drain d ⟨pre,by show _=pre++ [⟨(W.XT t).run.af,true⟩];rw[H];exact o⟩ ⟨(show(17:Int)<=17 by decide),(show(17:Int)<=26 by decide)⟩ ?_ ?_ ?_)
    ·show W'.V (8*(W.XT t).run.af.toNat)=(W.XT t).run.next;rw[L,y];exact A.symm
    ·show(Wi W'.V (W.XT t).run.af.toNat).st=3;rw[L,C];exact w
    ·show WF F W'.V (O (W.XT t).run.af.toNat) (a (W.XT t).run.af.toNat) (W.XT t).run.af.toNat _;rw[L];exact .first rfl li z
   ·refine .inl fun u hu U4 RW=>?_;have hm:(⟨k,true⟩:bO)∈(W.XT u).aD:=by
     rcases RW with e|e
     ·omega
     ·exact e
    have h1:=jq hm;have Tw:=jq (s:=k) (l:=(W.XT t).aD) (by rw[o];simp);have:=r0 (f:=fun i=>fF k (W.XT i).aD) (m:=p.t.toNat) (i:=t) (j:=u) (by have:=S.lt;omega) J (fun y=>U4 y.symm);unfold within at yr;omega
   ·rw[q];exact S.inv.rg t S.lt
   ·rw[q];exact S.inv.ZS t S.lt
  ·rw[Y w]at g b⊢;have adt:C'.st=2:=by have:=c.2;omega
   have iR:eY (W.XT t) (tell (W.XT t).run 0 0)=bH {W.XT t with run:=tell (W.XT t).run 0 0}:=rfl;have q:=b.same;rw[iR]at q;have x:(W'.XT t).aD=pre:=by rw[q];exact sQ rfl d o
   have X:=eH (T:=p.t.toNat) (t:=t) (by have:=S.lt;omega) b.other k;rw[x,o,hw,Z rfl]at X;refine⟨O,a,uk S B Q J c.1 J OO.2 z OQ r b.other d N rfl ?_ ?_ ⟨fun h=>J,fun h=>J⟩ (fun h=>J) ?_ (.inr live) ?_ ?_⟩
   ·rw[x];rw[o]at v;exact v.pop
   ·intro s YF;rw[x,o,hw,Y (fun e=>by injection e with C;omega)];rfl
   ·intro _ _ _ hb;rw[q,eA]at hb;cases hb
   ·rw[q];exact fj (S.inv.rg t S.lt)
   ·rw[q,es];exact S.inv.ZS t S.lt
end
end
end
section
theorem abD(F:b1)(L:List Zr)(q:Zr->Bool):(cO F (L.filter q)).length<=(cO F L).length:=by
 unfold cO;rw[bJ,bJ,List.filter_filter];have:L.filter (fun a=>fX F a&&q a)=(L.filter (fX F)).filter q:=by rw[List.filter_filter];congr 1;funext a;exact Bool.and_comm ..
 rw[this];exact List.length_filter_le ..
theorem um{F:b1}{o:Zr}(h:fX F o=true):o.d=false/\0<(bY F o.t).length:=by
 unfold fX at h;cases e:bY F o.t with
 |nil=>rw[e]at h;simp at h
 |cons x l=>rw[e]at h;simp at h;exact⟨h,aN⟩
theorem Ao{F:b1}(h:tN F)(t:Nat):(bY F t).length<=8/\∀o,o∈bY F t->okF o:=by
 unfold bY;rw[ae];cases e:F[t]? with
 |none=>exact⟨aN,fun o a=>by simp at a⟩
 |some l=>exact h.2 l (bf e)
structure jO(p:PO)(F:b1)(n:Nat)(W W':Wd)(O:Nat->List Zr)(VM:Nat->Option Nat)(t:Nat)(pre:List bO)(k:Nat):Prop where
 S:mD p F n W W' O VM t
 UJ:(W.XT t).run.call.op=5
 aD:(W.XT t).aD=pre++ [⟨k,true⟩]
 af:(W.XT t).run.af=k
 Xj:17<=(W.XT t).run.Xj/\(W.XT t).run.Xj<=26
 w:W.V (8*k)=(W.XT t).run.next
 st:(Wi W.V k).st=3
 Ua:k<p.s
 Tv:1<=k
section
variable{p:PO}{F:b1}{n:Nat}{W W':Wd}{O:Nat->List Zr}{b:Nat->Option Nat}{t:Nat}{pre:List bO}{k:Nat}
section
variable(a:jO p F n W W' O b t pre k)
include a
theorem jO.Ap:(W.XT t).run.af.toNat=k:=by rw[a.af];rfl
theorem jO.alone:(∀u:Nat,u<p.t->u≠t->¬reach (W.XT u).aD k)/\fF k (W.XT t).aD=1:=
 a.S.inv.alone a.S.lt a.Ua a.Tv a.st (by rw[a.aD];simp)
theorem jO.one:one p F n W.V W.fr (W.XT t).run=((bM F W.V (W.XT t).run).1,W.fr,(bM F W.V (W.XT t).run).2):=ul a.S a.UJ (by have:=a.Xj;omega)
theorem jO.da:da (W.XT t).aD=k:=by rw[a.aD,hn]
theorem jO.kind{V':Nat->Int}{O':Nat->List Zr}{h:Nat->Option Nat}{r':RJ}(c:mC (W.XT t).run r')(f:r'.next=(W.XT t).run.next)(d:V' (8*k)=W.V (8*k))(i:17<=r'.Xj/\r'.Xj<=26)
 (g:WF F V' (O' k) (h k) k r'):XA p F V' O' h (W.XT t).aD r':=by
 have e:r'.af.toNat=k:=by rw[c.af];exact a.Ap
 refine .drain (by rw[c.call];exact a.UJ) ⟨pre,by rw[c.af,a.af];exact a.aD⟩ i ?_ ?_ (by rw[e];exact g)
 ·rw[e,d,f];exact a.w
 ·rw[e];unfold Wi;rw[d];exact a.st
theorem jO.quiet{r':RJ}(v:W'.V=W.V)(j:W'.fr=W.fr)(u:Xb W W' t r')(c:mC (W.XT t).run r')(h:r'.next=(W.XT t).run.next)(f:r'.fin=(W.XT t).run.fin)(g:r'.bF=(W.XT t).run.bF)(l:r'.aC=(W.XT t).run.aC)
 (m:r'.said=(W.XT t).run.said)(e:r'.n=(W.XT t).run.n)(d:r'.op=(W.XT t).run.op)(r:(W.XT t).run.Xj<20)(s:r'.Xj≠21)(o:17<=r'.Xj/\r'.Xj<=26)(i:WF F W.V (O k) (b k) k r'):sd p F n W W' O O b b t r':=by
 have R:=a.S.inv.UU t a.S.lt a.S.busy;have q:=R.n.2 r;have w:=R.said;rw[aB,aB]at w;refine Go.Proofs.YtcimojgkeoecfaaGreat.quiet a.S.inv a.S.lt a.S.busy u v j c (f.trans R.fin) (g.trans R.bF) l ?_ e ?_ (fun _ _=>o.1) (a.kind c h rfl o i)
 ·rw[m,e,d,q.2,Y s];split<;>omega
 ·intro _;rw[e,d];exact q
theorem jO.loc{O':Nat->List Zr}{m:Nat->Option Nat}{r':RJ}(P:W'.fr=W.fr)(x:Xb W W' t r')(c:mC (W.XT t).run r')(M:r'.next=(W.XT t).run.next)(u:r'.fin=(W.XT t).run.fin)(K:r'.bF=(W.XT t).run.bF)(Q:r'.aC=(W.XT t).run.aC)
 (y: ∀j,W'.V j≠W.V j->(j=8*k+3\/j=8*k+4)\/bs W.V k<=8*j/\8*(j:Int)<bs W.V k+Ts W.V k)
 (e: ∀s,s≠k->O' s=O s)(v: ∀s,s≠k->m s=b s)
 (q7:0<=TJ W'.V k/\TJ W'.V k<=Ts W.V k/\TJ W'.V k %8=0)
 (hd: ∀o,o∈O' k->o.ok/\W'.V o.at_=o.w/\W'.V (o.at_+1)=k+256*(Wi W.V k).T5)
 (L:m k=none->ks (bs W.V k/8).toNat (O' k) ((bs W.V k+TJ W'.V k)/8).toNat)
 (H: ∀q,m k=some q->∀o,o∈O' k->q<=o.at_/\bs W.V k<=8*o.at_/\8*(o.at_:Int)+16<=bs W.V k+TJ W'.V k)
 (yo: ∀k,0<=W'.V k/\W'.V k<18446744073709551616)
 (x0: ∀k,¬ku (W'.V k)->∃s:Nat,s<p.s/\∃o,o∈O' s/\o.at_=k)
 (U:r'.said.length<=8*r'.n+(if r'.Xj=20 then r'.op else if r'.Xj=21 then 8 else 0))(VF:0<=r'.n)(G:r'.Xj<20->r'.n=0/\r'.op=0)(a5:17<=r'.Xj/\r'.Xj<=26)
 (N:bs W'.V k=bs W.V k->WF F W'.V (O' k) (m k) k r')
 (cnt:(cO F (O' k)).length+r'.n.toNat<=(cO F (O k)).length+(W.XT t).run.n.toNat)
 (OK:m k=none->b k=none/\∀o,o∈O k->∃o',o'∈O' k/\o'.at_=o.at_/\o'.z=o.z/\o'.l=o.l/\o'.t=o.t):sd p F n W W' O O' b m t r':=by
 have S:=a.S;have R:=S.inv.UU t S.lt S.busy;have fb:=S.inv.pl.s;have bW:=a.Ua;have cx:=a.st;have gk:=S.inv.Zt k bW;have r:=x.go (u.trans R.fin);have vC:=S.inv.eb bW J;have w0: ∀s:Nat,s<p.s->W'.V (8*s)=W.V (8*s):=by
  intro s d;apply Classical.byContradiction;intro bo;have:=y _ bo;omega
 have iW: ∀s:Nat,s<p.s->Wi W'.V s=Wi W.V s:=fun s d=>by unfold Wi;rw[w0 s d]
 have C:(W'.XT t).aD=(W.XT t).aD:=by rw[r]
 have ky:=eH (T:=p.t.toNat) (t:=t) (by have:=S.lt;omega) x.other k;rw[C]at ky;have aal:O'=put O k (O' k):=by
  funext s;by_cases c:s=k
  ·subst c;rw[aP]
  ·rw[aw _ _ c,e s c]
 refine⟨?_,?_,?_,?_⟩
 ·refine S.inv.loc S.lt bW J ?_ P x.other e v ?_ ?_ (fun h=>by have:=a.Tv;omega) q7 ?_ (fun _=>L) ?_ ?_ ?_ yo x0 ?_ ?_ ?_ ?_ ?_ ?_ ?_ ?_ ?_
  ·intro j i;rcases y j i with h|h
   ·exact .inl (.inr h)
   ·exact .inr h
  ·rw[w0 k bW];exact gk.ft
  ·rw[iW k bW];omega
  ·rw[iW k bW];exact hd
  ·rw[iW k bW];exact fun q VX=>⟨a.Tv,cx,H q VX⟩
  ·rw[iW k bW];exact⟨fun h=>J,fun h=>J⟩
  ·rw[iW k bW];intro h;omega
  ·rw[C];exact S.inv.U2 t S.lt
  ·intro s _;rw[C]
  ·intro h1;exact lI
  ·intro s d Ak;exact absurd (Ak.2.2.2.symm.trans a.da) J
  ·intro _ _;rw[r];exact⟨S.busy,by show r'.call.op=5;rw[c.call];exact a.UJ,a5.1,a.da⟩
  ·intro aaI _ _;rw[r];exact R.next c (u.trans R.fin) (K.trans R.bF) Q U VF G (a.kind c M (w0 k bW) a5 (N aaI))
  ·exact .inl a.alone.1
  ·rw[r];exact S.inv.rg t S.lt
  ·rw[r];exact S.inv.ZS t S.lt
 ·refine⟨fun s d=>.inl (by rw[iW s d]),fun s d _ f=>⟨by rw[iW s d];exact f,fun B=>?_⟩⟩;by_cases g:s=k
  ·subst g;have:=OK B;refine⟨this.1,fun o A=>?_⟩;obtain⟨o',h1,f,ZV,Ya,X⟩:=this.2 o A;exact⟨o',h1,f,ZV,Ya,X,fun h=>by rw[iW s d]at h;omega⟩
  ·rw[v s g]at B;exact⟨B,fun o A=>⟨o,by rw[e s g];exact A,rfl,rfl,rfl,rfl,fun _=>rfl⟩⟩
 ·have:=rh (F:=F) (O:=O) (k:=k) (S:=p.s.toNat) (O' k) J;rw[<-aal]at this;omega
 ·intro j i;refine⟨k,by unfold about;simp[c.call,a.UJ,a.da],bW,?_⟩;rcases y j i with h|h
  ·exact .inl ⟨J,by rw[c.call,a.UJ];decide⟩
  ·exact .inr ⟨J,.inl (by rw[c.call];exact a.UJ),h.1,h.2⟩
theorem Iu(h:(W.XT t).run.Xj=17)(i:(W.XT t).run.list= [])(g:b k=none):dm p F n W W' O b t:=by
 have e:=a.one;have f:=a.S.V;have c:=a.S.fr;have d:=a.S.Wa;unfold dm;rw[e]at f c d⊢;unfold bM at f d⊢;rw[aB,aB,Z h,a.Ap]at f d⊢;exact⟨O,b,a.quiet f c d ⟨rfl,rfl,rfl,rfl,rfl⟩ rfl rfl rfl rfl rfl rfl rfl J (show(18:Int)≠21 by decide) ⟨(show(17:Int)<=18 by decide),(show(18:Int)<=26 by decide)⟩ (.top rfl i g rfl rfl)⟩
end
theorem kC(r:RJ):(r.list≠ []/\bP r= {r with Xj:=20})\/(r.list= []/\(bP r= {r with Xj:=22}\/bP r= {r with Xj:=23})):=by
 unfold bP;by_cases c:r.list≠ []
 ·exact .inl ⟨c,Z c⟩
 ·refine .inr ⟨Classical.byContradiction c,?_⟩;rw[Y c];split
  ·exact .inl rfl
  ·exact .inr rfl
theorem ad2{r:RJ}(l:r.op=0)(d:b k=none)(h1:r.word=bs W.V k)(a:r.top=bs W.V k+TJ W.V k)(f:r.list=cO F (O k)):WF F W.V (O k) (b k) k (bP r):=by
 rcases kC r with⟨c,e⟩|⟨c,e|e⟩
 ·rw[e];rw[f]at c;obtain⟨pr,o,h,g,i,j⟩:=tQ c;exact .fin pr o h rfl d h1 a g i j f (by show 0<=r.op;omega) (by show r.op<_;have:=(um i).2;omega)
 ·rw[e];rw[f]at c;exact .rest (.inl rfl) d h1 a c (f.trans c)
 ·rw[e];rw[f]at c;exact .rest (.inr rfl) d h1 a c (f.trans c)
theorem rk(r:RJ):mC r (ee r)/\(ee r).next=r.next/\(ee r).fin=r.fin/\(ee r).bF=r.bF/\(ee r).aC=r.aC/\(ee r).said=r.said/\(ee r).n=r.n/\(ee r).op=r.op/\(17<=(ee r).Xj/\(ee r).Xj<=26)/\(ee r).Xj≠21:=by
 unfold ee;split
 ·exact⟨⟨rfl,rfl,rfl,rfl,rfl⟩,rfl,rfl,rfl,rfl,rfl,rfl,rfl,⟨(show(17:Int)<=19 by decide),(show(19:Int)<=26 by decide)⟩,(show(19:Int)≠21 by decide)⟩
 ·rcases kC r with⟨c,e⟩|⟨c,e|e⟩
  ·rw[e];exact⟨⟨rfl,rfl,rfl,rfl,rfl⟩,rfl,rfl,rfl,rfl,rfl,rfl,rfl,⟨(show(17:Int)<=20 by decide),(show(20:Int)<=26 by decide)⟩,(show(20:Int)≠21 by decide)⟩
  ·rw[e];exact⟨⟨rfl,rfl,rfl,rfl,rfl⟩,rfl,rfl,rfl,rfl,rfl,rfl,rfl,⟨(show(17:Int)<=22 by decide),(show(22:Int)<=26 by decide)⟩,(show(22:Int)≠21 by decide)⟩
  ·rw[e];exact⟨⟨rfl,rfl,rfl,rfl,rfl⟩,rfl,rfl,rfl,rfl,rfl,rfl,rfl,⟨(show(17:Int)<=23 by decide),(show(23:Int)<=26 by decide)⟩,(show(23:Int)≠21 by decide)⟩
section
variable(f:jO p F n W W' O b t pre k)
include f
theorem yw{r:RJ}{pr post:List Zr}(l:r.op=0)(g:b k=none)(h1:r.word=bs W.V k)(d:r.top=bs W.V k+TJ W.V k)(c:O k=pr++post)(i: ∃a:Nat,r.at_=8*a/\ks a post ((bs W.V k+TJ W.V k)/8).toNat)
 (j:r.list=cO F pr):WF F W.V (O k) (b k) k (ee r):=by
 obtain⟨a,i,h⟩:=i;have m:=f.S.inv.eb f.Ua (by have:=f.st;omega);unfold ee;cases post with
 |nil=>
  have e:a=_:=h;rw[aB];exact ad2 l g h1 d (by rw[c,br];exact j)
 |cons o post=>
  have ok:=((f.S.inv.Zt k f.Ua).hd o (by rw[c];simp)).1;unfold Zr.ok at ok;obtain⟨e,h⟩:=h;have:=tP h;rw[m3];exact .walk pr o post rfl g h1 d c (by show r.at_=_;omega) j
theorem Iv(i:(W.XT t).run.Xj=18)(m:(W.XT t).run.list= [])(c:b k=none)(l:(W.XT t).run.at_=bs W.V k)(h:(W.XT t).run.word=bs W.V k):dm p F n W W' O b t:=by
 have e:=f.one;have g:=f.S.V;have a:=f.S.fr;have d:=f.S.Wa;have R:=f.S.inv.UU t f.S.lt f.S.busy;have o:=R.n.2 J;have q:=f.S.inv.eb f.Ua (by have:=f.st;omega);have j:=(f.S.inv.Zt k f.Ua).ZI (by have:=f.st;omega) c;have r:=f.S.inv.pl.s;unfold dm;rw[e]at g a d⊢;unfold bM at g d⊢;rw[aB,aB,aB,Z i,f.Ap]at g d⊢;obtain⟨f1,f2,f3,f4,f5,f6,f7,f8,f9,f11⟩:=rk {(W.XT t).run with top:=(W.XT t).run.at_+TJ W.V k};refine⟨O,b,f.quiet g a d ⟨f1.call,f1.af,f1.chain,f1.hand,f1.val⟩ f2 f3 f4 f5 f6 f7 f8 J f11 f9 (yw f (pr:= []) (post:=O k) o.2 c h ?_ rfl ⟨(bs W.V k/8).toNat,?_,j⟩ m)⟩
 ·show(W.XT t).run.at_+TJ W.V k=_;rw[l]
 ·show(W.XT t).run.at_=_;omega
theorem Iw{pr post:List Zr}{o:Zr}(v:(W.XT t).run.Xj=19)(j:b k=none)(q:(W.XT t).run.word=bs W.V k)(r:(W.XT t).run.top=bs W.V k+TJ W.V k)(a:O k=pr++o::post)(w:(W.XT t).run.at_=8*o.at_)(x:(W.XT t).run.list=cO F pr):dm p F n W W' O b t:=by
 have e:=f.one;have m:=f.S.V;have g:=f.S.fr;have l:=f.S.Wa;have R:=f.S.inv.UU t f.S.lt f.S.busy;have y:=R.n.2 J;have s:=(f.S.inv.Zt k f.Ua).ZI (by have:=f.st;omega) j;rw[a]at s;have u:=(np s).2;have B:o∈O k:=by rw[a];simp
 have A:=(f.S.inv.ri f.Ua B).2;unfold dm;rw[e]at m g l⊢;unfold bM at m l⊢;rw[aB,aB,aB,aB,Z v,show((W.XT t).run.at_/8).toNat=o.at_ from J,A]at m l⊢;obtain⟨f1,f2,f3,f4,f5,f6,f7,f8,f9,f11⟩:=rk {(W.XT t).run with list:=if o.d=false/\bY F o.t≠ []then(W.XT t).run.list++ [(W.XT t).run.at_]else(W.XT t).run.list,at_:=(W.XT t).run.at_+8*o.z};refine⟨O,b,f.quiet m g l ⟨f1.call,f1.af,f1.chain,f1.hand,f1.val⟩ f2 f3 f4 f5 f6 f7 f8 J f11 f9 (yw f (pr:=pr++ [o]) (post:=post) y.2 j q r (by rw[a];simp) ⟨o.at_+o.z,?_,u⟩ ?_)⟩
 ·show(W.XT t).run.at_+8*o.z=_;omega
 ·show(if o.d=false/\bY F o.t≠ []then(W.XT t).run.list++ [(W.XT t).run.at_]else(W.XT t).run.list)=_;rw[iQ,jr,x,w];have i:fX F o=true↔o.d=false/\bY F o.t≠ []:=by unfold fX;simp
  by_cases c:o.d=false/\bY F o.t≠ []
  ·rw[Z c,Z (i.2 c)];rfl
  ·rw[Y c,Y (fun h=>c (i.1 h))];simp[cO]
end
end
end
section
def un(x:Int):Prop:=ku x/\0<=x/\x<18446744073709551616
theorem we:un 0:=⟨c2 am,am,am⟩
theorem wh{sl:List Int}(h: ∀x,x∈sl->un x)(i:Nat):un (sl.getD i 0):=by
 rw[ae];cases e:sl[i]? with
 |none=>exact we
 |some x=>exact h x (bf e)
theorem yx{sl:List Int}(h: ∀x,x∈sl->un x)(i:Nat){v:Int}(hv:un v): ∀x,x∈sl.set i v->un x:=by
 intro x a;rcases List.mem_or_eq_of_mem_set a with a|rfl
 ·exact h x a
 ·exact hv
theorem CH{o:jc}(f:okF o){sl:List Int}(h: ∀x,x∈sl->un x):0<=(dd o sl).1/\(dd o sl).2.1.length=sl.length/\(∀x,x∈(dd o sl).2.1->un x)/\(dd o sl).2.2.1.length<=1:=by
 have hb:=f.b;unfold dd;by_cases c:o.op=0
 ·rw[Z c];exact⟨(show(0:Int)<=0 by decide),rfl,h,ai 1⟩
 rw[Y c];by_cases d:o.op=1
 ·simp only[Z d];refine⟨am,?_,?_,aN⟩
  ·split<;>simp
  ·split
   ·exact yx h _ we
   ·exact h
 rw[Y d];by_cases a:o.op=2
 ·simp only[Z a];refine⟨am,?_,?_,aN⟩
  ·split<;>simp
  ·split
   ·exact yx h _ (wh h _)
   ·exact h
 rw[Y a];by_cases e:o.op=3
 ·rw[Z e];refine⟨?_,rfl,h,aL 1⟩;show 0<=(if _ then o.b else 0);split<;>omega
 ·rw[Y e];exact⟨(show(0:Int)<=0 by decide),rfl,h,aL 1⟩
section
variable{p:PO}{F:b1}{n:Nat}{W W':Wd}{O:Nat->List Zr}{f:Nat->Option Nat}{t:Nat}{pre:List bO}{k:Nat}
section
variable(g:jO p F n W W' O f t pre k){pr post:List Zr}{o:Zr}
include g pr post o
theorem Ix(CG:(W.XT t).run.Xj=20)(b:f k=none)(B:(W.XT t).run.word=bs W.V k)(C:(W.XT t).run.top=bs W.V k+TJ W.V k)(m:O k=pr++o::post)(v:fX F o=true)(M:cO F post= [])
 (T:(W.XT t).run.list=cO F (O k))(LH:0<=(W.XT t).run.op)(vz:(W.XT t).run.op<(bY F o.t).length):dm p F n W W' O f t:=by
 have e:=g.one;have u:=g.S.V;have z:=g.S.fr;have r:=g.S.Wa;have R:=g.S.inv.UU t g.S.lt g.S.busy;have dJ:=R.said;rw[Z CG]at dJ;have gk:=g.S.inv.Zt k g.Ua;have bW:=g.Ua;have VK:=gk.ZI (by have:=g.st;omega) b;have L:o∈O k:=by rw[m];simp
 have ek:=(g.S.inv.ri g.Ua L).2;have H:=g.S.inv.ht g.Ua L;have R1:=H.2.2.2.2 b;have vC:=g.S.inv.eb g.Ua H.1;have ok:=(gk.hd o L).1;have LI:=ok;unfold Zr.ok at LI;have R2:=Ao g.S.inv.WK o.t;have jv:=(q8 (F:=F) (pre:=pr) (post:=post) v M).1;rw[<-m,<-T]at jv;unfold dm;rw[e]at u z r⊢;unfold bM at u r⊢;rw[aB,aB,aB,aB,aB,Z CG]at u r⊢;simp only[jv,show((8*(o.at_:Int))/8).toNat=o.at_ from J,ek]at u r⊢;obtain⟨x,N⟩: ∃x,(bY F o.t).getD (W.XT t).run.op.toNat ⟨0,0,0⟩=x:=⟨_,rfl⟩
 have R3:okF x:=by
  rw[ae,an J]at N;exact R2.2 x (by rw[<-N];exact bA _)
 rw[N]at u r⊢;have E6: ∀y,y∈O k->∀i,o.at_+2<=i->i<o.at_+2+o.l->y.at_≠i/\y.at_+1≠i:=by
  intro y hy i h1 a;rcases nr VK (fun o ZQ=>(gk.hd o ZQ).1) L hy with rfl|h|h
  ·omega
  ·omega
  ·have:=(gk.hd y hy).1;unfold Zr.ok at this;omega
 have OR: ∀y,y∈eM W.V o.at_ o.l->un y:=by
  intro y hy;unfold eM at hy;obtain⟨i,hi,rfl⟩:=List.mem_map.1 hy;rw[List.mem_range]at hi;refine⟨Classical.byContradiction fun hu=>?_,g.S.inv.jd _⟩;obtain⟨s,P,y,sg,jP⟩:=g.S.inv.qB _ hu;by_cases c:s=k
  ·subst c;exact(E6 y sg _ J J).1 jP
  ·have h1:=g.S.inv.ht P sg;have a:=g.S.inv.BL P g.Ua c h1.1 H.1;have ZV:=g.S.inv.eb P h1.1;omega
 obtain⟨q1,Xt,A,U⟩:=CH R3 OR;obtain⟨Q,aaK⟩: ∃Q,dd x (eM W.V o.at_ o.l)=Q:=⟨_,rfl⟩
 rw[aaK]at u r q1 Xt A U⊢;have ZX:Q.2.1.length=o.l:=by rw[Xt];unfold eM;simp
 have Z2: ∀i,¬(o.at_+2<=i/\i<o.at_+2+o.l)->W'.V i=W.V i:=fun i h=>by rw[u];show fW _ _ _ i=_;unfold fW;rw[ZX,Y h]
 have Xp: ∀i,o.at_+2<=i->i<o.at_+2+o.l->un (W'.V i):=fun i h1 a=>by rw[u];show un (fW _ _ _ i);unfold fW;rw[ZX,Z ⟨h1,a⟩];exact wh A _
 have K:TJ W'.V k=TJ W.V k:=Z2 _ J;obtain⟨d,w⟩: ∃d:Int,(if((bY F o.t).length:Int)<=(W.XT t).run.op+1+Q.1 then(21:Int)else 20)=d:=⟨_,rfl⟩
 have KE:(d=21/\((bY F o.t).length:Int)<=(W.XT t).run.op+1+Q.1)\/(d=20/\(W.XT t).run.op+1+Q.1<(bY F o.t).length):=by
  by_cases c:((bY F o.t).length:Int)<=(W.XT t).run.op+1+Q.1
  ·rw[Z c]at w;exact .inl ⟨w.symm,c⟩
  ·rw[Y c]at w;exact .inr ⟨w.symm,J⟩
 rw[w]at r⊢;refine⟨O,f,g.loc z r ⟨rfl,rfl,rfl,rfl,rfl⟩ rfl rfl rfl rfl ?_ (fun _ _=>rfl) (fun _ _=>rfl) ?_ ?_ ?_ ?_ ?_ ?_ ?_ R.n.1 ?_ ?_ ?_ (ai _) (fun h=>⟨h,fun y hy=>⟨y,hy,rfl,rfl,rfl,rfl⟩⟩)⟩
 ·intro j X;have:o.at_+2<=j/\j<o.at_+2+o.l:=Classical.byContradiction fun c=>X (Z2 j c);exact .inr J
 ·rw[K];exact gk.q7 H.1
 ·intro y hy;have:=E6 y hy;rw[Z2 _ (fun c=>(this _ c.1 c.2).1 rfl),Z2 _ (fun c=>(this _ c.1 c.2).2 rfl)];exact gk.hd y hy
 ·intro _;rw[K];exact VK
 ·intro q VX;rw[b]at VX;cases VX
 ·intro i;by_cases c:o.at_+2<=i/\i<o.at_+2+o.l
  ·exact(Xp i c.1 c.2).2
  ·rw[Z2 i c];exact g.S.inv.jd i
 ·intro i hi;by_cases c:o.at_+2<=i/\i<o.at_+2+o.l
  ·exact absurd (Xp i c.1 c.2).1 hi
  ·rw[Z2 i c]at hi;exact g.S.inv.qB i hi
 ·show((((W.XT t).run.said++Q.2.2.1).length:Nat):Int)<=8*(W.XT t).run.n+(if d=20 then(W.XT t).run.op+1+Q.1 else if d=21 then 8 else 0);rw[ak];rcases KE with⟨h1,a⟩|⟨h1,a⟩
  ·rw[aB,Z h1];omega
  ·rw[Z h1];omega
 ·show d<20->_;omega
 ·show 17<=d/\d<=26;omega
 ·intro G;rcases KE with⟨h1,a⟩|⟨h1,a⟩
  ·exact .mark pr o post h1 b (by rw[G];exact B) (by rw[G,K];exact C) m v M T
  ·exact .fin pr o post h1 b (by rw[G];exact B) (by rw[G,K];exact C) m v M T (by show 0<=(W.XT t).run.op+1+Q.1;omega) a
theorem Iy(It:(W.XT t).run.Xj=21)(v:f k=none)(P:(W.XT t).run.word=bs W.V k)(Q:(W.XT t).run.top=bs W.V k+TJ W.V k)(m:O k=pr++o::post)(N:fX F o=true)(Aq:cO F post= [])
 (YJ:(W.XT t).run.list=cO F (O k)):dm p F n W W' O f t:=by
 have e:=g.one;have A:=g.S.V;have K:=g.S.fr;have B:=g.S.Wa;have R:=g.S.inv.UU t g.S.lt g.S.busy;have dJ:=R.said;rw[aB,Z It]at dJ;have eN:=R.n.1;have gk:=g.S.inv.Zt k g.Ua;have bW:=g.Ua;have VK:=gk.ZI (by have:=g.st;omega) v;have G:o∈O k:=by rw[m];simp
 have ek:=(g.S.inv.ri g.Ua G).2;have fZ:=g.S.inv.ht g.Ua G;have R1:=fZ.2.2.2.2 v;have vC:=g.S.inv.eb g.Ua fZ.1;have ok:=(gk.hd o G).1;have LI:=ok;unfold Zr.ok at LI;have jv:=q8 (F:=F) (pre:=pr) (post:=post) N Aq;rw[<-m,<-YJ]at jv;obtain⟨o',E7⟩: ∃o':Zr,o'= {o with d:=true}:=⟨_,rfl⟩
 have u:o'.at_=o.at_/\o'.z=o.z/\o'.l=o.l/\o'.t=o.t/\o'.d=true:=by rw[E7];exact⟨rfl,rfl,rfl,rfl,rfl⟩
 have KF:o'.ok:=by unfold Zr.ok;rw[u.2.1,u.2.2.1,u.2.2.2.1];exact ok
 have aaV:fX F o'≠true:=by unfold fX;rw[u.2.2.2.2];simp
 unfold dm;rw[e]at A K B⊢;unfold bM at A B⊢;rw[aB,aB,aB,aB,aB,aB,Z It]at A B⊢;simp only[jv.1,jv.2,show((8*(o.at_:Int))/8).toNat=o.at_ from J,ek]at A B⊢;have ow:o'.w=q5 o.z o.l o.t 1:=by unfold Zr.w;rw[u.2.1,u.2.2.1,u.2.2.2.1,u.2.2.2.2];rfl
 rw[<-ow]at A;have H:W'.V o.at_=o'.w:=by rw[A];exact aP _ _ _
 have Z2: ∀i,i≠o.at_->W'.V i=W.V i:=fun i h=>by rw[A];exact aw _ _ h
 have hx:TJ W'.V k=TJ W.V k:=Z2 _ J;rw[m]at VK;have U:=np VK;have R4:ks (bs W.V k/8).toNat (O k) ((bs W.V k+TJ W.V k)/8).toNat:=by rw[m];exact VK
 have T:cO F (pr++o'::post)=cO F pr:=by rw[iQ,jr,Y aaV,Aq];simp
 have afA:(cO F (O k)).length=(cO F pr).length+1:=by rw[m,iQ,jr,Z N,Aq];simp
 have OS:=kC {(W.XT t).run with list:=cO F pr,n:=(W.XT t).run.n+1,op:=0};obtain⟨r',Ar⟩: ∃r',bP {(W.XT t).run with list:=cO F pr,n:=(W.XT t).run.n+1,op:=0}=r':=⟨_,rfl⟩
 have afe:mC (W.XT t).run r'/\r'.next=(W.XT t).run.next/\r'.fin=(W.XT t).run.fin/\r'.bF=(W.XT t).run.bF/\r'.aC=(W.XT t).run.aC/\r'.said=(W.XT t).run.said/\r'.n=(W.XT t).run.n+1/\r'.op=0/\r'.word=(W.XT t).run.word/\r'.top=(W.XT t).run.top/\r'.list=cO F pr/\(r'.Xj=20/\cO F pr≠ []\/(r'.Xj=22\/r'.Xj=23)/\cO F pr= []):=by
  rw[Ar]at OS;rcases OS with⟨c,e⟩|⟨c,e|e⟩
  ·rw[e];exact⟨⟨rfl,rfl,rfl,rfl,rfl⟩,rfl,rfl,rfl,rfl,rfl,rfl,rfl,rfl,rfl,rfl,.inl ⟨rfl,c⟩⟩
  ·rw[e];exact⟨⟨rfl,rfl,rfl,rfl,rfl⟩,rfl,rfl,rfl,rfl,rfl,rfl,rfl,rfl,rfl,rfl,.inr ⟨.inl rfl,c⟩⟩
  ·rw[e];exact⟨⟨rfl,rfl,rfl,rfl,rfl⟩,rfl,rfl,rfl,rfl,rfl,rfl,rfl,rfl,rfl,rfl,.inr ⟨.inr rfl,c⟩⟩
 obtain⟨f1,f2,f3,f4,f5,f6,f7,f8,f9,f10,f11,f12⟩:=afe;rw[Ar]at B⊢;have r:put O k (pr++o'::post) k=pr++o'::post:=aP _ _ _;refine⟨put O k (pr++o'::post),f,g.loc K B f1 f2 f3 f4 f5 ?_ (fun s YF=>aw _ _ YF) (fun _ _=>rfl) ?_ ?_ ?_ ?_ ?_ ?_ ?_ J ?_ J ?_ ?_ ?_⟩
 ·intro j OV;have:j=o.at_:=Classical.byContradiction fun c=>OV (Z2 j c);exact .inr J
 ·rw[hx];exact gk.q7 fZ.1
 ·intro y hy;rw[r]at hy;have C:y=o'\/y∈O k/\y≠o:=by
   rcases List.mem_append.1 hy with h|h
   ·right;refine⟨by rw[m];exact cB _ h,fun c=>?_⟩;subst c;have:=kl U.1 h;omega
   ·rcases List.mem_cons.1 h with h|h
    ·exact .inl h
    ·right;refine⟨by rw[m];simp[h],fun c=>?_⟩;subst c;have:=kl U.2 h;omega
  rcases C with rfl|⟨E8,bo⟩
  ·rw[u.1];exact⟨KF,H,by rw[Z2 _ J];exact(gk.hd o G).2.2⟩
  ·have rm:=nr R4 (fun o ZQ=>(gk.hd o ZQ).1) G E8;have R5:=(gk.hd y E8).1;unfold Zr.ok at R5;have hd:y.at_≠o.at_/\y.at_+1≠o.at_:=by
    rcases rm with h|h|h
    ·exact absurd h.symm bo
    ·omega
    ·omega
   rw[Z2 _ hd.1,Z2 _ hd.2];exact gk.hd y E8
 ·intro _;rw[r,hx];refine tO U.1 ⟨u.1,?_⟩;rw[u.2.1];exact U.2
 ·intro q VX;rw[v]at VX;cases VX
 ·intro i;by_cases c:i=o.at_
  ·subst c;rw[H];have:=Zr.UK KF;omega
  ·rw[Z2 i c];exact g.S.inv.jd i
 ·intro i hi;by_cases c:i=o.at_
  ·exact⟨k,g.Ua,o',by rw[r];simp,by rw[u.1,c]⟩
  ·rw[Z2 i c]at hi;obtain⟨s,YF,y,sg,C⟩:=g.S.inv.qB i hi;by_cases M:s=k
   ·subst M;refine⟨s,YF,y,?_,C⟩;rw[r];rw[m]at sg;rcases List.mem_append.1 sg with h|h
    ·exact cB _ h
    ·rcases List.mem_cons.1 h with h|h
     ·subst h;exact absurd C.symm c
     ·exact List.mem_append_right _ (ao _ h)
   ·exact⟨s,YF,y,by rw[aw _ _ M];exact sg,C⟩
 ·rw[f6,f7,f8];split
  ·omega
  ·split<;>omega
 ·intro h;omega
 ·intro X;rcases f12 with⟨h1,x⟩|⟨h1,x⟩
  ·obtain⟨a,b,c,UZ,ZV,Ya⟩:=tQ (F:=F) (L:=pr++o'::post) (by rw[T];exact x);exact .fin a b c h1 v (by rw[f9,X];exact P) (by rw[f10,X,hx];exact Q) (by rw[r];exact UZ) ZV Ya (by rw[r,T];exact f11) J (by rw[f8];have:=(um ZV).2;omega)
  ·exact .rest h1 v (by rw[f9,X];exact P) (by rw[f10,X,hx];exact Q) (by rw[r,T];exact x) (f11.trans x)
 ·rw[r,T,f7];omega
 ·intro h;refine⟨h,fun y hy=>?_⟩;rw[m]at hy;rw[r];rcases List.mem_append.1 hy with h|h
  ·exact⟨y,cB _ h,rfl,rfl,rfl,rfl⟩
  ·rcases List.mem_cons.1 h with h|h
   ·subst h;exact⟨o',aN,u.1,u.2.1,u.2.2.1,u.2.2.2.1⟩
   ·exact⟨y,List.mem_append_right _ (ao _ h),rfl,rfl,rfl,rfl⟩
end
end
end
section
theorem nM{G:Prop}(h:G:=by
 rw[Ar]at y3;rcases y3 with⟨c,e⟩|⟨c,e⟩
 ·rw[e];exact⟨⟨rfl,rfl,rfl,rfl,rfl⟩,rfl,rfl,rfl,rfl,rfl,rfl,rfl,rfl,.inl ⟨rfl,c⟩⟩
 ·rw[e];exact⟨⟨rfl,rfl,rfl,rfl,rfl⟩,rfl,rfl,rfl,rfl,rfl,rfl,rfl,rfl,.inr ⟨rfl,c⟩⟩):G:=h
theorem rp(r:RJ):(r.at_<r.top/\dT r= {r with Xj:=24})\/(r.top<=r.at_/\dT r= {r with Xj:=25}):=by
 unfold dT;by_cases c:r.at_<r.top
 ·exact .inl ⟨c,Z c⟩
 ·exact .inr ⟨J,Y c⟩
section
variable{p:PO}{F:b1}{n:Nat}{W W':Wd}{O:Nat->List Zr}{m:Nat->Option Nat}{t:Nat}{pre:List bO}{k:Nat}
section
variable(a:jO p F n W W' O m t pre k)
include a
theorem IB(q:(W.XT t).run.Xj=22)(j:m k=none):dm p F n W W' O m t:=by
 have e:=a.one;have c:=a.S.V;have d:=a.S.fr;have b:=a.S.Wa;have R:=a.S.inv.UU t a.S.lt a.S.busy;have gk:=a.S.inv.Zt k a.Ua;have i:=a.S.inv.U2 t a.S.lt;unfold dm;rw[e]at c d b⊢;unfold bM at c b⊢;rw[aB,aB,aB,aB,aB,aB,aB,Z q,a.Ap]at c b⊢;have u:up (W.XT t).run.next=Wi W.V k:=by rw[<-a.w];rfl
 rw[u]at c b⊢;have l:=gk.ft.ok.hold;have o:up (W.V (8*k))=Wi W.V k:=rfl;rw[o]at l;have f:=b.end_ rfl;have g:(W'.XT t).aD=(W.XT t).aD:=by rw[f];exact ad0 (by show(25:Int)≠0;decide)
 have r:=eH (T:=p.t.toNat) (t:=t) (by have:=a.S.lt;omega) b.other k;rw[g]at r;have v:=(a.S.inv.Xf k a.Tv a.Ua).2.1 a.st;refine⟨O,m,uk a.S a.Ua a.Tv (by have:=a.st;omega) l (by show(2:Int)<=2;decide) rfl j c d b.other a.UJ a.da rfl (by rw[g];exact i) (fun s _=>by rw[g]) ⟨fun _=>?_,fun h=>?_⟩ (fun h=>?_) ?_ (.inl a.alone.1) ?_ ?_⟩
 ·show(1:Int)=_;omega
 ·exact absurd (show(2:Int)=3 from h) am
 ·exact absurd (show(2:Int)=3 from h) am
 ·intro _ _ _ hb;rw[f,eA]at hb;cases hb
 ·rw[f];exact fj (a.S.inv.rg t a.S.lt)
 ·rw[f,es];exact a.S.inv.ZS t a.S.lt
theorem IC(M:(W.XT t).run.Xj=23)(C:m k=none)(d:(W.XT t).run.word=bs W.V k)(w:(W.XT t).run.top=bs W.V k+TJ W.V k):dm p F n W W' O m t:=by
 have e:=a.one;have r:=a.S.V;have v:=a.S.fr;have g:=a.S.Wa;have R:=a.S.inv.UU t a.S.lt a.S.busy;have P:=R.said;rw[aB,aB]at P;have gk:=a.S.inv.Zt k a.Ua;have z:=a.Ua;have X:=a.st;have U:=gk.ZI J C;have T:=a.S.inv.eb a.Ua J;have fb:=a.S.inv.pl.s;unfold dm;rw[e]at r v g⊢;unfold bM at r g⊢;rw[aB,aB,aB,aB,aB,aB,aB,aB,Z M,a.Ap]at r g⊢;have u:W'.V (8*k+4)=0:=by rw[r];exact aP _ _ _
 have Z2: ∀i,i≠8*k+4->W'.V i=W.V i:=fun i h=>by rw[r];exact aw _ _ h
 have A:TJ W'.V k=TJ W.V k:=Z2 _ J;obtain⟨r',Ar⟩: ∃r',dT {(W.XT t).run with at_:=(W.XT t).run.word}=r':=⟨_,rfl⟩
 have y3:=rp {(W.XT t).run with at_:=(W.XT t).run.word};have G:mC (W.XT t).run r'/\r'.next=(W.XT t).run.next/\r'.fin=(W.XT t).run.fin/\r'.bF=(W.XT t).run.bF/\r'.aC=(W.XT t).run.aC/\r'.said=(W.XT t).run.said/\r'.n=(W.XT t).run.n/\r'.at_=(W.XT t).run.word/\r'.top=(W.XT t).run.top/\(r'.Xj=24/\(W.XT t).run.word<(W.XT t).run.top\/r'.Xj=25/\(W.XT t).run.top<=(W.XT t).run.word):=by
  exact nM
 obtain⟨f1,f2,f3,f4,f5,f6,f7,f8,f9,f10⟩:=G;rw[Ar]at g⊢;show∃O' Q,sd p F n W W' O O' m Q t r';have b:put m k (some (bs W.V k/8).toNat) k=some (bs W.V k/8).toNat:=aP _ _ _;refine⟨O,put m k (some (bs W.V k/8).toNat),a.loc v g f1 f2 f3 f4 f5 ?_ (fun s K=>rfl) (fun _ K=>aw _ _ K) ?_ ?_ ?_ ?_ ?_ ?_ ?_ (by rw[f7];exact R.n.1) J J ?_ (by rw[f7];omega) ?_⟩
 ·intro j B;have:j=8*k+4:=Classical.byContradiction fun c=>B (Z2 j c);exact .inl (.inr this)
 ·rw[A];exact gk.q7 J
 ·intro y hy;have L:=a.S.inv.ht z hy;rw[Z2 _ J,Z2 _ J];exact gk.hd y hy
 ·intro h;rw[b]at h;cases h
 ·intro q x y hy;rw[b]at x;have L:=a.S.inv.ht z hy;injection x with x
  rw[A];omega
 ·intro i;by_cases c:i=8*k+4
  ·subst c;rw[u];decide
  ·rw[Z2 i c];exact a.S.inv.jd i
 ·intro i hi;by_cases c:i=8*k+4
  ·subst c;rw[u]at hi;exact absurd (c2 am) hi
  ·rw[Z2 i c]at hi;exact a.S.inv.qB i hi
 ·rw[f6,f7];split
  ·omega
  ·split<;>omega
 ·intro H;rw[b];rcases f10 with⟨h1,f⟩|⟨h1,f⟩
  ·exact .zero h1 (by rw[f9,H,A];exact w) (by rw[f8,H,d];omega) (by rw[f8,f9];exact f) (by rw[f8,d];omega) (by rw[f8,d])
  ·refine .last _ (.inl h1) ?_ rfl (fun h=>J);rw[d,w]at f;cases N:O k with
   |nil=>rfl
   |cons y l=>
    have L:=a.S.inv.ht z (o:=y) (by rw[N];simp);omega
 ·intro h;rw[b]at h;cases h
theorem ID(X:(W.XT t).run.Xj=24)(N:(W.XT t).run.top=bs W.V k+TJ W.V k)(LK:bs W.V k<=(W.XT t).run.at_)(aH:(W.XT t).run.at_<(W.XT t).run.top)(afB:(W.XT t).run.at_ %8=0)(C:m k=some ((W.XT t).run.at_/8).toNat):dm p F n W W' O m t:=by
 have e:=a.one;have v:=a.S.V;have z:=a.S.fr;have r:=a.S.Wa;have R:=a.S.inv.UU t a.S.lt a.S.busy;have dJ:=R.said;rw[aB,aB]at dJ;have gk:=a.S.inv.Zt k a.Ua;have bW:=a.Ua;have cx:=a.st;have f:=gk.vw _ C;have vC:=a.S.inv.eb a.Ua J;have fb:=a.S.inv.pl.s;unfold dm;rw[e]at v z r⊢;unfold bM at v r⊢;rw[aB,aB,aB,aB,aB,aB,aB,aB,aB,Z X]at v r⊢;obtain⟨j,OV⟩: ∃j:Nat,(W.XT t).run.at_=8*j:=⟨((W.XT t).run.at_/8).toNat,J⟩
 have U:((W.XT t).run.at_/8).toNat=j:=J;rw[U]at v r C f⊢;have x:W'.V j=0:=by rw[v];exact aP _ _ _
 have Z2: ∀i,i≠j->W'.V i=W.V i:=fun i h=>by rw[v];exact aw _ _ h
 have K:TJ W'.V k=TJ W.V k:=Z2 _ J;obtain⟨r',Ar⟩: ∃r',dT {(W.XT t).run with at_:=(W.XT t).run.at_+8}=r':=⟨_,rfl⟩
 have y3:=rp {(W.XT t).run with at_:=(W.XT t).run.at_+8};have M:mC (W.XT t).run r'/\r'.next=(W.XT t).run.next/\r'.fin=(W.XT t).run.fin/\r'.bF=(W.XT t).run.bF/\r'.aC=(W.XT t).run.aC/\r'.said=(W.XT t).run.said/\r'.n=(W.XT t).run.n/\r'.at_=(W.XT t).run.at_+8/\r'.top=(W.XT t).run.top/\(r'.Xj=24/\(W.XT t).run.at_+8<(W.XT t).run.top\/r'.Xj=25/\(W.XT t).run.top<=(W.XT t).run.at_+8):=by
  exact nM
 obtain⟨f1,f2,f3,f4,f5,f6,f7,f8,f9,f10⟩:=M;rw[Ar]at r⊢;show∃O' dk,sd p F n W W' O O' m dk t r';obtain⟨L,A⟩: ∃L,(O k).filter (fun o=>o.at_ !=j)=L:=⟨_,rfl⟩
 have G: ∀y,y∈L↔y∈O k/\y.at_≠j:=by intro y;rw[<-A,List.mem_filter];simp
 have g:put m k (some (j+1)) k=some (j+1):=aP _ _ _;have d:put O k L k=L:=aP _ _ _;refine⟨put O k L,put m k (some (j+1)),a.loc z r f1 f2 f3 f4 f5 ?_ (fun s u=>aw _ _ u) (fun _ u=>aw _ _ u) ?_ ?_ ?_ ?_ ?_ ?_ ?_ (by rw[f7];exact R.n.1) J J ?_ ?_ ?_⟩
 ·intro i hi;have:i=j:=Classical.byContradiction fun c=>hi (Z2 i c);exact .inr J
 ·rw[K];exact gk.q7 J
 ·intro y hy;rw[d]at hy;have b:=(G y).1 hy;have Q:=f.2.2 y b.1;rw[Z2 _ b.2,Z2 _ J];exact gk.hd y b.1
 ·intro h;rw[g]at h;cases h
 ·intro q H y hy;rw[g]at H;rw[d]at hy;have b:=(G y).1 hy;have Q:=f.2.2 y b.1;injection H with H
  rw[K];omega
 ·intro i;by_cases c:i=j
  ·subst c;rw[x];decide
  ·rw[Z2 i c];exact a.S.inv.jd i
 ·intro i hi;by_cases c:i=j
  ·subst c;rw[x]at hi;exact absurd (c2 am) hi
  ·rw[Z2 i c]at hi;obtain⟨s,u,y,T,b⟩:=a.S.inv.qB i hi;by_cases B:s=k
   ·subst B;exact⟨s,u,y,by rw[d];exact(G y).2 ⟨T,by rw[b];exact c⟩,b⟩
   ·exact⟨s,u,y,by rw[aw _ _ B];exact T,b⟩
 ·rw[f6,f7];split
  ·omega
  ·split<;>omega
 ·intro P;rw[g,d];rcases f10 with⟨h1,w⟩|⟨h1,w⟩
  ·exact .zero h1 (by rw[f9,P,K];exact N) (by rw[f8,P];omega) (by rw[f8,f9];exact w) (by rw[f8];omega) (by rw[f8];congr 1;omega)
  ·refine .last _ (.inl h1) ?_ rfl (fun h=>J);cases ZQ:L with
   |nil=>rfl
   |cons y l=>
    have b:=(G y).1 (by rw[ZQ];simp);have Q:=f.2.2 y b.1;omega
 ·rw[d,f7];have:=abD F (O k) (fun o=>o.at_ !=j);rw[A]at this;omega
 ·intro h;rw[g]at h;cases h
theorem IE(w:(W.XT t).run.Xj=25)(o:O k= []){q:Nat}(d:m k=some q):dm p F n W W' O m t:=by
 have e:=a.one;have f:=a.S.V;have g:=a.S.fr;have l:=a.S.Wa;have R:=a.S.inv.UU t a.S.lt a.S.busy;have u:=R.said;rw[aB,aB]at u;have gk:=a.S.inv.Zt k a.Ua;have C:=a.Ua;have G:=a.st;have z:=a.S.inv.eb a.Ua J;unfold dm;rw[e]at f g l⊢;unfold bM at f l⊢;rw[aB,aB,aB,aB,aB,aB,aB,aB,aB,aB,Z w,a.Ap]at f l⊢;have b:W'.V (8*k+3)=0:=by rw[f];exact aP _ _ _
 have Z2: ∀i,i≠8*k+3->W'.V i=W.V i:=fun i h=>by rw[f];exact aw _ _ h
 have v:TJ W'.V k=0:=b;refine⟨O,m,a.loc g l ⟨rfl,rfl,rfl,rfl,rfl⟩ rfl rfl rfl rfl ?_ (fun s x=>rfl) (fun _ x=>rfl) ?_ ?_ ?_ ?_ ?_ ?_ ?_ R.n.1 ?_ ?_ ?_ (ai _) ?_⟩
 ·intro j r;have:j=8*k+3:=Classical.byContradiction fun c=>r (Z2 j c);exact .inl (.inl this)
 ·rw[v];omega
 ·intro y hy;rw[o]at hy;cases hy
 ·intro h;rw[d]at h;cases h
 ·intro q A y hy;rw[o]at hy;cases hy
 ·intro i;by_cases c:i=8*k+3
  ·subst c;rw[b];decide
  ·rw[Z2 i c];exact a.S.inv.jd i
 ·intro i hi;by_cases c:i=8*k+3
  ·subst c;rw[b]at hi;exact absurd (c2 am) hi
  ·rw[Z2 i c]at hi;exact a.S.inv.qB i hi
 ·show(((W.XT t).run.said.length:Nat):Int)<=8*(W.XT t).run.n+(if(26:Int)=20 then(W.XT t).run.op else if(26:Int)=21 then 8 else 0);simpa using u
 ·intro h;exact absurd (show(26:Int)<20 from h) am
 ·exact⟨(show(17:Int)<=26 by decide),(show(26:Int)<=26 by decide)⟩
 ·intro B;exact .last q (.inr rfl) o d (fun _=>v)
 ·intro h;rw[d]at h;cases h
theorem IF(afC:(W.XT t).run.Xj=26)(x:O k= [])(h7:TJ W.V k=0){q:Nat}(Ub:m k=some q):dm p F n W W' O m t:=by
 have e:=a.one;have g:=a.S.V;have v:=a.S.fr;have f:=a.S.Wa;have S:=a.S;have R:=S.inv.UU t S.lt S.busy;have gk:=S.inv.Zt k a.Ua;have A:=a.Ua;have U:=a.Tv;have cx:=a.st;have u:=S.inv.U2 t S.lt;have vC:=S.inv.eb A J;have fb:=S.inv.pl.s;unfold dm;rw[e]at g v f⊢;unfold bM at g f⊢;rw[aB,aB,aB,aB,aB,aB,aB,aB,aB,aB,aB,a.Ap]at g f⊢;have nJ:up (W.XT t).run.next=Wi W.V k:=by rw[<-a.w];rfl
 rw[nJ]at g f⊢;have l:=gk.ft.ok.open_;have L:up (W.V (8*k))=Wi W.V k:=rfl;rw[L]at l;have C:(jX (Wi W.V k)).T5=((Wi W.V k).T5+1)%16777216:=rfl;have N:(jX (Wi W.V k)).st=1:=rfl;obtain⟨C',P⟩: ∃C',jX (Wi W.V k)=C':=⟨_,rfl⟩
 rw[P]at g f l C N⊢;have w':W'.V (8*k)=TK C':=by rw[g];exact aP _ _ _
 have d: ∀j,j≠8*k->W'.V j=W.V j:=fun j b=>by rw[g];exact aw _ _ b
 have i:Wi W'.V k=C':=by unfold Wi;rw[w',ni l]
 have K:TJ W'.V k=TJ W.V k:=d _ J;have z:=f.end_ rfl;have B:(W'.XT t).aD=pre:=by rw[z];exact sQ rfl a.UJ a.aD
 have ky:=eH (T:=p.t.toNat) (t:=t) (by have:=S.lt;omega) f.other k;rw[B,a.aD,hw,Z rfl]at ky;have pV:=(S.inv.Xf k U A).2.1 cx;refine⟨O,put m k none,?_,?_,?_,?_⟩
 ·refine S.inv.loc S.lt A J ?_ v f.other (fun _ _=>rfl) (fun _ r=>aw _ _ r) ?_ ?_ (fun h=>J) ?_ ?_ ?_ ?_ ?_ ?_ ?_ ?_ ?_ ?_ ?_ ?_ ?_ ?_ (.inl a.alone.1) ?_ ?_
  ·intro j b;by_cases c:j=8*k
   ·exact .inl (.inl c)
   ·exact absurd (d j c) b
  ·rw[w'];exact l.w
  ·rw[i];omega
  ·rw[K];exact gk.q7 J
  ·intro y hy;rw[x]at hy;cases hy
  ·intro h;rw[i]at h;omega
  ·intro q H;rw[aP]at H;cases H
  ·rw[i,aP];exact⟨fun _=>⟨x,rfl⟩,fun _=>rfl⟩
  ·intro _;rw[K];exact h7
  ·intro j;by_cases c:j=8*k
   ·subst c;rw[w'];have:=l.UK;omega
   ·rw[d j c];exact S.inv.jd j
  ·intro j b;by_cases c:j=8*k
   ·subst c;rw[w']at b;exact absurd (c2 (by have:=l.UK;omega)) b
   ·rw[d j c]at b;exact S.inv.qB j b
  ·rw[B];have:=a.aD;rw[this]at u;exact u.pop
  ·intro s r;rw[B,a.aD,hw,Y (fun e=>by injection e with UR;omega)];rfl
  ·intro _;rw[i];exact⟨fun h=>J,fun h=>J,fun _=>J⟩
  ·intro s r hd;exact absurd (hd.2.2.2.symm.trans a.da) J
  ·intro _ Q;rw[i]at Q;omega
  ·intro _ _ hb;rw[z,eA]at hb;cases hb
  ·rw[z];exact fj (S.inv.rg t S.lt)
  ·rw[z,es];exact S.inv.ZS t S.lt
 ·refine⟨fun s r=>?_,fun s r M G=>?_⟩
  ·by_cases c:s=k
   ·subst c;rw[i];exact .inr ⟨C,J⟩
   ·left;unfold Wi;rw[d _ J]
  ·by_cases c:s=k
   ·subst c;have hb:=gk.ft.ok.T5;have kr:0<=(Wi W.V s).T5/\(Wi W.V s).T5<=16777215:=hb;rw[i,C]at M;omega
   ·have:Wi W'.V s=Wi W.V s:=by unfold Wi;rw[d _ J]
    rw[this,aw _ _ c];exact⟨G,fun X=>⟨X,fun o x=>⟨o,x,rfl,rfl,rfl,rfl,fun _=>rfl⟩⟩⟩
 ·show _+(W.XT t).run.n.toNat<=_;omega
 ·intro j b;have E2:j=8*k:=Classical.byContradiction fun c=>b (d j c);refine⟨k,?_,A,.inl ⟨J,?_⟩⟩
  ·show about (tell (W.XT t).run 0 (W.XT t).run.n) _=_;unfold about;simp[tell,a.UJ,a.da]
  ·show(W.XT t).run.call.op≠9;rw[a.UJ];decide
end
theorem As(S:mD p F n W W' O m t)(w:(W.XT t).run.call.op=5)(z: ∃pre,(W.XT t).aD=pre++ [⟨(W.XT t).run.af,true⟩])(A:17<=(W.XT t).run.Xj/\(W.XT t).run.Xj<=26)
 (r:W.V (8*(W.XT t).run.af.toNat)=(W.XT t).run.next)(y:(Wi W.V (W.XT t).run.af.toNat).st=3)
 (l:WF F W.V (O (W.XT t).run.af.toNat) (m (W.XT t).run.af.toNat) (W.XT t).run.af.toNat (W.XT t).run):dm p F n W W' O m t:=by
 obtain⟨pre,u⟩:=z;have v:=S.inv.U2 t S.lt;have s:=v.each pre _ [] u;obtain⟨k,x⟩: ∃k:Nat,(W.XT t).run.af=k:=⟨(W.XT t).run.af.toNat,by have:=s.1;simp at this;omega⟩
 have B:(W.XT t).run.af.toNat=k:=J;rw[x]at u s;rw[B]at r y l;have h:jO p F n W W' O m t pre k:=⟨S,w,u,x,A,r,y,s.2.1,by have:=s.2.2.1 rfl;simp at this;omega⟩
 cases l with
 |first a b c=>exact Iu h a b c
 |top a b c d e=>exact Iv h a b c d e
 |walk pr o post a b c d e f g=>exact Iw h a b c d e f g
 |fin pr o post a b c d e f g i j k=>exact Ix h a b c d e f g i j k
 |mark pr o post a b c d e f g i=>exact Iy h a b c d e f g i
 |rest a b c d e f=>
  rcases a with a|a
  ·exact IB h a b
  ·exact IC h a b c d
 |zero a b c d e f=>exact ID h a b c d e f
 |last q a b c d=>
  rcases a with a|a
  ·exact IE h a b c
  ·exact IF h a b (d a) c
end
end
end Go.Proofs.YtcimojgkeoecfaaGreat
