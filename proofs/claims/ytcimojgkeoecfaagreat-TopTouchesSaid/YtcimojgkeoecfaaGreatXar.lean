import Derived.Test.YtcimojgkeoecfaaGreatXaa
set_option linter.all false
set_option maxHeartbeats 16000000
set_option maxRecDepth 100000
namespace Go.Proofs.YtcimojgkeoecfaaGreat
section
section
variable{p:afy}{F:b1}{n:Nat}{W W':Wd}{O:Nat->List Zr}{VM:Nat->Option Nat}{t:Nat}
theorem nK{G:Prop}(h:G:=by
 rw[Y c]at Yg Wy⊢;exact⟨O,VM,gu S.inv S.lt S.busy Wy Yg acA rfl rfl pW (fun _=>bo)⟩):G:=h
theorem Inv.E4(h:Inv p F n W O VM){k:Nat}{s e:Int}(acu:he n W.V k s e): ∃S:Nat,s=S/\S<p.s/\∃o,o∈O S/\o.at_=k/\fl W.V k=o/\e=(Wi W.V S).afB:=by
 obtain⟨h1,aaV,ZV,Ya⟩:=acu;have hu: ¬ku (W.V k):=by unfold ku;intro abi;exact abi aaV.2.2.2.2.2.1
 obtain⟨S,hS,o,ZQ,ae3⟩:=h.qB k hu;have g:=(h.Zt S hS).hd o ZQ;have fb:=h.pl.s;have il:=(h.Zt S hS).ft.ok.afB;have ys:0<=(Wi W.V S).afB/\(Wi W.V S).afB<=16777215:=il;rw[ae3]at g;rw[g.2.2]at ZV Ya;refine⟨S,J,hS,o,ZQ,ae3,?_,J⟩;rw[<-ae3];exact Zr.EJ g.1 (by rw[ae3];exact g.2.1)
def KD(j:Nat)(y:Zr):Prop:=y.at_≠j/\y.at_+1≠j
theorem Inv.ri(h:Inv p F n W O VM){S:Nat}(hS:S<p.s){o:Zr}(ZQ:o∈O S):he n W.V o.at_ S (Wi W.V S).afB/\fl W.V o.at_=o:=by
 have g:=(h.Zt S hS).hd o ZQ;have fb:=h.pl.s;have il:=(h.Zt S hS).ft.ok.afB;have ys:0<=(Wi W.V S).afB/\(Wi W.V S).afB<=16777215:=il;have fZ:=h.ht hS ZQ;have Wy:=h.eb hS fZ.1;exact⟨Zr.EK g.1 g.2.1 g.2.2 J ys J,Zr.EJ g.1 g.2.1⟩
section
variable(S:mD p F n W W' O VM t)
include S
theorem wb{k j:Nat}{x:Int}(bW:k<p.s)(live:(Wi W.V k).st=2)(hj:0<=x/\x<18446744073709551616)(hu:ku x)
 (aeD:j=8*k+4\/∃o,o∈O k/\o.at_+2<=j/\j<o.at_+2+o.l){r':aax}(Yg:W'.V=put W.V j x)(acA:W'.fr=W.fr)(Wy:acx W W' t r')
 (aal:r'.fin=true)(VF:r'.n=(W.XT t).run.n)(ac1:(W.XT t).run.call.op≠5)(adg:r'.call=(W.XT t).run.call)(V1:r'.call.op≠4/\r'.call.op≠5/\r'.call.op≠6)
 (xi:about r' (W.XT t).aD=k)(hop:if j=8*k+4 then r'.call.op≠9 else r'.call.op=9):sd p F n W W' O O VM VM t r':=by
 have R:=S.inv.acg t S.lt S.busy;have aeJ:=S.inv.pl;have fb:=aeJ.s;have gk:=S.inv.Zt k bW;have aeN:=gk.no.2 live;have afp:=S.inv.eb bW J;have VK:=gk.abU J aeN;have iR:eY (W.XT t) r'=bH {W.XT t with run:=r'}:=by unfold eY;rw[aal];rfl
 have b7:=Wy.same;rw[iR]at b7;have eO:(W'.XT t).aD=(W.XT t).aD:=by rw[b7,iV _ (fun _=>V1)]
 have abm:W'.V j=x:=by rw[Yg,aP]
 have Z2: ∀i,i≠j->W'.V i=W.V i:=fun i h1=>by rw[Yg,aw _ _ h1]
 have adY:j=8*k+4\/(bs W.V k<=8*j/\8*(j:Int)<bs W.V k+adh W.V k/\∀o,o∈O k->o.at_≠j/\o.at_+1≠j):=by
  rcases aeD with h|⟨o,ZQ,h1,aaV⟩
  ·exact .inl h
  ·right;have fZ:=S.inv.ht bW ZQ;have lh:=(gk.hd o ZQ).1;unfold Zr.ok at lh;have:=fZ.2.2.2.2 aeN;refine⟨J,J,fun y hy=>?_⟩;rcases nr VK (fun o ZQ=>(gk.hd o ZQ).1) ZQ hy with rfl|h|h
   ·omega
   ·omega
   ·have:=(gk.hd y hy).1;unfold Zr.ok at this;omega
 have aaW: ∀s:Nat,s<p.s->j≠8*s/\j≠8*s+1/\j≠8*s+2/\j≠8*s+3:=by
  intro s YF;rcases adY with h|h<;>omega
 have iW: ∀s:Nat,s<p.s->Wi W'.V s=Wi W.V s:=fun s YF=>by unfold Wi;rw[Z2 _ (by have:=aaW s YF;omega)]
 have hx:adh W'.V k=adh W.V k:=Z2 _ (by have:=aaW k bW;omega);have ky:=eH (T:=p.t.toNat) (t:=t) (by have:=S.lt;omega) Wy.other k;rw[eO]at ky;refine⟨?_,?_,?_,?_⟩
 ·refine S.inv.loc S.lt bW J ?_ (by rw[acA]) Wy.other (fun s YF=>rfl) (fun _ _=>rfl) ?_ ?_ ?_ ?_ ?_ ?_ ?_ ?_ ?_ ?_ ?_ ?_ ?_ ?_ ?_ ?_ ?_ ?_ ?_ ?_
  ·intro i hi;have:i=j:=Classical.byContradiction fun c=>hi (Z2 i c);subst this;rcases adY with h|h
   ·exact .inl (.inr (.inr h))
   ·exact .inr J
  ·rw[Z2 _ (by have:=aaW k bW;omega)];exact gk.ft
  ·rw[iW k bW];omega
  ·intro YM;subst YM;rw[iW 0 bW];exact(gk.zero rfl).1
  ·rw[hx];exact gk.q7 J
  ·intro y hy;have fZ:=S.inv.ht bW hy;have bo:KD j y:=by
    rcases adY with h|h
    ·unfold KD;omega
    ·exact h.2.2 y hy
   rw[iW k bW,Z2 _ bo.1,Z2 _ bo.2];exact gk.hd y hy
  ·intro _ _;rw[hx];exact VK
  ·intro q VX;rw[aeN]at VX;cases VX
  ·rw[iW k bW];exact gk.no
  ·intro h;rw[iW k bW]at h;omega
  ·intro i;by_cases c:i=j
   ·subst c;rw[abm];exact hj
   ·rw[Z2 i c];exact S.inv.jd i
  ·intro i hi;by_cases c:i=j
   ·subst c;rw[abm]at hi;exact absurd hu hi
   ·rw[Z2 i c]at hi;exact S.inv.qB i hi
  ·rw[eO];exact S.inv.aaY t S.lt
  ·intro s _;rw[eO]
  ·intro h1;exact lI
  ·intro s _ hd;exact absurd hd (S.fU (.inr ac1) s)
  ·intro _ ZV;rw[iW k bW]at ZV;omega
  ·intro _ _ h6;rw[b7,eA]at h6;cases h6
  ·exact .inr ⟨live,by rw[iW k bW],fun y hy=>⟨y,hy,rfl,rfl⟩⟩
  ·rw[b7];exact fj (S.inv.rg t S.lt)
  ·rw[b7,es];exact S.inv.ZS t S.lt
 ·exact⟨fun s YF=>.inl (by rw[iW s YF]),fun s YF _ aaV=>⟨by rw[iW s YF];exact aaV,fun c5=>⟨c5,fun y hy=>⟨y,hy,rfl,rfl,rfl,rfl,fun _=>rfl⟩⟩⟩⟩
 ·rw[VF];omega
 ·intro i hi;have:i=j:=Classical.byContradiction fun c=>hi (Z2 i c);subst this;refine⟨k,xi,bW,?_⟩;by_cases c:i=8*k+4
  ·rw[Z c]at hop;exact .inl ⟨J,hop⟩
  ·rw[Y c]at hop;rcases adY with h|h
   ·exact absurd h c
   ·exact .inr ⟨J,.inr (.inr hop),J,J⟩
theorem qK(Vy:(W.XT t).run.call.op=8\/(W.XT t).run.call.op=9\/(W.XT t).run.call.op=10\/(W.XT t).run.call.op=11)(a5:5<=(W.XT t).run.Xj/\(W.XT t).run.Xj<=12):
 one p F n W.V W.fr (W.XT t).run=((cK p n W.V (W.XT t).run).1,W.fr,(cK p n W.V (W.XT t).run).2):=by
 unfold one;rw[aB,aB,aB,aB,aB]
theorem CE(Vy:(W.XT t).run.call.op=8\/(W.XT t).run.call.op=9)(nL:dr (W.XT t).run.hand)(hS:VA (W.XT t).run.hand<p.s)(abk:reach (W.XT t).aD (VA (W.XT t).run.hand))
 (ae3:(W.XT t).run.Xj=5\/(Wi W.V (VA (W.XT t).run.hand).toNat).afB=afT (W.XT t).run.hand/\((W.XT t).run.Xj=6\/
   ∃o,o∈O (VA (W.XT t).run.hand).toNat/\8*(o.at_:Int)=WR (W.XT t).run.hand/\0<=(W.XT t).run.call.b/\(W.XT t).run.call.b<o.l/\(W.XT t).run.at_=WR (W.XT t).run.hand+16+8*(W.XT t).run.call.b/\
    ((W.XT t).run.call.op=8/\(W.XT t).run.Xj=9\/(W.XT t).run.call.op=9/\(W.XT t).run.Xj=10/\ku (W.XT t).run.val\/
     (W.XT t).run.call.op=9/\((W.XT t).run.Xj=7\/(W.XT t).run.Xj=8)/\dr (W.XT t).run.val/\VA (W.XT t).run.val<p.s/\reach (W.XT t).aD (VA (W.XT t).run.val)/\((W.XT t).run.Xj=8->(Wi W.V (VA (W.XT t).run.val).toNat).afB=afT (W.XT t).run.val)))):dm p F n W W' O VM t:=by
 have R:=S.inv.acg t S.lt S.busy;have a5:5<=(W.XT t).run.Xj/\(W.XT t).run.Xj<=12:=by
  rcases ae3 with h|⟨_,h|⟨o,_,_,_,_,_,h|h|h⟩⟩<;>omega
 have e:=qK S (by clear ae3;omega) a5;have Yg:=S.V;have acA:=S.fr;have Wy:=S.acD;have eN:=R.n.2 (by clear ae3;omega);have dJ:=R.said;rw[Y (by clear ae3;omega),Y (by clear ae3;omega)]at dJ;unfold dm;rw[e]at Yg acA Wy⊢;have pW: ¬((W.XT t).run.call.op=5/\17<=(W.XT t).run.Xj):=by clear ae3;omega
 have bo:(W.XT t).run.call.op≠4/\(W.XT t).run.call.op≠5/\(W.XT t).run.call.op≠6:=by clear ae3;omega
 have ON:=nL;unfold dr at ON;unfold cK at Yg Wy⊢;rcases ae3 with afY|⟨il,XX|⟨o,ZQ,h1,aaV,ZV,Ya,XP⟩⟩
 ·rw[Z afY]at Yg Wy⊢;unfold ie at Yg Wy⊢;by_cases c:(Wi W.V (VA (W.XT t).run.hand).toNat).afB=afT (W.XT t).run.hand
  ·rw[Z c]at Yg Wy⊢;exact⟨O,VM,quiet S.inv S.lt S.busy Wy Yg acA ⟨rfl,rfl,rfl,rfl,rfl⟩ R.fin R.bF rfl (by simpa using dJ) rfl (fun _=>eN) (fun h=>J) (.slot Vy nL hS abk (.inr ⟨c,.inl rfl⟩))⟩
  ·rw[Y c]at Yg Wy⊢;exact⟨O,VM,gu S.inv S.lt S.busy Wy Yg acA rfl rfl pW (fun _=>bo)⟩
 ·rw[aB,Z XX]at Yg Wy⊢;unfold qz at Yg Wy⊢;by_cases WJ:he n W.V (WR (W.XT t).run.hand/8).toNat (VA (W.XT t).run.hand) (afT (W.XT t).run.hand)
  case neg=>
   rw[Y WJ]at Yg Wy⊢;exact⟨O,VM,gu S.inv S.lt S.busy Wy Yg acA rfl rfl pW (fun _=>bo)⟩
  rw[Z WJ]at Yg Wy⊢;obtain⟨k,aX,jN,o,ZQ,fG,ek,_⟩:=S.inv.E4 WJ;rw[ek]at Yg Wy⊢;by_cases adr:0<=(W.XT t).run.call.b/\(W.XT t).run.call.b<o.l
  case neg=>
   rw[Y adr]at Yg Wy⊢;exact⟨O,VM,gu S.inv S.lt S.busy Wy Yg acA rfl rfl pW (fun _=>bo)⟩
  rw[Z adr]at Yg Wy⊢;have ip:(VA (W.XT t).run.hand).toNat=k:=J;have LC:8*(o.at_:Int)=WR (W.XT t).run.hand:=by unfold WR at*;omega
  have LD:o∈O (VA (W.XT t).run.hand).toNat:=by rw[ip];exact ZQ
  by_cases XO:(W.XT t).run.call.op=8
  ·rw[Z XO]at Yg Wy⊢;exact⟨O,VM,quiet S.inv S.lt S.busy Wy Yg acA ⟨rfl,rfl,rfl,rfl,rfl⟩ R.fin R.bF rfl (by simpa using dJ) rfl (fun _=>eN) (fun h=>J) (.slot Vy nL hS abk (.inr ⟨il,.inr ⟨o,LD,LC,adr.1,adr.2,rfl,.inl ⟨XO,rfl⟩⟩⟩))⟩
  rw[Y XO]at Yg Wy⊢;have ab4:(W.XT t).run.call.op=9:=J;by_cases afw:(W.XT t).run.val=0
  ·rw[Z afw]at Yg Wy⊢;exact⟨O,VM,quiet S.inv S.lt S.busy Wy Yg acA ⟨rfl,rfl,rfl,rfl,rfl⟩ R.fin R.bF rfl (by simpa using dJ) rfl (fun _=>eN) (fun h=>J) (.slot Vy nL hS abk (.inr ⟨il,.inr ⟨o,LD,LC,adr.1,adr.2,rfl,.inr (.inl ⟨ab4,rfl,by show ku (W.XT t).run.val;rw[afw];exact c2 am⟩)⟩⟩))⟩
  rw[Y afw]at Yg Wy⊢;by_cases VU:check p (W.XT t).run.chain (W.XT t).run.val=0
  ·rw[Z VU]at Yg Wy⊢;have XP:=pP VU;rw[R.chain]at XP;exact⟨O,VM,quiet S.inv S.lt S.busy Wy Yg acA ⟨rfl,rfl,rfl,rfl,rfl⟩ R.fin R.bF rfl (by simpa using dJ) rfl (fun _=>eN) (fun h=>J) (.slot Vy nL hS abk (.inr ⟨il,.inr ⟨o,LD,LC,adr.1,adr.2,rfl,.inr (.inr ⟨ab4,.inl rfl,XP.1,XP.2.1,XP.2.2,fun h=>absurd (show(7:Int)=8 from h) am⟩)⟩⟩))⟩
  ·rw[Y VU]at Yg Wy⊢;exact⟨O,VM,gu S.inv S.lt S.busy Wy Yg acA rfl rfl pW (fun _=>bo)⟩
 ·have cT:=S.inv.rg t S.lt (W.XT t).run.call.v.toNat;rw[<-R.val]at cT;obtain⟨k,XD⟩: ∃k:Nat,VA (W.XT t).run.hand=k:=⟨(VA (W.XT t).run.hand).toNat,J⟩
  have jf:(VA (W.XT t).run.hand).toNat=k:=J;rw[jf]at ZQ il;rcases XP with⟨adH,adp⟩|⟨adH,m4,LG⟩|⟨adH,uj,Zv,WP,Yv,X4⟩
  ·rw[aB,aB,aB,aB,Z adp]at Yg Wy⊢;exact⟨O,VM,gu S.inv S.lt S.busy Wy Yg acA rfl rfl pW (fun _=>bo)⟩
  ·rw[aB,aB,aB,aB,aB,Z m4]at Yg Wy⊢;have aeD:((W.XT t).run.at_/8).toNat=o.at_+2+(W.XT t).run.call.b.toNat:=J;rw[aeD]at Yg Wy⊢;have fZ:=S.inv.ht (s:=k) J ZQ;have Is:=S.inv.eb (s:=k) J fZ.1;refine⟨O,VM,wb S (k:=k) J (S.inv.live S.lt J (by rw[<-XD];exact abk) (S.fU (.inr J) k)) cT LG (.inr ⟨o,ZQ,Nat.le_add_right _ _,J⟩) Yg acA Wy rfl rfl J rfl bo ?_ ?_⟩
   ·show about (tell (W.XT t).run 0 0) _=_;unfold about;simp[tell,adH,XD]
   ·rw[aB];exact adH
  ·have RT:=Zv;unfold dr at RT;rcases uj with uj|uj
   ·rw[aB,aB,Z uj]at Yg Wy⊢;unfold ie at Yg Wy⊢;by_cases c:(Wi W.V (VA (W.XT t).run.val).toNat).afB=afT (W.XT t).run.val
    ·rw[Z c]at Yg Wy⊢;exact⟨O,VM,quiet S.inv S.lt S.busy Wy Yg acA ⟨rfl,rfl,rfl,rfl,rfl⟩ R.fin R.bF rfl (by simpa using dJ) rfl (fun _=>eN) (fun h=>J) (.slot Vy nL hS abk (.inr ⟨by show(Wi W.V (VA (W.XT t).run.hand).toNat).afB=_;rw[jf];exact il,.inr ⟨o,by show o∈O (VA (W.XT t).run.hand).toNat;rw[jf];exact ZQ,h1,aaV,ZV,Ya,.inr (.inr ⟨adH,.inr rfl,Zv,WP,Yv,fun _=>c⟩)⟩⟩))⟩
    ·rw[Y c]at Yg Wy⊢;exact⟨O,VM,gu S.inv S.lt S.busy Wy Yg acA rfl rfl pW (fun _=>bo)⟩
   ·rw[aB,aB,aB,Z uj]at Yg Wy⊢;unfold lr at Yg Wy⊢;by_cases c:he n W.V (WR (W.XT t).run.val/8).toNat (VA (W.XT t).run.val) (afT (W.XT t).run.val)
    case neg=>
     exact nK
    rw[Z c,Z adH,Z adH]at Yg Wy⊢;by_cases adr:kt (W.XT t).run.chain (VA (W.XT t).run.val) (VA (W.XT t).run.hand)=true
    ·rw[Z adr]at Yg Wy⊢;exact⟨O,VM,quiet S.inv S.lt S.busy Wy Yg acA ⟨rfl,rfl,rfl,rfl,rfl⟩ R.fin R.bF rfl (by simpa using dJ) rfl (fun _=>eN) (fun h=>J) (.slot Vy nL hS abk (.inr ⟨by show(Wi W.V (VA (W.XT t).run.hand).toNat).afB=_;rw[jf];exact il,.inr ⟨o,by show o∈O (VA (W.XT t).run.hand).toNat;rw[jf];exact ZQ,h1,aaV,ZV,Ya,.inr (.inl ⟨adH,rfl,c2 (Zv.aas cT.1)⟩)⟩⟩))⟩
    ·rw[Y adr]at Yg Wy⊢;exact⟨O,VM,gu S.inv S.lt S.busy Wy Yg acA rfl rfl pW (fun _=>bo)⟩
theorem yt(m4:(W.XT t).run.call.op=10)(a5:(W.XT t).run.Xj=11):dm p F n W W' O VM t:=by
 have e:=qK S J J;have Yg:=S.V;have acA:=S.fr;have Wy:=S.acD;unfold dm;rw[e]at Yg acA Wy⊢;unfold cK at Yg Wy⊢;rw[aB,aB,aB,aB,aB,aB,Z a5]at Yg Wy⊢;exact⟨O,VM,gu S.inv S.lt S.busy Wy Yg acA rfl rfl J (fun _=>by show(W.XT t).run.call.op≠4/\(W.XT t).run.call.op≠5/\(W.XT t).run.call.op≠6;omega)⟩
theorem CF(sb:(W.XT t).run.call.op=11)(Xg:1<=(W.XT t).run.call.a/\(W.XT t).run.call.a<p.s)(abk:reach (W.XT t).aD (W.XT t).run.call.a)
 (ae3:(W.XT t).run.Xj=12/\ku (W.XT t).run.val\/((W.XT t).run.Xj=7\/(W.XT t).run.Xj=8)/\dr (W.XT t).run.val/\VA (W.XT t).run.val<p.s/\reach (W.XT t).aD (VA (W.XT t).run.val)/\((W.XT t).run.Xj=8->(Wi W.V (VA (W.XT t).run.val).toNat).afB=afT (W.XT t).run.val)):dm p F n W W' O VM t:=by
 have R:=S.inv.acg t S.lt S.busy;have e:=qK S J J;have Yg:=S.V;have acA:=S.fr;have Wy:=S.acD;have eN:=R.n.2 J;have dJ:=R.said;rw[aB,aB]at dJ;have pW: ¬((W.XT t).run.call.op=5/\17<=(W.XT t).run.Xj):=J;have bo:(W.XT t).run.call.op≠4/\(W.XT t).run.call.op≠5/\(W.XT t).run.call.op≠6:=J;have cT:=S.inv.rg t S.lt (W.XT t).run.call.v.toNat;rw[<-R.val]at cT;obtain⟨k,XD⟩: ∃k:Nat,(W.XT t).run.call.a=k:=⟨(W.XT t).run.call.a.toNat,J⟩
 have jf:(W.XT t).run.call.a.toNat=k:=J;unfold dm;rw[e]at Yg acA Wy⊢;unfold cK at Yg Wy⊢;rcases ae3 with⟨Iq,LG⟩|⟨uj,Zv,WP,Yv,X4⟩
 ·rw[aB,aB,aB,aB,aB,aB,aB,jf]at Yg Wy⊢;refine⟨O,VM,wb S (k:=k) J (S.inv.live S.lt J (by rw[<-XD];exact abk) (S.fU (.inr J) k)) cT LG (.inl rfl) Yg acA Wy rfl rfl J rfl bo ?_ ?_⟩
  ·show about (tell (W.XT t).run 0 0) _=_;unfold about;simp[tell,sb,XD]
  ·rw[Z rfl];show(W.XT t).run.call.op≠9;omega
 ·rcases uj with uj|uj
  ·rw[aB,aB,Z uj]at Yg Wy⊢;unfold ie at Yg Wy⊢;by_cases c:(Wi W.V (VA (W.XT t).run.val).toNat).afB=afT (W.XT t).run.val
   ·rw[Z c]at Yg Wy⊢;exact⟨O,VM,quiet S.inv S.lt S.busy Wy Yg acA ⟨rfl,rfl,rfl,rfl,rfl⟩ R.fin R.bF rfl (by simpa using dJ) rfl (fun _=>eN) (fun h=>J) (.gate sb Xg abk (.inr ⟨.inr rfl,Zv,WP,Yv,fun _=>c⟩))⟩
   ·rw[Y c]at Yg Wy⊢;exact⟨O,VM,gu S.inv S.lt S.busy Wy Yg acA rfl rfl pW (fun _=>bo)⟩
  ·rw[aB,aB,aB,Z uj]at Yg Wy⊢;unfold lr at Yg Wy⊢;by_cases c:he n W.V (WR (W.XT t).run.val/8).toNat (VA (W.XT t).run.val) (afT (W.XT t).run.val)
   case neg=>
    exact nK
   have ab4: ¬(W.XT t).run.call.op=9:=J;simp only[Z c,Y ab4]at Yg Wy⊢;by_cases adr:kt (W.XT t).run.chain (VA (W.XT t).run.val) (W.XT t).run.call.a=true
   ·rw[Z adr]at Wy⊢;exact⟨O,VM,quiet S.inv S.lt S.busy Wy Yg acA ⟨rfl,rfl,rfl,rfl,rfl⟩ R.fin R.bF rfl (by simpa using dJ) rfl (fun _=>eN) (fun h=>J) (.gate sb Xg abk (.inl ⟨rfl,c2 (Zv.aas cT.1)⟩))⟩
   ·rw[Y adr]at Wy⊢;exact⟨O,VM,gu S.inv S.lt S.busy Wy Yg acA rfl rfl pW (fun _=>bo)⟩
end
end
end
section
theorem ZL.next{p:afy}{F:b1}{V V':Nat->Int}{O O':Nat->List Zr}{VM dk:Nat->Option Nat}{T:eD}(R:ZL p F V O VM T){r':aax}(c:mC T.run r')(aal:r'.fin=false)(abF:r'.bF=false)(acL:r'.aC=T.run.aC)
 (acS:r'.said.length<=8*r'.n+(if r'.Xj=20 then r'.op else if r'.Xj=21 then 8 else 0))(VF:0<=r'.n)(aao:r'.Xj<20->r'.n=0/\r'.op=0)(k:ad8 p F V' O' dk T.aD r'):ZL p F V' O' dk {T with run:=r'}:=
 ⟨aal,abF,c.af.trans R.af,c.chain.trans R.chain,by show r'.hand=T.regs r'.call.h.toNat;rw[c.hand,c.call];exact R.hand,by show r'.val=T.regs r'.call.v.toNat;rw[c.val,c.call];exact R.val,
   by show cG r'.call;rw[c.call];exact R.call,acS,⟨VF,aao⟩,by show r'.aC.n=0/\_;rw[acL];exact R.aC,k⟩
theorem sf{T:eD}{r':aax}(h:r'.fin=false):eY T r'= {T with run:=r'}:=by unfold eY;rw[h];rfl
theorem acx.go{W W':Wd}{t:Nat}{r':aax}(h:acx W W' t r')(acA:r'.fin=false):W'.XT t= {W.XT t with run:=r'}:=by rw[h.same,sf acA]
theorem acx.end_{W W':Wd}{t:Nat}{r':aax}(h:acx W W' t r')(acA:r'.fin=true):W'.XT t=bH {W.XT t with run:=r'}:=by rw[h.same];unfold eY;rw[acA];rfl
theorem sQ{T:eD}{pre:List bO}{e:bO}(YM:T.run.aC.code=0)(afY:T.run.call.op=5)(V1:T.aD=pre++ [e]):(bH T).aD=pre:=by
 unfold bH;simp[YM,afY,V1]
theorem yu{T:eD}(YM:T.run.aC.code≠0):(bH T).aD=T.aD:=by
 unfold bH;rw[Z YM]
section
variable{p:afy}{F:b1}{n:Nat}{W W':Wd}{O:Nat->List Zr}{VM:Nat->Option Nat}{t:Nat}
section
variable(S:mD p F n W W' O VM t)
include S
theorem uk{k:Nat}{C':g7}{r':aax}(bW:k<p.s)(h1:1<=k)(aaV:2<=(Wi W.V k).st)(iy:hZ C')(vG:2<=C'.st)(yq:C'.afB=(Wi W.V k).afB)(aeN:VM k=none)
 (Yg:W'.V=put W.V (8*k) (afa C'))(acA:W'.fr=W.fr)(Wy: ∀u,u≠t->W'.XT u=W.XT u)(afY:r'.call.op=5)(Xg:da (W.XT t).aD=k)(abi:r'.n=(W.XT t).run.n)
 (eO:lD p (W'.XT t).aD)(pV: ∀s,s≠k->fF s (W'.XT t).aD=fF s (W.XT t).aD)
 (CA:(C'.st=2->C'.Xf=within W' p.t.toNat k)/\(C'.st=3->within W' p.t.toNat k=1))(E0:C'.st=3->gi (W'.XT t) k)
 (Al:Wi W'.V k=C'->W'.V (8*k)=afa C'->bs W'.V k=bs W.V k->(W'.XT t).busy=true->ZL p F W'.V O VM (W'.XT t))(cx:(∀u:Nat,u<p.t->u≠t->¬reach (W.XT u).aD k)\/(Wi W.V k).st=2)
 (cT: ∀j,0<=(W'.XT t).regs j/\(W'.XT t).regs j<18446744073709551616)(fc: ∀c,c∈(W'.XT t).calls->cG c):sd p F n W W' O O VM VM t r':=by
 have fb:=S.inv.pl.s;have gk:=S.inv.Zt k bW;have w':W'.V (8*k)=afa C':=by rw[Yg,aP]
 have acd: ∀j,j≠8*k->W'.V j=W.V j:=fun j aeD=>by rw[Yg];exact aw _ _ aeD
 have hh:Wi W'.V k=C':=by unfold Wi;rw[w',ni iy]
 have RS:bs W'.V k=bs W.V k:=acd _ J;have hx:adh W'.V k=adh W.V k:=acd _ J;have XO:=iy.st;refine⟨?_,?_,?_,?_⟩
 ·refine S.inv.loc S.lt bW J ?_ acA Wy (fun _ _=>rfl) (fun _ _=>rfl) ?_ ?_ (fun h=>J) ?_ ?_ ?_ ?_ ?_ ?_ ?_ ?_ eO pV ?_ ?_ ?_ ?_ ?_ cT fc
  ·intro j aeD;by_cases c:j=8*k
   ·exact .inl (.inl c)
   ·exact absurd (acd j c) aeD
  ·rw[w'];exact iy.w
  ·rw[hh];omega
  ·rw[hx];exact gk.q7 J
  ·intro o ZQ;have fZ:=S.inv.ht bW ZQ;have:=S.inv.eb bW fZ.1;rw[acd _ J,acd _ J,hh,yq];exact gk.hd o ZQ
  ·intro _ _;rw[hx];exact gk.abU aaV aeN
  ·intro q VX;rw[aeN]at VX;cases VX
  ·rw[hh];exact⟨fun h=>J,fun _=>aeN⟩
  ·intro h;rw[hh]at h;omega
  ·intro j;by_cases c:j=8*k
   ·subst c;rw[w'];have:=iy.aas;omega
   ·rw[acd j c];exact S.inv.jd j
  ·intro j aeD;by_cases c:j=8*k
   ·subst c;rw[w']at aeD;exact absurd (c2 (by have:=iy.aas;omega)) aeD
   ·rw[acd j c]at aeD;exact S.inv.qB j aeD
  ·intro _;rw[hh];exact⟨CA.1,CA.2,fun h=>J⟩
  ·intro s YF hd;exact absurd (hd.2.2.2.symm.trans Xg) J
  ·intro _ ZV;rw[hh]at ZV;exact E0 ZV
  ·intro W2 _ hb;exact Al hh w' W2 hb
  ·rcases cx with g|g
   ·exact .inl g
   ·exact .inr ⟨g,by rw[hh,yq],fun o ZQ=>⟨o,ZQ,rfl,rfl⟩⟩
 ·refine⟨fun s YF=>.inl ?_,fun s YF il aaV=>⟨?_,fun aeN=>⟨aeN,fun o ZQ=>⟨o,ZQ,rfl,rfl,rfl,rfl,fun _=>rfl⟩⟩⟩⟩
  ·by_cases c:s=k
   ·subst c;rw[hh,yq]
   ·unfold Wi;rw[acd _ J]
  ·by_cases c:s=k
   ·subst c;rw[hh];omega
   ·unfold Wi;rw[acd _ J];exact aaV
 ·rw[abi];omega
 ·intro j aeD;have E2:j=8*k:=Classical.byContradiction fun c=>aeD (acd j c);exact⟨k,by unfold about;simp[afY,Xg],bW,.inl ⟨J,J⟩⟩
theorem ul(afY:(W.XT t).run.call.op=5)(a5:15<=(W.XT t).run.Xj):
 one p F n W.V W.fr (W.XT t).run=((bM F W.V (W.XT t).run).1,W.fr,(bM F W.V (W.XT t).run).2):=by
 unfold one;rw[aB,aB,aB,aB,Z afY]
theorem E5(afY:(W.XT t).run.call.op=5)(YJ: ∃pre,(W.XT t).aD=pre++ [⟨(W.XT t).run.af,true⟩])(li:(W.XT t).run.list= [])
 (ae3:(W.XT t).run.Xj=15\/(W.XT t).run.Xj=16/\okW (W.XT t).run.word/\(up (W.XT t).run.word).st=2/\(W.XT t).run.next=afa (ic (up (W.XT t).run.word))):dm p F n W W' O VM t:=by
 have R:=S.inv.acg t S.lt S.busy;have e:=ul S afY J;have Yg:=S.V;have acA:=S.fr;have Wy:=S.acD;have aeJ:=S.inv.pl;have fb:=aeJ.s;have aaY:=S.inv.aaY t S.lt;obtain⟨pre,kc⟩:=YJ;have rj:=aaY.each pre _ [] kc;obtain⟨k,XD⟩: ∃k:Nat,(W.XT t).run.af=k:=⟨(W.XT t).run.af.toNat,by have:=rj.1;simp at this;omega⟩
 have jf:(W.XT t).run.af.toNat=k:=J;rw[XD]at kc rj;have bW:(k:Int)<p.s:=rj.2.1;have aX:1<=k:=by have:=rj.2.2.1 rfl;simp at this;omega
 have gk:=S.inv.Zt k bW;have eN:=R.n.2 J;have dJ:=R.said;rw[aB,aB]at dJ;have abk:reach (W.XT t).aD k:=by rw[kc];exact .inr aN
 have live:=S.inv.live S.lt bW abk (S.fU (.inl J) k);have aeN:=gk.no.2 live;have An:da (W.XT t).aD=k:=by rw[kc,hn]
 unfold dm;rw[e]at Yg acA Wy⊢;unfold bM at Yg Wy⊢;rw[jf]at Yg Wy⊢;rcases ae3 with EZ|⟨RU,afl,cx,jg⟩
 ·rw[Z EZ]at Yg Wy⊢;exact⟨O,VM,quiet S.inv S.lt S.busy Wy Yg acA ⟨rfl,rfl,rfl,rfl,rfl⟩ R.fin R.bF rfl (by simpa using dJ) rfl (fun _=>eN) (fun _ h=>J)
   (.nn afY ⟨pre,by show _=pre++ [⟨(W.XT t).run.af,true⟩];rw[XD];exact kc⟩ li (.inr ⟨rfl,gk.ft,live,rfl⟩))⟩
 ·rw[aB,Z RU]at Yg Wy⊢;by_cases WJ:W.V (8*k)=(W.XT t).run.word
  case neg=>
   rw[Y WJ]at Yg Wy⊢;exact⟨O,VM,quiet S.inv S.lt S.busy Wy Yg acA ⟨rfl,rfl,rfl,rfl,rfl⟩ R.fin R.bF rfl (by simpa using dJ) rfl (fun _=>eN) (fun _ h=>J)
    (.nn afY ⟨pre,by show _=pre++ [⟨(W.XT t).run.af,true⟩];rw[XD];exact kc⟩ li (.inl rfl))⟩
  rw[Z WJ]at Yg Wy⊢;rw[<-WJ]at jg;have nJ:up (W.V (8*k))=Wi W.V k:=rfl;rw[nJ]at jg;have acY:=gk.ft.ok.leave live;rw[nJ]at acY;obtain⟨C',ad7⟩: ∃C',ic (Wi W.V k)=C':=⟨_,rfl⟩
  have OO:C'.Xf=(Wi W.V k).Xf-1/\C'.afB=(Wi W.V k).afB:=by rw[<-ad7];exact⟨rfl,rfl⟩
  rw[ad7]at acY jg;have OP:up (W.XT t).run.next=C':=by rw[jg,ni acY.1]
  rw[OP]at Yg Wy⊢;have OQ:W'.V=put W.V (8*k) (afa C'):=by rw[Yg,jg]
  have yr:=(S.inv.Xf k aX bW).1 live;have RV:=acY.1.Xf;by_cases adr:C'.st=3
  ·rw[Z adr]at Yg Wy⊢;have b7:=Wy.go R.fin;have eR:=acY.2.1.1 adr;have eO:(W'.XT t).aD=(W.XT t).aD:=by rw[b7]
   have ky:=eH (T:=p.t.toNat) (t:=t) (by have:=S.lt;omega) Wy.other k;rw[eO]at ky;refine⟨O,VM,uk S bW aX J acY.1 J OO.2 aeN OQ acA Wy.other afY An rfl (by rw[eO];exact aaY) (fun s _=>by rw[eO]) ⟨fun h=>J,fun _=>J⟩ ?_ ?_ ?_ ?_ ?_⟩
   ·intro _;rw[b7];exact⟨S.busy,afY,(show(17:Int)<=17 by decide),An⟩
   ·intro aal abF _ _;rw[b7];refine R.next ⟨rfl,rfl,rfl,rfl,rfl⟩ R.fin R.bF rfl (by simpa using dJ) R.n.1 (fun _=>eN) (.drain afY ⟨pre,by show _=pre++ [⟨(W.XT t).run.af,true⟩];rw[XD];exact kc⟩ ⟨(show(17:Int)<=17 by decide),(show(17:Int)<=26 by decide)⟩ ?_ ?_ ?_)
    ·show W'.V (8*(W.XT t).run.af.toNat)=(W.XT t).run.next;rw[jf,abF];exact jg.symm
    ·show(Wi W'.V (W.XT t).run.af.toNat).st=3;rw[jf,aal];exact adr
    ·show aeH F W'.V (O (W.XT t).run.af.toNat) (VM (W.XT t).run.af.toNat) (W.XT t).run.af.toNat _;rw[jf];exact .first rfl li aeN
   ·refine .inl fun u hu abi RW=>?_;have hm:(⟨k,true⟩:bO)∈(W.XT u).aD:=by
     rcases RW with e|e
     ·omega
     ·exact e
    have h1:=jq hm;have aaV:=jq (s:=k) (l:=(W.XT t).aD) (by rw[kc];simp);have:=r0 (f:=fun i=>fF k (W.XT i).aD) (m:=p.t.toNat) (i:=t) (j:=u) (by have:=S.lt;omega) J (fun abF=>abi abF.symm);unfold within at yr;omega
   ·rw[b7];exact S.inv.rg t S.lt
   ·rw[b7];exact S.inv.ZS t S.lt
  ·rw[Y adr]at Yg Wy⊢;have T5:C'.st=2:=by have:=acY.2;omega
   have iR:eY (W.XT t) (tell (W.XT t).run 0 0)=bH {W.XT t with run:=tell (W.XT t).run 0 0}:=rfl;have b7:=Wy.same;rw[iR]at b7;have eO:(W'.XT t).aD=pre:=by rw[b7];exact sQ rfl afY kc
   have ky:=eH (T:=p.t.toNat) (t:=t) (by have:=S.lt;omega) Wy.other k;rw[eO,kc,hw,Z rfl]at ky;refine⟨O,VM,uk S bW aX J acY.1 J OO.2 aeN OQ acA Wy.other afY An rfl ?_ ?_ ⟨fun h=>J,fun h=>J⟩ (fun h=>J) ?_ (.inr live) ?_ ?_⟩
   ·rw[eO];rw[kc]at aaY;exact aaY.pop
   ·intro s YF;rw[eO,kc,hw,Y (fun e=>by injection e with aal;omega)];rfl
   ·intro _ _ _ hb;rw[b7,eA]at hb;cases hb
   ·rw[b7];exact fj (S.inv.rg t S.lt)
   ·rw[b7,es];exact S.inv.ZS t S.lt
end
end
end
section
theorem tg(F:b1)(L:List Zr)(q:Zr->Bool):(cO F (L.filter q)).length<=(cO F L).length:=by
 unfold cO;rw[bJ,bJ,List.filter_filter];have:L.filter (fun a=>fX F a&&q a)=(L.filter (fX F)).filter q:=by rw[List.filter_filter];congr 1;funext a;exact Bool.and_comm ..
 rw[this];exact List.length_filter_le ..
theorem um{F:b1}{o:Zr}(h:fX F o=true):o.d=false/\0<(bY F o.t).length:=by
 unfold fX at h;cases e:bY F o.t with
 |nil=>rw[e]at h;simp at h
 |cons x l=>rw[e]at h;simp at h;exact⟨h,aN⟩
theorem Ao{F:b1}(h:tN F)(t:Nat):(bY F t).length<=8/\∀o,o∈bY F t->okF o:=by
 unfold bY;rw[ae];cases e:F[t]? with
 |none=>exact⟨aN,fun o ZQ=>by simp at ZQ⟩
 |some l=>exact h.2 l (bf e)
structure jO(p:afy)(F:b1)(n:Nat)(W W':Wd)(O:Nat->List Zr)(VM:Nat->Option Nat)(t:Nat)(pre:List bO)(k:Nat):Prop where
 S:mD p F n W W' O VM t
 afY:(W.XT t).run.call.op=5
 aD:(W.XT t).aD=pre++ [⟨k,true⟩]
 af:(W.XT t).run.af=k
 Xj:17<=(W.XT t).run.Xj/\(W.XT t).run.Xj<=26
 w:W.V (8*k)=(W.XT t).run.next
 st:(Wi W.V k).st=3
 adz:k<p.s
 adX:1<=k
section
variable{p:afy}{F:b1}{n:Nat}{W W':Wd}{O:Nat->List Zr}{VM:Nat->Option Nat}{t:Nat}{pre:List bO}{k:Nat}
section
variable(aG:jO p F n W W' O VM t pre k)
include aG
theorem jO.Ap:(W.XT t).run.af.toNat=k:=by rw[aG.af];rfl
theorem jO.alone:(∀u:Nat,u<p.t->u≠t->¬reach (W.XT u).aD k)/\fF k (W.XT t).aD=1:=
 aG.S.inv.alone aG.S.lt aG.adz aG.adX aG.st (by rw[aG.aD];simp)
theorem jO.one:one p F n W.V W.fr (W.XT t).run=((bM F W.V (W.XT t).run).1,W.fr,(bM F W.V (W.XT t).run).2):=ul aG.S aG.afY (by have:=aG.Xj;omega)
theorem jO.da:da (W.XT t).aD=k:=by rw[aG.aD,hn]
theorem jO.kind{V':Nat->Int}{O':Nat->List Zr}{dk:Nat->Option Nat}{r':aax}(c:mC (W.XT t).run r')(abi:r'.next=(W.XT t).run.next)(afl:V' (8*k)=W.V (8*k))(a5:17<=r'.Xj/\r'.Xj<=26)
 (abv:aeH F V' (O' k) (dk k) k r'):ad8 p F V' O' dk (W.XT t).aD r':=by
 have e:r'.af.toNat=k:=by rw[c.af];exact aG.Ap
 refine .drain (by rw[c.call];exact aG.afY) ⟨pre,by rw[c.af,aG.af];exact aG.aD⟩ a5 ?_ ?_ (by rw[e];exact abv)
 ·rw[e,afl,abi];exact aG.w
 ·rw[e];unfold Wi;rw[afl];exact aG.st
theorem jO.quiet{r':aax}(Yg:W'.V=W.V)(acA:W'.fr=W.fr)(Wy:acx W W' t r')(c:mC (W.XT t).run r')(abi:r'.next=(W.XT t).run.next)(aal:r'.fin=(W.XT t).run.fin)(abF:r'.bF=(W.XT t).run.bF)(acL:r'.aC=(W.XT t).run.aC)
 (acS:r'.said=(W.XT t).run.said)(VF:r'.n=(W.XT t).run.n)(aao:r'.op=(W.XT t).run.op)(CG:(W.XT t).run.Xj<20)(It:r'.Xj≠21)(a5:17<=r'.Xj/\r'.Xj<=26)(abv:aeH F W.V (O k) (VM k) k r'):sd p F n W W' O O VM VM t r':=by
 have R:=aG.S.inv.acg t aG.S.lt aG.S.busy;have eN:=R.n.2 CG;have dJ:=R.said;rw[aB,aB]at dJ;refine Go.Proofs.YtcimojgkeoecfaaGreat.quiet aG.S.inv aG.S.lt aG.S.busy Wy Yg acA c (aal.trans R.fin) (abF.trans R.bF) acL ?_ VF ?_ (fun _ _=>a5.1) (aG.kind c abi rfl a5 abv)
 ·rw[acS,VF,aao,eN.2,Y It];split<;>omega
 ·intro _;rw[VF,aao];exact eN
theorem jO.loc{O':Nat->List Zr}{dk:Nat->Option Nat}{r':aax}(acA:W'.fr=W.fr)(Wy:acx W W' t r')(c:mC (W.XT t).run r')(abi:r'.next=(W.XT t).run.next)(aal:r'.fin=(W.XT t).run.fin)(abF:r'.bF=(W.XT t).run.bF)(acL:r'.aC=(W.XT t).run.aC)
 (Yg: ∀j,W'.V j≠W.V j->(j=8*k+3\/j=8*k+4)\/bs W.V k<=8*j/\8*(j:Int)<bs W.V k+agh W.V k)
 (aaH: ∀s,s≠k->O' s=O s)(aeN: ∀s,s≠k->dk s=VM s)
 (q7:0<=adh W'.V k/\adh W'.V k<=agh W.V k/\adh W'.V k %8=0)
 (hd: ∀o,o∈O' k->o.ok/\W'.V o.at_=o.w/\W'.V (o.at_+1)=k+256*(Wi W.V k).afB)
 (abU:dk k=none->ks (bs W.V k/8).toNat (O' k) ((bs W.V k+adh W'.V k)/8).toNat)
 (ab6: ∀q,dk k=some q->∀o,o∈O' k->q<=o.at_/\bs W.V k<=8*o.at_/\8*(o.at_:Int)+16<=bs W.V k+adh W'.V k)
 (yo: ∀k,0<=W'.V k/\W'.V k<18446744073709551616)
 (x0: ∀k,¬ku (W'.V k)->∃s:Nat,s<p.s/\∃o,o∈O' s/\o.at_=k)
 (acS:r'.said.length<=8*r'.n+(if r'.Xj=20 then r'.op else if r'.Xj=21 then 8 else 0))(VF:0<=r'.n)(aao:r'.Xj<20->r'.n=0/\r'.op=0)(a5:17<=r'.Xj/\r'.Xj<=26)
 (abv:bs W'.V k=bs W.V k->aeH F W'.V (O' k) (dk k) k r')
 (cnt:(cO F (O' k)).length+r'.n.toNat<=(cO F (O k)).length+(W.XT t).run.n.toNat)
 (OK:dk k=none->VM k=none/\∀o,o∈O k->∃o',o'∈O' k/\o'.at_=o.at_/\o'.z=o.z/\o'.l=o.l/\o'.t=o.t):sd p F n W W' O O' VM dk t r':=by
 have S:=aG.S;have R:=S.inv.acg t S.lt S.busy;have fb:=S.inv.pl.s;have bW:=aG.adz;have cx:=aG.st;have gk:=S.inv.Zt k bW;have b7:=Wy.go (aal.trans R.fin);have afp:=S.inv.eb bW J;have w0: ∀s:Nat,s<p.s->W'.V (8*s)=W.V (8*s):=by
  intro s YF;apply Classical.byContradiction;intro bo;have:=Yg _ bo;omega
 have iW: ∀s:Nat,s<p.s->Wi W'.V s=Wi W.V s:=fun s YF=>by unfold Wi;rw[w0 s YF]
 have eO:(W'.XT t).aD=(W.XT t).aD:=by rw[b7]
 have ky:=eH (T:=p.t.toNat) (t:=t) (by have:=S.lt;omega) Wy.other k;rw[eO]at ky;have Zl:O'=put O k (O' k):=by
  funext s;by_cases c:s=k
  ·subst c;rw[aP]
  ·rw[aw _ _ c,aaH s c]
 refine⟨?_,?_,?_,?_⟩
 ·refine S.inv.loc S.lt bW J ?_ acA Wy.other aaH aeN ?_ ?_ (fun h=>by have:=aG.adX;omega) q7 ?_ (fun _=>abU) ?_ ?_ ?_ yo x0 ?_ ?_ ?_ ?_ ?_ ?_ ?_ ?_ ?_
  ·intro j aeD;rcases Yg j aeD with h|h
   ·exact .inl (.inr h)
   ·exact .inr h
  ·rw[w0 k bW];exact gk.ft
  ·rw[iW k bW];omega
  ·rw[iW k bW];exact hd
  ·rw[iW k bW];exact fun q VX=>⟨aG.adX,cx,ab6 q VX⟩
  ·rw[iW k bW];exact⟨fun h=>J,fun h=>J⟩
  ·rw[iW k bW];intro h;omega
  ·rw[eO];exact S.inv.aaY t S.lt
  ·intro s _;rw[eO]
  ·intro h1;exact lI
  ·intro s YF Ak;exact absurd (Ak.2.2.2.symm.trans aG.da) J
  ·intro _ _;rw[b7];exact⟨S.busy,by show r'.call.op=5;rw[c.call];exact aG.afY,a5.1,aG.da⟩
  ·intro W2 _ _;rw[b7];exact R.next c (aal.trans R.fin) (abF.trans R.bF) acL acS VF aao (aG.kind c abi (w0 k bW) a5 (abv W2))
  ·exact .inl aG.alone.1
  ·rw[b7];exact S.inv.rg t S.lt
  ·rw[b7];exact S.inv.ZS t S.lt
 ·refine⟨fun s YF=>.inl (by rw[iW s YF]),fun s YF _ aaV=>⟨by rw[iW s YF];exact aaV,fun c5=>?_⟩⟩;by_cases adr:s=k
  ·subst adr;have:=OK c5;refine⟨this.1,fun o ZQ=>?_⟩;obtain⟨o',h1,aaV,ZV,Ya,afY⟩:=this.2 o ZQ;exact⟨o',h1,aaV,ZV,Ya,afY,fun h=>by rw[iW s YF]at h;omega⟩
  ·rw[aeN s adr]at c5;exact⟨c5,fun o ZQ=>⟨o,by rw[aaH s adr];exact ZQ,rfl,rfl,rfl,rfl,fun _=>rfl⟩⟩
 ·have:=rh (F:=F) (O:=O) (k:=k) (S:=p.s.toNat) (O' k) J;rw[<-Zl]at this;omega
 ·intro j aeD;refine⟨k,by unfold about;simp[c.call,aG.afY,aG.da],bW,?_⟩;rcases Yg j aeD with h|h
  ·exact .inl ⟨J,by rw[c.call,aG.afY];decide⟩
  ·exact .inr ⟨J,.inl (by rw[c.call];exact aG.afY),h.1,h.2⟩
theorem Iu(RX:(W.XT t).run.Xj=17)(YJ:(W.XT t).run.list= [])(aeN:VM k=none):dm p F n W W' O VM t:=by
 have e:=aG.one;have Yg:=aG.S.V;have acA:=aG.S.fr;have Wy:=aG.S.acD;unfold dm;rw[e]at Yg acA Wy⊢;unfold bM at Yg Wy⊢;rw[aB,aB,Z RX,aG.Ap]at Yg Wy⊢;exact⟨O,VM,aG.quiet Yg acA Wy ⟨rfl,rfl,rfl,rfl,rfl⟩ rfl rfl rfl rfl rfl rfl rfl J (show(18:Int)≠21 by decide) ⟨(show(17:Int)<=18 by decide),(show(18:Int)<=26 by decide)⟩ (.top rfl YJ aeN rfl rfl)⟩
end
theorem kC(r:aax):(r.list≠ []/\bP r= {r with Xj:=20})\/(r.list= []/\(bP r= {r with Xj:=22}\/bP r= {r with Xj:=23})):=by
 unfold bP;by_cases c:r.list≠ []
 ·exact .inl ⟨c,Z c⟩
 ·refine .inr ⟨Classical.byContradiction c,?_⟩;rw[Y c];split
  ·exact .inl rfl
  ·exact .inr rfl
theorem yv{r:aax}(YM:r.op=0)(aeN:VM k=none)(h1:r.word=bs W.V k)(aaV:r.top=bs W.V k+adh W.V k)(YJ:r.list=cO F (O k)):aeH F W.V (O k) (VM k) k (bP r):=by
 rcases kC r with⟨c,e⟩|⟨c,e|e⟩
 ·rw[e];rw[YJ]at c;obtain⟨pr,o,adF,abF,ZV,Ya⟩:=tQ c;exact .fin pr o adF rfl aeN h1 aaV abF ZV Ya YJ (by show 0<=r.op;omega) (by show r.op<_;have:=(um ZV).2;omega)
 ·rw[e];rw[YJ]at c;exact .rest (.inl rfl) aeN h1 aaV c (YJ.trans c)
 ·rw[e];rw[YJ]at c;exact .rest (.inr rfl) aeN h1 aaV c (YJ.trans c)
theorem rk(r:aax):mC r (ee r)/\(ee r).next=r.next/\(ee r).fin=r.fin/\(ee r).bF=r.bF/\(ee r).aC=r.aC/\(ee r).said=r.said/\(ee r).n=r.n/\(ee r).op=r.op/\(17<=(ee r).Xj/\(ee r).Xj<=26)/\(ee r).Xj≠21:=by
 unfold ee;split
 ·exact⟨⟨rfl,rfl,rfl,rfl,rfl⟩,rfl,rfl,rfl,rfl,rfl,rfl,rfl,⟨(show(17:Int)<=19 by decide),(show(19:Int)<=26 by decide)⟩,(show(19:Int)≠21 by decide)⟩
 ·rcases kC r with⟨c,e⟩|⟨c,e|e⟩
  ·rw[e];exact⟨⟨rfl,rfl,rfl,rfl,rfl⟩,rfl,rfl,rfl,rfl,rfl,rfl,rfl,⟨(show(17:Int)<=20 by decide),(show(20:Int)<=26 by decide)⟩,(show(20:Int)≠21 by decide)⟩
  ·rw[e];exact⟨⟨rfl,rfl,rfl,rfl,rfl⟩,rfl,rfl,rfl,rfl,rfl,rfl,rfl,⟨(show(17:Int)<=22 by decide),(show(22:Int)<=26 by decide)⟩,(show(22:Int)≠21 by decide)⟩
  ·rw[e];exact⟨⟨rfl,rfl,rfl,rfl,rfl⟩,rfl,rfl,rfl,rfl,rfl,rfl,rfl,⟨(show(17:Int)<=23 by decide),(show(23:Int)<=26 by decide)⟩,(show(23:Int)≠21 by decide)⟩
section
variable(aG:jO p F n W W' O VM t pre k)
include aG
theorem yw{r:aax}{pr post:List Zr}(YM:r.op=0)(aeN:VM k=none)(h1:r.word=bs W.V k)(aaV:r.top=bs W.V k+adh W.V k)(aaH:O k=pr++post)(Xg: ∃a:Nat,r.at_=8*a/\ks a post ((bs W.V k+adh W.V k)/8).toNat)
 (YJ:r.list=cO F pr):aeH F W.V (O k) (VM k) k (ee r):=by
 obtain⟨a,Xg,VK⟩:=Xg;have afp:=aG.S.inv.eb aG.adz (by have:=aG.st;omega);unfold ee;cases post with
 |nil=>
  have e:a=_:=VK;rw[aB];exact yv YM aeN h1 aaV (by rw[aaH,br];exact YJ)
 |cons o post=>
  have ok:=((aG.S.inv.Zt k aG.adz).hd o (by rw[aaH];simp)).1;unfold Zr.ok at ok;obtain⟨e,VK⟩:=VK;have:=tP VK;rw[m3];exact .walk pr o post rfl aeN h1 aaV aaH (by show r.at_=_;omega) YJ
theorem Iv(RY:(W.XT t).run.Xj=18)(YJ:(W.XT t).run.list= [])(aeN:VM k=none)(Xg:(W.XT t).run.at_=bs W.V k)(afl:(W.XT t).run.word=bs W.V k):dm p F n W W' O VM t:=by
 have e:=aG.one;have Yg:=aG.S.V;have acA:=aG.S.fr;have Wy:=aG.S.acD;have R:=aG.S.inv.acg t aG.S.lt aG.S.busy;have eN:=R.n.2 J;have afp:=aG.S.inv.eb aG.adz (by have:=aG.st;omega);have VK:=(aG.S.inv.Zt k aG.adz).abU (by have:=aG.st;omega) aeN;have fb:=aG.S.inv.pl.s;unfold dm;rw[e]at Yg acA Wy⊢;unfold bM at Yg Wy⊢;rw[aB,aB,aB,Z RY,aG.Ap]at Yg Wy⊢;obtain⟨f1,f2,f3,f4,f5,f6,f7,f8,f9,f11⟩:=rk {(W.XT t).run with top:=(W.XT t).run.at_+adh W.V k};refine⟨O,VM,aG.quiet Yg acA Wy ⟨f1.call,f1.af,f1.chain,f1.hand,f1.val⟩ f2 f3 f4 f5 f6 f7 f8 J f11 f9 (yw aG (pr:= []) (post:=O k) eN.2 aeN afl ?_ rfl ⟨(bs W.V k/8).toNat,?_,VK⟩ YJ)⟩
 ·show(W.XT t).run.at_+adh W.V k=_;rw[Xg]
 ·show(W.XT t).run.at_=_;omega
theorem Iw{pr post:List Zr}{o:Zr}(RZ:(W.XT t).run.Xj=19)(aeN:VM k=none)(afl:(W.XT t).run.word=bs W.V k)(afq:(W.XT t).run.top=bs W.V k+adh W.V k)(aaH:O k=pr++o::post)(Xg:(W.XT t).run.at_=8*o.at_)(YJ:(W.XT t).run.list=cO F pr):dm p F n W W' O VM t:=by
 have e:=aG.one;have Yg:=aG.S.V;have acA:=aG.S.fr;have Wy:=aG.S.acD;have R:=aG.S.inv.acg t aG.S.lt aG.S.busy;have eN:=R.n.2 J;have VK:=(aG.S.inv.Zt k aG.adz).abU (by have:=aG.st;omega) aeN;rw[aaH]at VK;have R0:=(np VK).2;have mE:o∈O k:=by rw[aaH];simp
 have ek:=(aG.S.inv.ri aG.adz mE).2;unfold dm;rw[e]at Yg acA Wy⊢;unfold bM at Yg Wy⊢;rw[aB,aB,aB,aB,Z RZ,show((W.XT t).run.at_/8).toNat=o.at_ from J,ek]at Yg Wy⊢;obtain⟨f1,f2,f3,f4,f5,f6,f7,f8,f9,f11⟩:=rk {(W.XT t).run with list:=if o.d=false/\bY F o.t≠ []then(W.XT t).run.list++ [(W.XT t).run.at_]else(W.XT t).run.list,at_:=(W.XT t).run.at_+8*o.z};refine⟨O,VM,aG.quiet Yg acA Wy ⟨f1.call,f1.af,f1.chain,f1.hand,f1.val⟩ f2 f3 f4 f5 f6 f7 f8 J f11 f9 (yw aG (pr:=pr++ [o]) (post:=post) eN.2 aeN afl afq (by rw[aaH];simp) ⟨o.at_+o.z,?_,R0⟩ ?_)⟩
 ·show(W.XT t).run.at_+8*o.z=_;omega
 ·show(if o.d=false/\bY F o.t≠ []then(W.XT t).run.list++ [(W.XT t).run.at_]else(W.XT t).run.list)=_;rw[iQ,jr,YJ,Xg];have aeJ:fX F o=true↔o.d=false/\bY F o.t≠ []:=by unfold fX;simp
  by_cases c:o.d=false/\bY F o.t≠ []
  ·rw[Z c,Z (aeJ.2 c)];rfl
  ·rw[Y c,Y (fun h=>c (aeJ.1 h))];simp[cO]
end
end
end
section
def un(x:Int):Prop:=ku x/\0<=x/\x<18446744073709551616
theorem we:un 0:=⟨c2 am,am,am⟩
theorem wh{sl:List Int}(h: ∀x,x∈sl->un x)(i:Nat):un (sl.getD i 0):=by
 rw[ae];cases e:sl[i]? with
 |none=>exact we
 |some x=>exact h x (bf e)
theorem yx{sl:List Int}(h: ∀x,x∈sl->un x)(i:Nat){v:Int}(hv:un v): ∀x,x∈sl.set i v->un x:=by
 intro x Wy;rcases List.mem_or_eq_of_mem_set Wy with Wy|rfl
 ·exact h x Wy
 ·exact hv
theorem CH{o:jc}(ZQ:okF o){sl:List Int}(h: ∀x,x∈sl->un x):0<=(dd o sl).1/\(dd o sl).2.1.length=sl.length/\(∀x,x∈(dd o sl).2.1->un x)/\(dd o sl).2.2.1.length<=1:=by
 have hb:=ZQ.b;unfold dd;by_cases VI:o.op=0
 ·rw[Z VI];exact⟨(show(0:Int)<=0 by decide),rfl,h,ai 1⟩
 rw[Y VI];by_cases WJ:o.op=1
 ·simp only[Z WJ];refine⟨am,?_,?_,aN⟩
  ·split<;>simp
  ·split
   ·exact yx h _ we
   ·exact h
 rw[Y WJ];by_cases adr:o.op=2
 ·simp only[Z adr];refine⟨am,?_,?_,aN⟩
  ·split<;>simp
  ·split
   ·exact yx h _ (wh h _)
   ·exact h
 rw[Y adr];by_cases XO:o.op=3
 ·rw[Z XO];refine⟨?_,rfl,h,aL 1⟩;show 0<=(if _ then o.b else 0);split<;>omega
 ·rw[Y XO];exact⟨(show(0:Int)<=0 by decide),rfl,h,aL 1⟩
section
variable{p:afy}{F:b1}{n:Nat}{W W':Wd}{O:Nat->List Zr}{VM:Nat->Option Nat}{t:Nat}{pre:List bO}{k:Nat}
section
variable(aG:jO p F n W W' O VM t pre k){pr post:List Zr}{o:Zr}
include aG pr post o
theorem Ix(CG:(W.XT t).run.Xj=20)(aeN:VM k=none)(afl:(W.XT t).run.word=bs W.V k)(afq:(W.XT t).run.top=bs W.V k+adh W.V k)(aaH:O k=pr++o::post)(aeJ:fX F o=true)(Aq:cO F post= [])
 (YJ:(W.XT t).run.list=cO F (O k))(LH:0<=(W.XT t).run.op)(vz:(W.XT t).run.op<(bY F o.t).length):dm p F n W W' O VM t:=by
 have e:=aG.one;have Yg:=aG.S.V;have acA:=aG.S.fr;have Wy:=aG.S.acD;have R:=aG.S.inv.acg t aG.S.lt aG.S.busy;have dJ:=R.said;rw[Z CG]at dJ;have gk:=aG.S.inv.Zt k aG.adz;have bW:=aG.adz;have VK:=gk.abU (by have:=aG.st;omega) aeN;have mE:o∈O k:=by rw[aaH];simp
 have ek:=(aG.S.inv.ri aG.adz mE).2;have fZ:=aG.S.inv.ht aG.adz mE;have R1:=fZ.2.2.2.2 aeN;have afp:=aG.S.inv.eb aG.adz fZ.1;have ok:=(gk.hd o mE).1;have LI:=ok;unfold Zr.ok at LI;have R2:=Ao aG.S.inv.WK o.t;have jv:=(q8 (F:=F) (pre:=pr) (post:=post) aeJ Aq).1;rw[<-aaH,<-YJ]at jv;unfold dm;rw[e]at Yg acA Wy⊢;unfold bM at Yg Wy⊢;rw[aB,aB,aB,aB,aB,Z CG]at Yg Wy⊢;simp only[jv,show((8*(o.at_:Int))/8).toNat=o.at_ from J,ek]at Yg Wy⊢;obtain⟨x,LJ⟩: ∃x,(bY F o.t).getD (W.XT t).run.op.toNat ⟨0,0,0⟩=x:=⟨_,rfl⟩
 have R3:okF x:=by
  rw[ae,an J]at LJ;exact R2.2 x (by rw[<-LJ];exact bA _)
 rw[LJ]at Yg Wy⊢;have E6: ∀y,y∈O k->∀i,o.at_+2<=i->i<o.at_+2+o.l->y.at_≠i/\y.at_+1≠i:=by
  intro y hy i h1 aaV;rcases nr VK (fun o ZQ=>(gk.hd o ZQ).1) mE hy with rfl|h|h
  ·omega
  ·omega
  ·have:=(gk.hd y hy).1;unfold Zr.ok at this;omega
 have OR: ∀y,y∈eM W.V o.at_ o.l->un y:=by
  intro y hy;unfold eM at hy;obtain⟨i,hi,rfl⟩:=List.mem_map.1 hy;rw[List.mem_range]at hi;refine⟨Classical.byContradiction fun hu=>?_,aG.S.inv.jd _⟩;obtain⟨s,YF,y,sg,jP⟩:=aG.S.inv.qB _ hu;by_cases c:s=k
  ·subst c;exact(E6 y sg _ J J).1 jP
  ·have h1:=aG.S.inv.ht YF sg;have aaV:=aG.S.inv.BL YF aG.adz c h1.1 fZ.1;have ZV:=aG.S.inv.eb YF h1.1;omega
 obtain⟨q1,Xt,ada,ab8⟩:=CH R3 OR;obtain⟨Q,WO⟩: ∃Q,dd x (eM W.V o.at_ o.l)=Q:=⟨_,rfl⟩
 rw[WO]at Yg Wy q1 Xt ada ab8⊢;have ZX:Q.2.1.length=o.l:=by rw[Xt];unfold eM;simp
 have Z2: ∀i,¬(o.at_+2<=i/\i<o.at_+2+o.l)->W'.V i=W.V i:=fun i h=>by rw[Yg];show fW _ _ _ i=_;unfold fW;rw[ZX,Y h]
 have Xp: ∀i,o.at_+2<=i->i<o.at_+2+o.l->un (W'.V i):=fun i h1 aaV=>by rw[Yg];show un (fW _ _ _ i);unfold fW;rw[ZX,Z ⟨h1,aaV⟩];exact wh ada _
 have hx:adh W'.V k=adh W.V k:=Z2 _ J;obtain⟨fD,rl⟩: ∃fD:Int,(if((bY F o.t).length:Int)<=(W.XT t).run.op+1+Q.1 then(21:Int)else 20)=fD:=⟨_,rfl⟩
 have KE:(fD=21/\((bY F o.t).length:Int)<=(W.XT t).run.op+1+Q.1)\/(fD=20/\(W.XT t).run.op+1+Q.1<(bY F o.t).length):=by
  by_cases c:((bY F o.t).length:Int)<=(W.XT t).run.op+1+Q.1
  ·rw[Z c]at rl;exact .inl ⟨rl.symm,c⟩
  ·rw[Y c]at rl;exact .inr ⟨rl.symm,J⟩
 rw[rl]at Wy⊢;refine⟨O,VM,aG.loc acA Wy ⟨rfl,rfl,rfl,rfl,rfl⟩ rfl rfl rfl rfl ?_ (fun _ _=>rfl) (fun _ _=>rfl) ?_ ?_ ?_ ?_ ?_ ?_ ?_ R.n.1 ?_ ?_ ?_ (ai _) (fun h=>⟨h,fun y hy=>⟨y,hy,rfl,rfl,rfl,rfl⟩⟩)⟩
 ·intro j aeD;have:o.at_+2<=j/\j<o.at_+2+o.l:=Classical.byContradiction fun c=>aeD (Z2 j c);exact .inr J
 ·rw[hx];exact gk.q7 fZ.1
 ·intro y hy;have:=E6 y hy;rw[Z2 _ (fun c=>(this _ c.1 c.2).1 rfl),Z2 _ (fun c=>(this _ c.1 c.2).2 rfl)];exact gk.hd y hy
 ·intro _;rw[hx];exact VK
 ·intro q VX;rw[aeN]at VX;cases VX
 ·intro i;by_cases c:o.at_+2<=i/\i<o.at_+2+o.l
  ·exact(Xp i c.1 c.2).2
  ·rw[Z2 i c];exact aG.S.inv.jd i
 ·intro i hi;by_cases c:o.at_+2<=i/\i<o.at_+2+o.l
  ·exact absurd (Xp i c.1 c.2).1 hi
  ·rw[Z2 i c]at hi;exact aG.S.inv.qB i hi
 ·show((((W.XT t).run.said++Q.2.2.1).length:Nat):Int)<=8*(W.XT t).run.n+(if fD=20 then(W.XT t).run.op+1+Q.1 else if fD=21 then 8 else 0);rw[ak];rcases KE with⟨h1,aaV⟩|⟨h1,aaV⟩
  ·rw[aB,Z h1];omega
  ·rw[Z h1];omega
 ·show fD<20->_;omega
 ·show 17<=fD/\fD<=26;omega
 ·intro W2;rcases KE with⟨h1,aaV⟩|⟨h1,aaV⟩
  ·exact .mark pr o post h1 aeN (by rw[W2];exact afl) (by rw[W2,hx];exact afq) aaH aeJ Aq YJ
  ·exact .fin pr o post h1 aeN (by rw[W2];exact afl) (by rw[W2,hx];exact afq) aaH aeJ Aq YJ (by show 0<=(W.XT t).run.op+1+Q.1;omega) aaV
theorem Iy(It:(W.XT t).run.Xj=21)(aeN:VM k=none)(afl:(W.XT t).run.word=bs W.V k)(afq:(W.XT t).run.top=bs W.V k+adh W.V k)(aaH:O k=pr++o::post)(aeJ:fX F o=true)(Aq:cO F post= [])
 (YJ:(W.XT t).run.list=cO F (O k)):dm p F n W W' O VM t:=by
 have e:=aG.one;have Yg:=aG.S.V;have acA:=aG.S.fr;have Wy:=aG.S.acD;have R:=aG.S.inv.acg t aG.S.lt aG.S.busy;have dJ:=R.said;rw[aB,Z It]at dJ;have eN:=R.n.1;have gk:=aG.S.inv.Zt k aG.adz;have bW:=aG.adz;have VK:=gk.abU (by have:=aG.st;omega) aeN;have mE:o∈O k:=by rw[aaH];simp
 have ek:=(aG.S.inv.ri aG.adz mE).2;have fZ:=aG.S.inv.ht aG.adz mE;have R1:=fZ.2.2.2.2 aeN;have afp:=aG.S.inv.eb aG.adz fZ.1;have ok:=(gk.hd o mE).1;have LI:=ok;unfold Zr.ok at LI;have jv:=q8 (F:=F) (pre:=pr) (post:=post) aeJ Aq;rw[<-aaH,<-YJ]at jv;obtain⟨o',E7⟩: ∃o':Zr,o'= {o with d:=true}:=⟨_,rfl⟩
 have pX:o'.at_=o.at_/\o'.z=o.z/\o'.l=o.l/\o'.t=o.t/\o'.d=true:=by rw[E7];exact⟨rfl,rfl,rfl,rfl,rfl⟩
 have KF:o'.ok:=by unfold Zr.ok;rw[pX.2.1,pX.2.2.1,pX.2.2.2.1];exact ok
 have Yf:fX F o'≠true:=by unfold fX;rw[pX.2.2.2.2];simp
 unfold dm;rw[e]at Yg acA Wy⊢;unfold bM at Yg Wy⊢;rw[aB,aB,aB,aB,aB,aB,Z It]at Yg Wy⊢;simp only[jv.1,jv.2,show((8*(o.at_:Int))/8).toNat=o.at_ from J,ek]at Yg Wy⊢;have ow:o'.w=q5 o.z o.l o.t 1:=by unfold Zr.w;rw[pX.2.1,pX.2.2.1,pX.2.2.2.1,pX.2.2.2.2];rfl
 rw[<-ow]at Yg;have abm:W'.V o.at_=o'.w:=by rw[Yg];exact aP _ _ _
 have Z2: ∀i,i≠o.at_->W'.V i=W.V i:=fun i h=>by rw[Yg];exact aw _ _ h
 have hx:adh W'.V k=adh W.V k:=Z2 _ J;rw[aaH]at VK;have Iz:=np VK;have R4:ks (bs W.V k/8).toNat (O k) ((bs W.V k+adh W.V k)/8).toNat:=by rw[aaH];exact VK
 have IA:cO F (pr++o'::post)=cO F pr:=by rw[iQ,jr,Y Yf,Aq];simp
 have Us:(cO F (O k)).length=(cO F pr).length+1:=by rw[aaH,iQ,jr,Z aeJ,Aq];simp
 have OS:=kC {(W.XT t).run with list:=cO F pr,n:=(W.XT t).run.n+1,op:=0};obtain⟨r',Ar⟩: ∃r',bP {(W.XT t).run with list:=cO F pr,n:=(W.XT t).run.n+1,op:=0}=r':=⟨_,rfl⟩
 have afe:mC (W.XT t).run r'/\r'.next=(W.XT t).run.next/\r'.fin=(W.XT t).run.fin/\r'.bF=(W.XT t).run.bF/\r'.aC=(W.XT t).run.aC/\r'.said=(W.XT t).run.said/\r'.n=(W.XT t).run.n+1/\r'.op=0/\r'.word=(W.XT t).run.word/\r'.top=(W.XT t).run.top/\r'.list=cO F pr/\(r'.Xj=20/\cO F pr≠ []\/(r'.Xj=22\/r'.Xj=23)/\cO F pr= []):=by
  rw[Ar]at OS;rcases OS with⟨c,e⟩|⟨c,e|e⟩
  ·rw[e];exact⟨⟨rfl,rfl,rfl,rfl,rfl⟩,rfl,rfl,rfl,rfl,rfl,rfl,rfl,rfl,rfl,rfl,.inl ⟨rfl,c⟩⟩
  ·rw[e];exact⟨⟨rfl,rfl,rfl,rfl,rfl⟩,rfl,rfl,rfl,rfl,rfl,rfl,rfl,rfl,rfl,rfl,.inr ⟨.inl rfl,c⟩⟩
  ·rw[e];exact⟨⟨rfl,rfl,rfl,rfl,rfl⟩,rfl,rfl,rfl,rfl,rfl,rfl,rfl,rfl,rfl,rfl,.inr ⟨.inr rfl,c⟩⟩
 obtain⟨f1,f2,f3,f4,f5,f6,f7,f8,f9,f10,f11,f12⟩:=afe;rw[Ar]at Wy⊢;have ae1:put O k (pr++o'::post) k=pr++o'::post:=aP _ _ _;refine⟨put O k (pr++o'::post),VM,aG.loc acA Wy f1 f2 f3 f4 f5 ?_ (fun s YF=>aw _ _ YF) (fun _ _=>rfl) ?_ ?_ ?_ ?_ ?_ ?_ ?_ J ?_ J ?_ ?_ ?_⟩
 ·intro j aeD;have:j=o.at_:=Classical.byContradiction fun c=>aeD (Z2 j c);exact .inr J
 ·rw[hx];exact gk.q7 fZ.1
 ·intro y hy;rw[ae1]at hy;have jP:y=o'\/y∈O k/\y≠o:=by
   rcases List.mem_append.1 hy with h|h
   ·right;refine⟨by rw[aaH];exact cB _ h,fun c=>?_⟩;subst c;have:=kl Iz.1 h;omega
   ·rcases List.mem_cons.1 h with h|h
    ·exact .inl h
    ·right;refine⟨by rw[aaH];simp[h],fun c=>?_⟩;subst c;have:=kl Iz.2 h;omega
  rcases jP with rfl|⟨E8,bo⟩
  ·rw[pX.1];exact⟨KF,abm,by rw[Z2 _ J];exact(gk.hd o mE).2.2⟩
  ·have rm:=nr R4 (fun o ZQ=>(gk.hd o ZQ).1) mE E8;have R5:=(gk.hd y E8).1;unfold Zr.ok at R5;have hd:y.at_≠o.at_/\y.at_+1≠o.at_:=by
    rcases rm with h|h|h
    ·exact absurd h.symm bo
    ·omega
    ·omega
   rw[Z2 _ hd.1,Z2 _ hd.2];exact gk.hd y E8
 ·intro _;rw[ae1,hx];refine tO Iz.1 ⟨pX.1,?_⟩;rw[pX.2.1];exact Iz.2
 ·intro q VX;rw[aeN]at VX;cases VX
 ·intro i;by_cases c:i=o.at_
  ·subst c;rw[abm];have:=Zr.aas KF;omega
  ·rw[Z2 i c];exact aG.S.inv.jd i
 ·intro i hi;by_cases c:i=o.at_
  ·exact⟨k,aG.adz,o',by rw[ae1];simp,by rw[pX.1,c]⟩
  ·rw[Z2 i c]at hi;obtain⟨s,YF,y,sg,jP⟩:=aG.S.inv.qB i hi;by_cases adr:s=k
   ·subst adr;refine⟨s,YF,y,?_,jP⟩;rw[ae1];rw[aaH]at sg;rcases List.mem_append.1 sg with h|h
    ·exact cB _ h
    ·rcases List.mem_cons.1 h with h|h
     ·subst h;exact absurd jP.symm c
     ·exact List.mem_append_right _ (ao _ h)
   ·exact⟨s,YF,y,by rw[aw _ _ adr];exact sg,jP⟩
 ·rw[f6,f7,f8];split
  ·omega
  ·split<;>omega
 ·intro h;omega
 ·intro W2;rcases f12 with⟨h1,aaV⟩|⟨h1,aaV⟩
  ·obtain⟨a,b,c,acL,ZV,Ya⟩:=tQ (F:=F) (L:=pr++o'::post) (by rw[IA];exact aaV);exact .fin a b c h1 aeN (by rw[f9,W2];exact afl) (by rw[f10,W2,hx];exact afq) (by rw[ae1];exact acL) ZV Ya (by rw[ae1,IA];exact f11) J (by rw[f8];have:=(um ZV).2;omega)
  ·exact .rest h1 aeN (by rw[f9,W2];exact afl) (by rw[f10,W2,hx];exact afq) (by rw[ae1,IA];exact aaV) (f11.trans aaV)
 ·rw[ae1,IA,f7];omega
 ·intro h;refine⟨h,fun y hy=>?_⟩;rw[aaH]at hy;rw[ae1];rcases List.mem_append.1 hy with h|h
  ·exact⟨y,cB _ h,rfl,rfl,rfl,rfl⟩
  ·rcases List.mem_cons.1 h with h|h
   ·subst h;exact⟨o',aN,pX.1,pX.2.1,pX.2.2.1,pX.2.2.2.1⟩
   ·exact⟨y,List.mem_append_right _ (ao _ h),rfl,rfl,rfl,rfl⟩
end
end
end
section
theorem nM{G:Prop}(h:G:=by
 rw[Ar]at agf;rcases agf with⟨c,e⟩|⟨c,e⟩
 ·rw[e];exact⟨⟨rfl,rfl,rfl,rfl,rfl⟩,rfl,rfl,rfl,rfl,rfl,rfl,rfl,rfl,.inl ⟨rfl,c⟩⟩
 ·rw[e];exact⟨⟨rfl,rfl,rfl,rfl,rfl⟩,rfl,rfl,rfl,rfl,rfl,rfl,rfl,rfl,.inr ⟨rfl,c⟩⟩):G:=h
theorem rp(r:aax):(r.at_<r.top/\dT r= {r with Xj:=24})\/(r.top<=r.at_/\dT r= {r with Xj:=25}):=by
 unfold dT;by_cases c:r.at_<r.top
 ·exact .inl ⟨c,Z c⟩
 ·exact .inr ⟨J,Y c⟩
section
variable{p:afy}{F:b1}{n:Nat}{W W':Wd}{O:Nat->List Zr}{VM:Nat->Option Nat}{t:Nat}{pre:List bO}{k:Nat}
section
variable(aG:jO p F n W W' O VM t pre k)
include aG
theorem IB(R6:(W.XT t).run.Xj=22)(aeN:VM k=none):dm p F n W W' O VM t:=by
 have e:=aG.one;have Yg:=aG.S.V;have acA:=aG.S.fr;have Wy:=aG.S.acD;have R:=aG.S.inv.acg t aG.S.lt aG.S.busy;have gk:=aG.S.inv.Zt k aG.adz;have aaY:=aG.S.inv.aaY t aG.S.lt;unfold dm;rw[e]at Yg acA Wy⊢;unfold bM at Yg Wy⊢;rw[aB,aB,aB,aB,aB,aB,aB,Z R6,aG.Ap]at Yg Wy⊢;have nJ:up (W.XT t).run.next=Wi W.V k:=by rw[<-aG.w];rfl
 rw[nJ]at Yg Wy⊢;have nL:=gk.ft.ok.hold;have E9:up (W.V (8*k))=Wi W.V k:=rfl;rw[E9]at nL;have b7:=Wy.end_ rfl;have eO:(W'.XT t).aD=(W.XT t).aD:=by rw[b7];exact yu (by show(25:Int)≠0;decide)
 have ky:=eH (T:=p.t.toNat) (t:=t) (by have:=aG.S.lt;omega) Wy.other k;rw[eO]at ky;have pV:=(aG.S.inv.Xf k aG.adX aG.adz).2.1 aG.st;refine⟨O,VM,uk aG.S aG.adz aG.adX (by have:=aG.st;omega) nL (by show(2:Int)<=2;decide) rfl aeN Yg acA Wy.other aG.afY aG.da rfl (by rw[eO];exact aaY) (fun s _=>by rw[eO]) ⟨fun _=>?_,fun h=>?_⟩ (fun h=>?_) ?_ (.inl aG.alone.1) ?_ ?_⟩
 ·show(1:Int)=_;omega
 ·exact absurd (show(2:Int)=3 from h) am
 ·exact absurd (show(2:Int)=3 from h) am
 ·intro _ _ _ hb;rw[b7,eA]at hb;cases hb
 ·rw[b7];exact fj (aG.S.inv.rg t aG.S.lt)
 ·rw[b7,es];exact aG.S.inv.ZS t aG.S.lt
theorem IC(R7:(W.XT t).run.Xj=23)(aeN:VM k=none)(afl:(W.XT t).run.word=bs W.V k)(afq:(W.XT t).run.top=bs W.V k+adh W.V k):dm p F n W W' O VM t:=by
 have e:=aG.one;have Yg:=aG.S.V;have acA:=aG.S.fr;have Wy:=aG.S.acD;have R:=aG.S.inv.acg t aG.S.lt aG.S.busy;have dJ:=R.said;rw[aB,aB]at dJ;have gk:=aG.S.inv.Zt k aG.adz;have bW:=aG.adz;have cx:=aG.st;have VK:=gk.abU J aeN;have afp:=aG.S.inv.eb aG.adz J;have fb:=aG.S.inv.pl.s;unfold dm;rw[e]at Yg acA Wy⊢;unfold bM at Yg Wy⊢;rw[aB,aB,aB,aB,aB,aB,aB,aB,Z R7,aG.Ap]at Yg Wy⊢;have abm:W'.V (8*k+4)=0:=by rw[Yg];exact aP _ _ _
 have Z2: ∀i,i≠8*k+4->W'.V i=W.V i:=fun i h=>by rw[Yg];exact aw _ _ h
 have hx:adh W'.V k=adh W.V k:=Z2 _ J;obtain⟨r',Ar⟩: ∃r',dT {(W.XT t).run with at_:=(W.XT t).run.word}=r':=⟨_,rfl⟩
 have agf:=rp {(W.XT t).run with at_:=(W.XT t).run.word};have afe:mC (W.XT t).run r'/\r'.next=(W.XT t).run.next/\r'.fin=(W.XT t).run.fin/\r'.bF=(W.XT t).run.bF/\r'.aC=(W.XT t).run.aC/\r'.said=(W.XT t).run.said/\r'.n=(W.XT t).run.n/\r'.at_=(W.XT t).run.word/\r'.top=(W.XT t).run.top/\(r'.Xj=24/\(W.XT t).run.word<(W.XT t).run.top\/r'.Xj=25/\(W.XT t).run.top<=(W.XT t).run.word):=by
  exact nM
 obtain⟨f1,f2,f3,f4,f5,f6,f7,f8,f9,f10⟩:=afe;rw[Ar]at Wy⊢;show∃O' dk,sd p F n W W' O O' VM dk t r';have ae1:put VM k (some (bs W.V k/8).toNat) k=some (bs W.V k/8).toNat:=aP _ _ _;refine⟨O,put VM k (some (bs W.V k/8).toNat),aG.loc acA Wy f1 f2 f3 f4 f5 ?_ (fun s YF=>rfl) (fun _ YF=>aw _ _ YF) ?_ ?_ ?_ ?_ ?_ ?_ ?_ (by rw[f7];exact R.n.1) J J ?_ (by rw[f7];omega) ?_⟩
 ·intro j aeD;have:j=8*k+4:=Classical.byContradiction fun c=>aeD (Z2 j c);exact .inl (.inr this)
 ·rw[hx];exact gk.q7 J
 ·intro y hy;have fZ:=aG.S.inv.ht bW hy;rw[Z2 _ J,Z2 _ J];exact gk.hd y hy
 ·intro h;rw[ae1]at h;cases h
 ·intro q VX y hy;rw[ae1]at VX;have fZ:=aG.S.inv.ht bW hy;injection VX with VX
  rw[hx];omega
 ·intro i;by_cases c:i=8*k+4
  ·subst c;rw[abm];decide
  ·rw[Z2 i c];exact aG.S.inv.jd i
 ·intro i hi;by_cases c:i=8*k+4
  ·subst c;rw[abm]at hi;exact absurd (c2 am) hi
  ·rw[Z2 i c]at hi;exact aG.S.inv.qB i hi
 ·rw[f6,f7];split
  ·omega
  ·split<;>omega
 ·intro W2;rw[ae1];rcases f10 with⟨h1,aaV⟩|⟨h1,aaV⟩
  ·exact .zero h1 (by rw[f9,W2,hx];exact afq) (by rw[f8,W2,afl];omega) (by rw[f8,f9];exact aaV) (by rw[f8,afl];omega) (by rw[f8,afl])
  ·refine .last _ (.inl h1) ?_ rfl (fun h=>J);rw[afl,afq]at aaV;cases ZQ:O k with
   |nil=>rfl
   |cons y l=>
    have fZ:=aG.S.inv.ht bW (o:=y) (by rw[ZQ];simp);omega
 ·intro h;rw[ae1]at h;cases h
theorem ID(R8:(W.XT t).run.Xj=24)(afq:(W.XT t).run.top=bs W.V k+adh W.V k)(LK:bs W.V k<=(W.XT t).run.at_)(aH:(W.XT t).run.at_<(W.XT t).run.top)(Ut:(W.XT t).run.at_ %8=0)(aeN:VM k=some ((W.XT t).run.at_/8).toNat):dm p F n W W' O VM t:=by
 have e:=aG.one;have Yg:=aG.S.V;have acA:=aG.S.fr;have Wy:=aG.S.acD;have R:=aG.S.inv.acg t aG.S.lt aG.S.busy;have dJ:=R.said;rw[aB,aB]at dJ;have gk:=aG.S.inv.Zt k aG.adz;have bW:=aG.adz;have cx:=aG.st;have ab6:=gk.ab6 _ aeN;have afp:=aG.S.inv.eb aG.adz J;have fb:=aG.S.inv.pl.s;unfold dm;rw[e]at Yg acA Wy⊢;unfold bM at Yg Wy⊢;rw[aB,aB,aB,aB,aB,aB,aB,aB,aB,Z R8]at Yg Wy⊢;obtain⟨j,aeD⟩: ∃j:Nat,(W.XT t).run.at_=8*j:=⟨((W.XT t).run.at_/8).toNat,J⟩
 have Ck:((W.XT t).run.at_/8).toNat=j:=J;rw[Ck]at Yg Wy aeN ab6⊢;have abm:W'.V j=0:=by rw[Yg];exact aP _ _ _
 have Z2: ∀i,i≠j->W'.V i=W.V i:=fun i h=>by rw[Yg];exact aw _ _ h
 have hx:adh W'.V k=adh W.V k:=Z2 _ J;obtain⟨r',Ar⟩: ∃r',dT {(W.XT t).run with at_:=(W.XT t).run.at_+8}=r':=⟨_,rfl⟩
 have agf:=rp {(W.XT t).run with at_:=(W.XT t).run.at_+8};have afe:mC (W.XT t).run r'/\r'.next=(W.XT t).run.next/\r'.fin=(W.XT t).run.fin/\r'.bF=(W.XT t).run.bF/\r'.aC=(W.XT t).run.aC/\r'.said=(W.XT t).run.said/\r'.n=(W.XT t).run.n/\r'.at_=(W.XT t).run.at_+8/\r'.top=(W.XT t).run.top/\(r'.Xj=24/\(W.XT t).run.at_+8<(W.XT t).run.top\/r'.Xj=25/\(W.XT t).run.top<=(W.XT t).run.at_+8):=by
  exact nM
 obtain⟨f1,f2,f3,f4,f5,f6,f7,f8,f9,f10⟩:=afe;rw[Ar]at Wy⊢;show∃O' dk,sd p F n W W' O O' VM dk t r';obtain⟨L,acY⟩: ∃L,(O k).filter (fun o=>o.at_ !=j)=L:=⟨_,rfl⟩
 have YW: ∀y,y∈L↔y∈O k/\y.at_≠j:=by intro y;rw[<-acY,List.mem_filter];simp
 have ae1:put VM k (some (j+1)) k=some (j+1):=aP _ _ _;have adt:put O k L k=L:=aP _ _ _;refine⟨put O k L,put VM k (some (j+1)),aG.loc acA Wy f1 f2 f3 f4 f5 ?_ (fun s YF=>aw _ _ YF) (fun _ YF=>aw _ _ YF) ?_ ?_ ?_ ?_ ?_ ?_ ?_ (by rw[f7];exact R.n.1) J J ?_ ?_ ?_⟩
 ·intro i hi;have:i=j:=Classical.byContradiction fun c=>hi (Z2 i c);exact .inr J
 ·rw[hx];exact gk.q7 J
 ·intro y hy;rw[adt]at hy;have jP:=(YW y).1 hy;have fZ:=ab6.2.2 y jP.1;rw[Z2 _ jP.2,Z2 _ J];exact gk.hd y jP.1
 ·intro h;rw[ae1]at h;cases h
 ·intro q VX y hy;rw[ae1]at VX;rw[adt]at hy;have jP:=(YW y).1 hy;have fZ:=ab6.2.2 y jP.1;injection VX with VX
  rw[hx];omega
 ·intro i;by_cases c:i=j
  ·subst c;rw[abm];decide
  ·rw[Z2 i c];exact aG.S.inv.jd i
 ·intro i hi;by_cases c:i=j
  ·subst c;rw[abm]at hi;exact absurd (c2 am) hi
  ·rw[Z2 i c]at hi;obtain⟨s,YF,y,sg,jP⟩:=aG.S.inv.qB i hi;by_cases adr:s=k
   ·subst adr;exact⟨s,YF,y,by rw[adt];exact(YW y).2 ⟨sg,by rw[jP];exact c⟩,jP⟩
   ·exact⟨s,YF,y,by rw[aw _ _ adr];exact sg,jP⟩
 ·rw[f6,f7];split
  ·omega
  ·split<;>omega
 ·intro W2;rw[ae1,adt];rcases f10 with⟨h1,aaV⟩|⟨h1,aaV⟩
  ·exact .zero h1 (by rw[f9,W2,hx];exact afq) (by rw[f8,W2];omega) (by rw[f8,f9];exact aaV) (by rw[f8];omega) (by rw[f8];congr 1;omega)
  ·refine .last _ (.inl h1) ?_ rfl (fun h=>J);cases ZQ:L with
   |nil=>rfl
   |cons y l=>
    have jP:=(YW y).1 (by rw[ZQ];simp);have fZ:=ab6.2.2 y jP.1;omega
 ·rw[adt,f7];have:=tg F (O k) (fun o=>o.at_ !=j);rw[acY]at this;omega
 ·intro h;rw[ae1]at h;cases h
theorem IE(R9:(W.XT t).run.Xj=25)(ZQ:O k= []){q:Nat}(aeN:VM k=some q):dm p F n W W' O VM t:=by
 have e:=aG.one;have Yg:=aG.S.V;have acA:=aG.S.fr;have Wy:=aG.S.acD;have R:=aG.S.inv.acg t aG.S.lt aG.S.busy;have dJ:=R.said;rw[aB,aB]at dJ;have gk:=aG.S.inv.Zt k aG.adz;have bW:=aG.adz;have cx:=aG.st;have afp:=aG.S.inv.eb aG.adz J;unfold dm;rw[e]at Yg acA Wy⊢;unfold bM at Yg Wy⊢;rw[aB,aB,aB,aB,aB,aB,aB,aB,aB,aB,Z R9,aG.Ap]at Yg Wy⊢;have abm:W'.V (8*k+3)=0:=by rw[Yg];exact aP _ _ _
 have Z2: ∀i,i≠8*k+3->W'.V i=W.V i:=fun i h=>by rw[Yg];exact aw _ _ h
 have hx:adh W'.V k=0:=abm;refine⟨O,VM,aG.loc acA Wy ⟨rfl,rfl,rfl,rfl,rfl⟩ rfl rfl rfl rfl ?_ (fun s YF=>rfl) (fun _ YF=>rfl) ?_ ?_ ?_ ?_ ?_ ?_ ?_ R.n.1 ?_ ?_ ?_ (ai _) ?_⟩
 ·intro j aeD;have:j=8*k+3:=Classical.byContradiction fun c=>aeD (Z2 j c);exact .inl (.inl this)
 ·rw[hx];omega
 ·intro y hy;rw[ZQ]at hy;cases hy
 ·intro h;rw[aeN]at h;cases h
 ·intro q VX y hy;rw[ZQ]at hy;cases hy
 ·intro i;by_cases c:i=8*k+3
  ·subst c;rw[abm];decide
  ·rw[Z2 i c];exact aG.S.inv.jd i
 ·intro i hi;by_cases c:i=8*k+3
  ·subst c;rw[abm]at hi;exact absurd (c2 am) hi
  ·rw[Z2 i c]at hi;exact aG.S.inv.qB i hi
 ·show(((W.XT t).run.said.length:Nat):Int)<=8*(W.XT t).run.n+(if(26:Int)=20 then(W.XT t).run.op else if(26:Int)=21 then 8 else 0);simpa using dJ
 ·intro h;exact absurd (show(26:Int)<20 from h) am
 ·exact⟨(show(17:Int)<=26 by decide),(show(26:Int)<=26 by decide)⟩
 ·intro W2;exact .last q (.inr rfl) ZQ aeN (fun _=>hx)
 ·intro h;rw[aeN]at h;cases h
theorem IF(Uu:(W.XT t).run.Xj=26)(ZQ:O k= [])(h7:adh W.V k=0){q:Nat}(aeN:VM k=some q):dm p F n W W' O VM t:=by
 have e:=aG.one;have Yg:=aG.S.V;have acA:=aG.S.fr;have Wy:=aG.S.acD;have S:=aG.S;have R:=S.inv.acg t S.lt S.busy;have gk:=S.inv.Zt k aG.adz;have bW:=aG.adz;have aX:=aG.adX;have cx:=aG.st;have aaY:=S.inv.aaY t S.lt;have afp:=S.inv.eb bW J;have fb:=S.inv.pl.s;unfold dm;rw[e]at Yg acA Wy⊢;unfold bM at Yg Wy⊢;rw[aB,aB,aB,aB,aB,aB,aB,aB,aB,aB,aB,aG.Ap]at Yg Wy⊢;have nJ:up (W.XT t).run.next=Wi W.V k:=by rw[<-aG.w];rfl
 rw[nJ]at Yg Wy⊢;have xh:=gk.ft.ok.open_;have E9:up (W.V (8*k))=Wi W.V k:=rfl;rw[E9]at xh;have il:(jX (Wi W.V k)).afB=((Wi W.V k).afB+1)%16777216:=rfl;have OT:(jX (Wi W.V k)).st=1:=rfl;obtain⟨C',Sa⟩: ∃C',jX (Wi W.V k)=C':=⟨_,rfl⟩
 rw[Sa]at Yg Wy xh il OT⊢;have w':W'.V (8*k)=afa C':=by rw[Yg];exact aP _ _ _
 have acd: ∀j,j≠8*k->W'.V j=W.V j:=fun j aeD=>by rw[Yg];exact aw _ _ aeD
 have hh:Wi W'.V k=C':=by unfold Wi;rw[w',ni xh]
 have hx:adh W'.V k=adh W.V k:=acd _ J;have b7:=Wy.end_ rfl;have eO:(W'.XT t).aD=pre:=by rw[b7];exact sQ rfl aG.afY aG.aD
 have ky:=eH (T:=p.t.toNat) (t:=t) (by have:=S.lt;omega) Wy.other k;rw[eO,aG.aD,hw,Z rfl]at ky;have pV:=(S.inv.Xf k aX bW).2.1 cx;refine⟨O,put VM k none,?_,?_,?_,?_⟩
 ·refine S.inv.loc S.lt bW J ?_ acA Wy.other (fun _ _=>rfl) (fun _ YF=>aw _ _ YF) ?_ ?_ (fun h=>J) ?_ ?_ ?_ ?_ ?_ ?_ ?_ ?_ ?_ ?_ ?_ ?_ ?_ ?_ (.inl aG.alone.1) ?_ ?_
  ·intro j aeD;by_cases c:j=8*k
   ·exact .inl (.inl c)
   ·exact absurd (acd j c) aeD
  ·rw[w'];exact xh.w
  ·rw[hh];omega
  ·rw[hx];exact gk.q7 J
  ·intro y hy;rw[ZQ]at hy;cases hy
  ·intro h;rw[hh]at h;omega
  ·intro q VX;rw[aP]at VX;cases VX
  ·rw[hh,aP];exact⟨fun _=>⟨ZQ,rfl⟩,fun _=>rfl⟩
  ·intro _;rw[hx];exact h7
  ·intro j;by_cases c:j=8*k
   ·subst c;rw[w'];have:=xh.aas;omega
   ·rw[acd j c];exact S.inv.jd j
  ·intro j aeD;by_cases c:j=8*k
   ·subst c;rw[w']at aeD;exact absurd (c2 (by have:=xh.aas;omega)) aeD
   ·rw[acd j c]at aeD;exact S.inv.qB j aeD
  ·rw[eO];have:=aG.aD;rw[this]at aaY;exact aaY.pop
  ·intro s YF;rw[eO,aG.aD,hw,Y (fun e=>by injection e with aal;omega)];rfl
  ·intro _;rw[hh];exact⟨fun h=>J,fun h=>J,fun _=>J⟩
  ·intro s YF hd;exact absurd (hd.2.2.2.symm.trans aG.da) J
  ·intro _ ZV;rw[hh]at ZV;omega
  ·intro _ _ hb;rw[b7,eA]at hb;cases hb
  ·rw[b7];exact fj (S.inv.rg t S.lt)
  ·rw[b7,es];exact S.inv.ZS t S.lt
 ·refine⟨fun s YF=>?_,fun s YF KC aaV=>?_⟩
  ·by_cases c:s=k
   ·subst c;rw[hh];exact .inr ⟨il,J⟩
   ·left;unfold Wi;rw[acd _ J]
  ·by_cases c:s=k
   ·subst c;have hb:=gk.ft.ok.afB;have kr:0<=(Wi W.V s).afB/\(Wi W.V s).afB<=16777215:=hb;rw[hh,il]at KC;omega
   ·have:Wi W'.V s=Wi W.V s:=by unfold Wi;rw[acd _ J]
    rw[this,aw _ _ c];exact⟨aaV,fun c5=>⟨c5,fun o ZQ=>⟨o,ZQ,rfl,rfl,rfl,rfl,fun _=>rfl⟩⟩⟩
 ·show _+(W.XT t).run.n.toNat<=_;omega
 ·intro j aeD;have E2:j=8*k:=Classical.byContradiction fun c=>aeD (acd j c);refine⟨k,?_,bW,.inl ⟨J,?_⟩⟩
  ·show about (tell (W.XT t).run 0 (W.XT t).run.n) _=_;unfold about;simp[tell,aG.afY,aG.da]
  ·show(W.XT t).run.call.op≠9;rw[aG.afY];decide
end
theorem As(S:mD p F n W W' O VM t)(afY:(W.XT t).run.call.op=5)(YJ: ∃pre,(W.XT t).aD=pre++ [⟨(W.XT t).run.af,true⟩])(a5:17<=(W.XT t).run.Xj/\(W.XT t).run.Xj<=26)
 (afl:W.V (8*(W.XT t).run.af.toNat)=(W.XT t).run.next)(cx:(Wi W.V (W.XT t).run.af.toNat).st=3)
 (abv:aeH F W.V (O (W.XT t).run.af.toNat) (VM (W.XT t).run.af.toNat) (W.XT t).run.af.toNat (W.XT t).run):dm p F n W W' O VM t:=by
 obtain⟨pre,kc⟩:=YJ;have aaY:=S.inv.aaY t S.lt;have rj:=aaY.each pre _ [] kc;obtain⟨k,XD⟩: ∃k:Nat,(W.XT t).run.af=k:=⟨(W.XT t).run.af.toNat,by have:=rj.1;simp at this;omega⟩
 have jf:(W.XT t).run.af.toNat=k:=J;rw[XD]at kc rj;rw[jf]at afl cx abv;have aG:jO p F n W W' O VM t pre k:=⟨S,afY,kc,XD,a5,afl,cx,rj.2.1,by have:=rj.2.2.1 rfl;simp at this;omega⟩
 cases abv with
 |first a b c=>exact Iu aG a b c
 |top a b c d e=>exact Iv aG a b c d e
 |walk pr o post a b c d e f g=>exact Iw aG a b c d e f g
 |fin pr o post a b c d e f g i j k=>exact Ix aG a b c d e f g i j k
 |mark pr o post a b c d e f g i=>exact Iy aG a b c d e f g i
 |rest a b c d e f=>
  rcases a with a|a
  ·exact IB aG a b
  ·exact IC aG a b c d
 |zero a b c d e f=>exact ID aG a b c d e f
 |last q a b c d=>
  rcases a with a|a
  ·exact IE aG a b c
  ·exact IF aG a b (d a) c
end
end
end Go.Proofs.YtcimojgkeoecfaaGreat
