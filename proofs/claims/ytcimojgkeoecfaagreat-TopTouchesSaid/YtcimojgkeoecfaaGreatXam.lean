import Derived.Test.YtcimojgkeoecfaaGreatXag
import Derived.Deep.CutRange
import Derived.Test.YtcimojgkeoecfaaGreatXai
import Derived.Test.YtcimojgkeoecfaaGreatXal
set_option linter.all false
set_option maxHeartbeats 16000000
set_option maxRecDepth 100000
namespace Go.Proofs.YtcimojgkeoecfaaGreat
section
open Go.RowKit
theorem nv{G:Prop}(h:G:=by
 apply Classical.byContradiction;intro abi;rcases hY b (.inr abi)with ZV|ZV
 ·omega
 ·exact ZV YF):G:=h
structure abN where
 g:Nat
 t:TypeId
 cs:List Value
structure XS where
 p:Nat
 g:Nat
 n:Nat
 V:Nat->Int
def nw(w:World):Option XS->Prop
 |none=>True
 |some A=>ar w A.p A.g A.n A.V
def je(L:List abN)(g:Nat):Prop:= ∀x,x∈L->x.g≠g
theorem je.nil(g:Nat):je [] g:=fun x h=>by cases h
theorem je.cons{L:List abN}{g:Nat}{x:abN}(h:je L g)(Wy:x.g≠g):je (x::L) g:=fun y hy=>by
 rcases List.mem_cons.1 hy with rfl|hy
 ·exact Wy
 ·exact h y hy
structure aah(w0:World)(S:Nat->Prop)(w:World)(A:Option XS)(L:List abN):Prop where
 bC: ∀x,x∈L->ah w x.g x.t x.cs.toArray
 aed:(L.map abN.g).Nodup
 fr: ∀x,x∈L->w0.heap.size<=x.g\/¬S x.g
 Wu:Z1 S w0 w
 VB:nw w A
 WN: ∀a,A=some a->je L a.p/\je L a.g/\(w0.heap.size<=a.g\/¬S a.g)
inductive aco:List abN->Nat->TypeId->List Value->List Value->List abN->Prop
 |here (g t cs cs' L):aco (⟨g,t,cs⟩::L) g t cs cs' (⟨g,t,cs'⟩::L)
 |there (b g t cs cs' L L'):aco L g t cs cs' L'->aco (b::L) g t cs cs' (b::L')
inductive In:List abN->Nat->TypeId->List Value->Prop
 |here (g t cs L):In (⟨g,t,cs⟩::L) g t cs
 |there (b g t cs L):In L g t cs->In (b::L) g t cs
theorem cX{g:Nat}{t:TypeId}{cs:List Value}{L:List abN}:In (⟨g,t,cs⟩::L) g t cs:=In.here _ _ _ _
theorem Rn{g:Nat}{t:TypeId}{cs cs':List Value}{L:List abN}:aco (⟨g,t,cs⟩::L) g t cs cs' (⟨g,t,cs'⟩::L):=aco.here _ _ _ _ _
theorem kw{afg:abN}{g:Nat}{t:TypeId}{cs:List Value}{L:List abN}:In (afg::⟨g,t,cs⟩::L) g t cs:=In.there _ _ _ _ _ (In.here _ _ _ _)
theorem Ro{afg:abN}{g:Nat}{t:TypeId}{cs cs':List Value}{L:List abN}:aco (afg::⟨g,t,cs⟩::L) g t cs cs' (afg::⟨g,t,cs'⟩::L):=aco.there _ _ _ _ _ _ _ (aco.here _ _ _ _ _)
theorem r3{afg acW:abN}{g:Nat}{t:TypeId}{cs:List Value}{L:List abN}:In (afg::acW::⟨g,t,cs⟩::L) g t cs:=In.there _ _ _ _ _ (In.there _ _ _ _ _ (In.here _ _ _ _))
theorem N5{afg acW:abN}{g:Nat}{t:TypeId}{cs cs':List Value}{L:List abN}:aco (afg::acW::⟨g,t,cs⟩::L) g t cs cs' (afg::acW::⟨g,t,cs'⟩::L):=aco.there _ _ _ _ _ _ _ (aco.there _ _ _ _ _ _ _ (aco.here _ _ _ _ _))
theorem N6{afg acW abT:abN}{g:Nat}{t:TypeId}{cs:List Value}{L:List abN}:In (afg::acW::abT::⟨g,t,cs⟩::L) g t cs:=In.there _ _ _ _ _ (In.there _ _ _ _ _ (In.there _ _ _ _ _ (In.here _ _ _ _)))
theorem Rp{afg acW abT:abN}{g:Nat}{t:TypeId}{cs cs':List Value}{L:List abN}:aco (afg::acW::abT::⟨g,t,cs⟩::L) g t cs cs' (afg::acW::abT::⟨g,t,cs'⟩::L):=aco.there _ _ _ _ _ _ _ (aco.there _ _ _ _ _ _ _ (aco.there _ _ _ _ _ _ _ (aco.here _ _ _ _ _)))
theorem Rq{afg acW abT YR:abN}{g:Nat}{t:TypeId}{cs:List Value}{L:List abN}:In (afg::acW::abT::YR::⟨g,t,cs⟩::L) g t cs:=In.there _ _ _ _ _ (In.there _ _ _ _ _ (In.there _ _ _ _ _ (In.there _ _ _ _ _ (In.here _ _ _ _))))
theorem Rr{afg acW abT YR:abN}{g:Nat}{t:TypeId}{cs cs':List Value}{L:List abN}:aco (afg::acW::abT::YR::⟨g,t,cs⟩::L) g t cs cs' (afg::acW::abT::YR::⟨g,t,cs'⟩::L):=aco.there _ _ _ _ _ _ _ (aco.there _ _ _ _ _ _ _ (aco.there _ _ _ _ _ _ _ (aco.there _ _ _ _ _ _ _ (aco.here _ _ _ _ _))))
theorem Rs{afg acW abT YR adv:abN}{g:Nat}{t:TypeId}{cs:List Value}{L:List abN}:In (afg::acW::abT::YR::adv::⟨g,t,cs⟩::L) g t cs:=In.there _ _ _ _ _ (In.there _ _ _ _ _ (In.there _ _ _ _ _ (In.there _ _ _ _ _ (In.there _ _ _ _ _ (In.here _ _ _ _)))))
theorem Rt{afg acW abT YR adv:abN}{g:Nat}{t:TypeId}{cs cs':List Value}{L:List abN}:aco (afg::acW::abT::YR::adv::⟨g,t,cs⟩::L) g t cs cs' (afg::acW::abT::YR::adv::⟨g,t,cs'⟩::L):=aco.there _ _ _ _ _ _ _ (aco.there _ _ _ _ _ _ _ (aco.there _ _ _ _ _ _ _ (aco.there _ _ _ _ _ _ _ (aco.there _ _ _ _ _ _ _ (aco.here _ _ _ _ _)))))
theorem Ru{afg acW abT YR adv WT:abN}{g:Nat}{t:TypeId}{cs:List Value}{L:List abN}:In (afg::acW::abT::YR::adv::WT::⟨g,t,cs⟩::L) g t cs:=In.there _ _ _ _ _ (In.there _ _ _ _ _ (In.there _ _ _ _ _ (In.there _ _ _ _ _ (In.there _ _ _ _ _ (In.there _ _ _ _ _ (In.here _ _ _ _))))))
theorem Rv{afg acW abT YR adv WT:abN}{g:Nat}{t:TypeId}{cs cs':List Value}{L:List abN}:aco (afg::acW::abT::YR::adv::WT::⟨g,t,cs⟩::L) g t cs cs' (afg::acW::abT::YR::adv::WT::⟨g,t,cs'⟩::L):=aco.there _ _ _ _ _ _ _ (aco.there _ _ _ _ _ _ _ (aco.there _ _ _ _ _ _ _ (aco.there _ _ _ _ _ _ _ (aco.there _ _ _ _ _ _ _ (aco.there _ _ _ _ _ _ _ (aco.here _ _ _ _ _))))))
theorem Rw{afg acW abT YR adv WT abB:abN}{g:Nat}{t:TypeId}{cs:List Value}{L:List abN}:In (afg::acW::abT::YR::adv::WT::abB::⟨g,t,cs⟩::L) g t cs:=In.there _ _ _ _ _ (In.there _ _ _ _ _ (In.there _ _ _ _ _ (In.there _ _ _ _ _ (In.there _ _ _ _ _ (In.there _ _ _ _ _ (In.there _ _ _ _ _ (In.here _ _ _ _)))))))
theorem Rx{afg acW abT YR adv WT abB:abN}{g:Nat}{t:TypeId}{cs cs':List Value}{L:List abN}:aco (afg::acW::abT::YR::adv::WT::abB::⟨g,t,cs⟩::L) g t cs cs' (afg::acW::abT::YR::adv::WT::abB::⟨g,t,cs'⟩::L):=aco.there _ _ _ _ _ _ _ (aco.there _ _ _ _ _ _ _ (aco.there _ _ _ _ _ _ _ (aco.there _ _ _ _ _ _ _ (aco.there _ _ _ _ _ _ _ (aco.there _ _ _ _ _ _ _ (aco.there _ _ _ _ _ _ _ (aco.here _ _ _ _ _)))))))
theorem Ry{afg acW abT YR adv WT abB WQ:abN}{g:Nat}{t:TypeId}{cs:List Value}{L:List abN}:In (afg::acW::abT::YR::adv::WT::abB::WQ::⟨g,t,cs⟩::L) g t cs:=In.there _ _ _ _ _ (In.there _ _ _ _ _ (In.there _ _ _ _ _ (In.there _ _ _ _ _ (In.there _ _ _ _ _ (In.there _ _ _ _ _ (In.there _ _ _ _ _ (In.there _ _ _ _ _ (In.here _ _ _ _))))))))
theorem Rz{afg acW abT YR adv WT abB WQ:abN}{g:Nat}{t:TypeId}{cs cs':List Value}{L:List abN}:aco (afg::acW::abT::YR::adv::WT::abB::WQ::⟨g,t,cs⟩::L) g t cs cs' (afg::acW::abT::YR::adv::WT::abB::WQ::⟨g,t,cs'⟩::L):=aco.there _ _ _ _ _ _ _ (aco.there _ _ _ _ _ _ _ (aco.there _ _ _ _ _ _ _ (aco.there _ _ _ _ _ _ _ (aco.there _ _ _ _ _ _ _ (aco.there _ _ _ _ _ _ _ (aco.there _ _ _ _ _ _ _ (aco.there _ _ _ _ _ _ _ (aco.here _ _ _ _ _))))))))
theorem RA{afg acW abT YR adv WT abB WQ aaf:abN}{g:Nat}{t:TypeId}{cs:List Value}{L:List abN}:In (afg::acW::abT::YR::adv::WT::abB::WQ::aaf::⟨g,t,cs⟩::L) g t cs:=In.there _ _ _ _ _ (In.there _ _ _ _ _ (In.there _ _ _ _ _ (In.there _ _ _ _ _ (In.there _ _ _ _ _ (In.there _ _ _ _ _ (In.there _ _ _ _ _ (In.there _ _ _ _ _ (In.there _ _ _ _ _ (In.here _ _ _ _)))))))))
theorem RB{afg acW abT YR adv WT abB WQ aaf:abN}{g:Nat}{t:TypeId}{cs cs':List Value}{L:List abN}:aco (afg::acW::abT::YR::adv::WT::abB::WQ::aaf::⟨g,t,cs⟩::L) g t cs cs' (afg::acW::abT::YR::adv::WT::abB::WQ::aaf::⟨g,t,cs'⟩::L):=aco.there _ _ _ _ _ _ _ (aco.there _ _ _ _ _ _ _ (aco.there _ _ _ _ _ _ _ (aco.there _ _ _ _ _ _ _ (aco.there _ _ _ _ _ _ _ (aco.there _ _ _ _ _ _ _ (aco.there _ _ _ _ _ _ _ (aco.there _ _ _ _ _ _ _ (aco.there _ _ _ _ _ _ _ (aco.here _ _ _ _ _)))))))))
theorem In.mem{L:List abN}{g:Nat}{t:TypeId}{cs:List Value}(h:In L g t cs):(⟨g,t,cs⟩:abN)∈L:=by
 induction h with
 |here=>exact a8
 |there b g t cs L _ aes=>exact ao _ aes
section
variable{L L':List abN}{g:Nat}{t:TypeId}{cs cs':List Value}(h:aco L g t cs cs' L')
include L L' g t cs cs' h
theorem aco.aB:In L g t cs:=by
 induction h with
 |here=>exact .here _ _ _ _
 |there b g t cs cs' L L' _ aes=>exact .there _ _ _ _ _ aes
theorem aco.gs:L'.map abN.g=L.map abN.g:=by
 induction h with
 |here=>rfl
 |there b g t cs cs' L L' _ aes=>simp[aes]
theorem aco.mem(aed:(L.map abN.g).Nodup): ∀x,x∈L'->x=⟨g,t,cs'⟩\/x∈L/\x.g≠g:=by
 induction h with
 |here g t cs cs' L=>
  intro x Wy;rcases List.mem_cons.1 Wy with rfl|Wy
  ·exact .inl rfl
  ·refine .inr ⟨ao _ Wy,fun e=>?_⟩;rw[aS,bS]at aed;exact aed.1 (List.mem_map.2 ⟨x,Wy,e⟩)
 |there b g t cs cs' L L' XJ aes=>
  intro x Wy;rw[aS,bS]at aed;rcases List.mem_cons.1 Wy with rfl|Wy
  ·refine .inr ⟨a8,fun e=>aed.1 (List.mem_map.2 ⟨_,XJ.aB.mem,e.symm⟩)⟩
  ·rcases aes aed.2 x Wy with h|h
   ·exact .inl h
   ·exact .inr ⟨ao _ h.1,h.2⟩
end
theorem ho{L L':List abN}(h:L'.map abN.g=L.map abN.g){g:Nat}(n:je L g):je L' g:=fun x Wy e=>by
 have:g∈L.map abN.g:=by rw[<-h];exact List.mem_map.2 ⟨x,Wy,e⟩
 obtain⟨y,hy,abF⟩:=List.mem_map.1 this;exact n y hy abF
theorem nw.below{w w':World}{A:Option XS}(h:nw w A)(hb:Below w.heap.size w w'):nw w' A:=by
 cases A with
 |none=>exact trivial
 |some a=>exact ar.below h hb h.c9.1 h.c9.2.1
theorem nw.lf{w w':World}{A:Option XS}{g:Nat}(h:nw w A)(hb:ce w.heap.size g w w')(afj: ∀a,A=some a->g≠a.p/\g≠a.g):nw w' A:=by
 cases A with
 |none=>exact trivial
 |some a=>exact ar.lf h hb h.c9.1 h.c9.2.1 (fun e=>(afj a rfl).1 e.symm) (fun e=>(afj a rfl).2 e.symm)
variable{w0 w w':World}{S:Nat->Prop}{A:Option XS}{L L':List abN}
theorem aah.start{A:Option XS}(S:Nat->Prop)(w:World)(h:nw w A)(afj: ∀a,A=some a->¬S a.g):aah w S w A []:=
 ⟨fun x h=>(by cases h),List.nodup_nil,fun x h=>(by cases h),Z1.refl _ _,h,fun a e=>⟨je.nil _,je.nil _,.inr (afj a e)⟩⟩
theorem aah.a0(w:World):aah w (fun _=>True) w none []:=aah.start (A:=none) _ _ trivial (fun a e=>(by cases e))
theorem aah.jY(h:aah w0 S w A L){g:Nat}{t:TypeId}{cs:List Value}(hb:ah w g t cs.toArray)(abi:je L g)(acA:w0.heap.size<=g\/¬S g)(Xg: ∀a,A=some a->g≠a.p/\g≠a.g):aah w0 S w A (⟨g,t,cs⟩::L):=by
 refine⟨fun x Wy=>?_,?_,fun x Wy=>?_,h.Wu,h.VB,fun a e=>?_⟩
 ·rcases List.mem_cons.1 Wy with rfl|Wy
  ·exact hb
  ·exact h.bC x Wy
 ·rw[aS,bS];refine⟨fun hm=>?_,h.aed⟩;obtain⟨y,hy,e⟩:=List.mem_map.1 hm;exact abi y hy e
 ·rcases List.mem_cons.1 Wy with rfl|Wy
  ·exact acA
  ·exact h.fr x Wy
 ·exact⟨(h.WN a e).1.cons (Xg a e).1,(h.WN a e).2.1.cons (Xg a e).2,(h.WN a e).2.2⟩
theorem aah.below(h:aah w0 S w A L)(hb:Below w.heap.size w w'):aah w0 S w' A L:=
 ⟨fun x Wy=>ah.below (h.bC x Wy) hb (h.bC x Wy).lt,h.aed,h.fr,h.Wu.trans (Z1.cg hb),h.VB.below hb,h.WN⟩
theorem nw.drew{w:World}{A:Option XS}(h:nw w A):nw w.drew A:=by
 cases A with
 |none=>exact trivial
 |some a=>exact ar.drew h
section
variable(h:aah w0 S w A L)
include h
theorem aah.drew:aah w0 S w.drew A L:=⟨h.bC,h.aed,h.fr,⟨h.Wu.os,h.Wu.tape,h.Wu.output,h.Wu.size,h.Wu.block⟩,h.VB.drew,h.WN⟩
theorem aah.nx{g:Nat}(afj:w.heap.size<=g):je L g:=fun x Wy e=>by have:=(h.bC x Wy).lt;omega
theorem aah.new(t:TypeId)(ds:List Value):aah w0 S (w.alloc (.cells ds.toArray t)) A (⟨w.heap.size,t,ds⟩::L):=by
 have hb:Below w.heap.size w (w.alloc (.cells ds.toArray t)):=(Below.refl _ _).alloc (ai _) _;refine(h.below hb).jY (ah.new w t ds.toArray) (h.nx (ai _)) (.inl h.Wu.size) fun a e=>?_;subst e;have:=(show ar w a.p a.g a.n a.V from h.VB).c9;constructor<;>omega
theorem aah.hX{g:Nat}{t:TypeId}{cs cs':List Value}(XJ:aco L g t cs cs' L')(hb:ah w' g t cs'.toArray)(Yq:ce w.heap.size g w w'):aah w0 S w' A L':=by
 have hm:=XJ.aB.mem;have w9:=XJ.gs;refine⟨fun x Wy=>?_,by rw[w9];exact h.aed,fun x Wy=>?_,?_,?_,fun a e=>?_⟩
 ·rcases XJ.mem h.aed x Wy with rfl|⟨h1,aaV⟩
  ·exact hb
  ·exact ah.lf (h.bC x h1) Yq (h.bC x h1).lt aaV
 ·rcases XJ.mem h.aed x Wy with rfl|⟨h1,aaV⟩
  ·exact(h.fr ⟨g,t,cs⟩ hm:w0.heap.size<=g\/¬S g)
  ·exact h.fr x h1
 ·refine⟨Yq.os.trans h.Wu.os,Yq.tape.trans h.Wu.tape,Yq.output.trans h.Wu.output,D h.Wu.size Yq.size,fun k ae3 YF=>?_⟩;refine(Yq.block k (aj ae3 h.Wu.size) fun e=>?_).trans (h.Wu.block k ae3 YF);rcases h.fr _ hm with ZV|ZV
  ·simp only at ZV;omega
  ·simp only at ZV;exact ZV (e▸YF)
 ·refine h.VB.lf Yq fun a e=>?_;have:=h.WN a e;exact⟨this.1 _ hm,this.2.1 _ hm⟩
 ·have:=h.WN a e;exact⟨ho w9 this.1,ho w9 this.2.1,this.2.2⟩
theorem aah.drop(YF: ∀x,x∈L'->x∈L)(aed:(L'.map abN.g).Nodup):aah w0 S w A L':=
 ⟨fun x Wy=>h.bC x (YF x Wy),aed,fun x Wy=>h.fr x (YF x Wy),h.Wu,h.VB,fun a e=>⟨fun x Wy=>(h.WN a e).1 x (YF x Wy),fun x Wy=>(h.WN a e).2.1 x (YF x Wy),(h.WN a e).2.2⟩⟩
end
theorem aah.arena{p g n:Nat}{V V':Nat->Int}(h:aah w0 S w (some ⟨p,g,n,V⟩) L)(Xg:ar w' p g n V')(Yq:ce w.heap.size g w w'):aah w0 S w' (some ⟨p,g,n,V'⟩) L:=by
 have WN:=h.WN _ rfl;refine⟨fun x Wy=>ah.lf (h.bC x Wy) Yq (h.bC x Wy).lt (WN.2.1 x Wy),h.aed,h.fr,?_,Xg,fun a e=>?_⟩
 ·refine⟨Yq.os.trans h.Wu.os,Yq.tape.trans h.Wu.tape,Yq.output.trans h.Wu.output,D h.Wu.size Yq.size,fun k ae3 YF=>?_⟩;refine(Yq.block k (aj ae3 h.Wu.size) fun e=>?_).trans (h.Wu.block k ae3 YF);rcases WN.2.2 with ZV|ZV
  ·simp only at ZV;omega
  ·simp only at ZV;exact ZV (e▸YF)
 ·cases e;exact WN
theorem aah.size(h:aah w0 S w A L):w0.heap.size<=w.heap.size:=h.Wu.size
theorem aah.sl(h:aah w0 S w A L){v:Value}{n sz:Nat}{F:Nat->List Value}(YF:acr w0 S v n sz F):acr w S v n sz F:=YF.Wu h.Wu
theorem aah.bB{p g n:Nat}{V:Nat->Int}(h:aah w0 S w (some ⟨p,g,n,V⟩) L):ar w p g n V:=h.VB
theorem aah.b(h:aah w0 S w A L){g:Nat}{t:TypeId}{cs:List Value}(hi:In L g t cs):ah w g t cs.toArray:=h.bC _ hi.mem
def c0(L:List abN)(w:World):Prop:= ∀x,x∈L->ah w x.g x.t x.cs.toArray
theorem c0.at_{L:List abN}{g:Nat}{t:TypeId}{cs:List Value}(hi:In L g t cs): ∀w,c0 L w->ah w g t cs.toArray:=fun w h=>h _ hi.mem
theorem aah.l0{b:abN}(h:aah w0 S w A (b::L)):c0 L w:=fun x Wy=>h.bC x (ao _ Wy)
theorem aah.N7{b c:abN}(h:aah w0 S w A (b::c::L)):c0 L w:=fun x Wy=>h.bC x (ao _ (ao _ Wy))
theorem aah.N8{b c d:abN}(h:aah w0 S w A (b::c::d::L)):c0 L w:=fun x Wy=>h.bC x (ao _ (ao _ (ao _ Wy)))
theorem aah.call{p aa2 n:Nat}{V V':Nat->Int}(h:aah w0 S w (some ⟨p,aa2,n,V⟩) L){g:Nat}{t:TypeId}{cs cs':List Value}(XJ:aco L g t cs cs' L')(hb:ah w' g t cs'.toArray)(Xg:ar w' p aa2 n V')(ae3:Z1 (fun b=>b≠g/\b≠aa2) w w'):aah w0 S w' (some ⟨p,aa2,n,V'⟩) L':=by
 have hm:=XJ.aB.mem;have w9:=XJ.gs;have WN:=h.WN _ rfl;refine⟨fun x Wy=>?_,by rw[w9];exact h.aed,fun x Wy=>?_,⟨ae3.os.trans h.Wu.os,ae3.tape.trans h.Wu.tape,ae3.output.trans h.Wu.output,D h.Wu.size ae3.size,fun b hb YF=>?_⟩,Xg,fun a e=>?_⟩
 ·rcases XJ.mem h.aed x Wy with rfl|⟨h1,aaV⟩
  ·exact hb
  ·exact(ae3.block x.g (h.bC x h1).lt ⟨aaV,WN.2.1 x h1⟩).trans (h.bC x h1)
 ·rcases XJ.mem h.aed x Wy with rfl|⟨h1,aaV⟩
  ·exact(h.fr ⟨g,t,cs⟩ hm:w0.heap.size<=g\/¬S g)
  ·exact h.fr x h1
 ·refine(ae3.block b (aj hb h.Wu.size) ⟨fun e=>?_,fun e=>?_⟩).trans (h.Wu.block b hb YF)
  ·rcases h.fr _ hm with ZV|ZV
   ·simp only at ZV;omega
   ·simp only at ZV;exact ZV (e▸YF)
  ·rcases WN.2.2 with ZV|ZV
   ·simp only at ZV;omega
   ·simp only at ZV;exact ZV (e▸YF)
 ·cases e;exact⟨ho w9 WN.1,ho w9 WN.2.1,WN.2.2⟩
theorem aah.dp{p aa2 n:Nat}{V:Nat->Int}{g:Nat}{t:TypeId}{cs:List Value}(hb:ah w g t cs.toArray)(Xg:ar w p aa2 n V)(h1:g≠p)(aaV:g≠aa2):aah w (fun b=>b≠g/\b≠aa2) w (some ⟨p,aa2,n,V⟩) [⟨g,t,cs⟩]:=
 (aah.start (A:=some ⟨p,aa2,n,V⟩) _ _ Xg fun a e k=>by cases e;exact k.2 rfl).jY hb (je.nil _) (.inr fun k=>k.1 rfl) fun a e=>by cases e;exact⟨h1,aaV⟩
def bq(A:Option XS)(L:List abN)(b:Nat):Prop:=je L b/\∀a,A=some a->b≠a.g
theorem aah.base(h:aah w0 S w A L):aah w (bq A L) w A L:=
 ⟨h.bC,h.aed,fun x Wy=>.inr fun k=>k.1 x Wy rfl,Z1.refl _ _,h.VB,fun a e=>⟨(h.WN a e).1,(h.WN a e).2.1,.inr fun k=>k.2 a e rfl⟩⟩
theorem aah.back{WW:World}{aeQ:Option XS}{L2:List abN}(h:aah w0 S w A L)(k:aah w (bq A L) WW aeQ L2):aah w0 S WW aeQ L2:=by
 have hY: ∀b,w.heap.size<=b\/¬bq A L b->w0.heap.size<=b\/¬S b:=by
  intro b hb;rcases hb with hb|hb
  ·exact .inl (D h.size hb)
  ·by_cases c:je L b
   ·have: ∃a,A=some a/\b=a.g:=by
     apply Classical.byContradiction;intro abi;exact hb ⟨c,fun a e abF=>abi ⟨a,e,abF⟩⟩
    obtain⟨a,e,rfl⟩:=this;exact(h.WN a e).2.2
   ·have: ∃x,x∈L/\x.g=b:=by
     apply Classical.byContradiction;intro abi;exact c fun x Wy e=>abi ⟨x,Wy,e⟩
    obtain⟨x,Wy,rfl⟩:=this;exact h.fr x Wy
 refine⟨k.bC,k.aed,fun x Wy=>hY _ (k.fr x Wy),⟨k.Wu.os.trans h.Wu.os,k.Wu.tape.trans h.Wu.tape,k.Wu.output.trans h.Wu.output,D h.Wu.size k.Wu.size,fun b hb YF=>?_⟩,k.VB,fun a e=>⟨(k.WN a e).1,(k.WN a e).2.1,hY _ (k.WN a e).2.2⟩⟩;refine(k.Wu.block b (aj hb h.Wu.size) ?_).trans (h.Wu.block b hb YF);exact nv
theorem aah.carry(h:aah w0 S w A L){S':Nat->Prop}{v:Value}{n sz:Nat}{F:Nat->List Value}(YF:acr w0 S' v n sz F)(hS: ∀b,b<w0.heap.size->S' b->S b):acr w S' v n sz F:=YF.Wu (h.Wu.mono hS)
theorem aah.old(h:aah w0 S w A L){XZ:Nat->Prop}{v:Value}{n sz:Nat}{F:Nat->List Value}(YF:acr w0 XZ v n sz F)(hS: ∀b,b<w0.heap.size->XZ b->S b):acr w (fun b=>XZ b/\bq A L b) v n sz F:=by
 have h1:acr w0 (fun b=>XZ b/\bq A L b/\S b) v n sz F:=YF.mono fun b hb h1=>by
  have aaV:=hS b hb h1;refine⟨h1,⟨fun x Wy e=>?_,fun a e abF=>?_⟩,aaV⟩
  ·subst e;rcases h.fr x Wy with ZV|ZV
   ·omega
   ·exact ZV aaV
  ·subst abF;rcases(h.WN a e).2.2 with ZV|ZV
   ·omega
   ·exact ZV aaV
 exact(h1.Wu (h.Wu.mono fun b hb h=>h.2.2)).mono fun b _ h=>⟨h.1,h.2.1⟩
theorem aah.ge(h:aah w0 (fun _=>True) w A L){g:Nat}{t:TypeId}{cs:List Value}(hi:In L g t cs):w0.heap.size<=g:=by
 rcases h.fr _ hi.mem with h|h
 ·exact h
 ·exact absurd trivial h
theorem aah.hO(h:aah w0 S w A L){b:Nat}(hb:w.heap.size<=b):w0.heap.size<=b/\bq A L b:=by
 refine⟨D h.size hb,h.nx hb,fun a e abF=>?_⟩;subst e;have:=ar.c9 (w:=w) h.VB;omega
theorem aah.eh(h:aah w0 S w A L){aaM:World}{v:Value}{n sz:Nat}{F:Nat->List Value}(hv:acr aaM (fun b=>w.heap.size<=b) v n sz F):acr aaM (fun b=>w0.heap.size<=b/\bq A L b) v n sz F:=hv.mono fun b _ hb=>h.hO hb
theorem Z1.q9{w w':World}(h:Z1 (fun _=>True) w w'):Below w.heap.size w w':=⟨h.os,h.tape,h.output,h.size,fun k ae3=>h.block k ae3 trivial⟩
theorem aah.all{w0 w:World}{A:Option XS}{L:List abN}(h:aah w0 (fun _=>True) w A L):Below w0.heap.size w0 w:=h.Wu.q9
section
variable{g:Nat}{t:TypeId}{cs:List Value}
include g t cs
theorem aah.ro(h:aah w0 (fun b=>b≠g) w none L)(hb:ah w0 g t cs.toArray)(hi:In L g t cs):Below w0.heap.size w0 w:=by
 refine⟨h.Wu.os,h.Wu.tape,h.Wu.output,h.Wu.size,fun k ae3=>?_⟩;by_cases e:k=g
 ·subst e;exact(show w.heap[k]? =_ from h.bC _ hi.mem).trans (show w0.heap[k]? =_ from hb).symm
 ·exact h.Wu.block k ae3 e
theorem aah.g8(hb:ah w g t cs.toArray):aah w (fun b=>b≠g) w none [⟨g,t,cs⟩]:=
 (aah.start (A:=none) (fun b=>b≠g) w trivial fun a e=>(by cases e)).jY hb (je.nil _) (.inr fun k=>k rfl) fun a e=>(by cases e)
theorem aah.EP(h:aah w0 (fun b=>b≠g) w none L)(hb:ah w0 g t cs.toArray)(hi:In L g t cs){p aa2 n:Nat}{V:Nat->Int}(Xg:ar w0 p aa2 n V):ar w p aa2 n V:=ar.below Xg (h.ro hb hi) Xg.c9.1 Xg.c9.2.1
end
theorem aah.has(h:aah w0 S w A L):c0 L w:=h.bC
theorem aah.jZ(h:aah w0 (fun _=>True) w A L){p g n:Nat}{V:Nat->Int}(Xg:ar w0 p g n V):ar w p g n V:=ar.below Xg h.all Xg.c9.1 Xg.c9.2.1
def dt(a:Act):Operand->Option Value
 |.tmp t=>a.tmps.toList[t]?
 |.const v=>some v
 |.func f=>some (.func (.func f) #[] #[])
 |.global g=>some (.pointer (some ⟨g,0,none⟩))
theorem gF{a:Act}{x:Operand}{v:Value}(h:dt a x=some v):a.eval x=v:=by
 cases x with
 |tmp t=>
  simp only[dt,Array.getElem?_toList]at h;simp[Act.eval,h]
 |const u=>simpa [dt,Act.eval]using h
 |func f=>simpa [dt,Act.eval]using h
 |global g=>simpa [dt,Act.eval]using h
def er(cs:List Value)(off:Nat)(ds:List Value):List Value:=cs.take off++ds++cs.drop (off+ds.length)
variable{P:Program}{o:Oper}{a:Act}{K:Act->World->Prop}{Q:Exit->Act->World->Prop}{ops:Array Oper}{rest:List Oper}
section
variable(h:aah w0 S w A L)
include h
theorem yb(Yn:TypeId)(x:Operand)(ZQ:o.op= .box Yn x)(v:Value)(ds:List Value)(Wy:dt a x=some v)(hv:v.cells=ds.toArray)
 (Z7: ∀g w',aah w0 S w' A (⟨g,Yn,ds⟩::L)->w0.heap.size<=g->K (a.put o.dst (.pointer (some ⟨g,0,none⟩))) w'):Oper.wp P o a w K Q:=by
 have aaV:=Z7 w.heap.size _ (h.new Yn ds) h.size;unfold Oper.wp execOp;simp only[ZQ,gF Wy,Instr.box,newVar,hv];simpa [go_sem]using aaV
theorem xa(dj:o.guard=none)(Yn:TypeId)(x:Operand)(ZQ:o.op= .box Yn x)(v:Value)(ds:List Value)(Wy:dt a x=some v)(hv:v.cells=ds.toArray)
 (Z7: ∀g w',aah w0 S w' A (⟨g,Yn,ds⟩::L)->w0.heap.size<=g->wpList P ops Q rest (a.put o.dst (.pointer (some ⟨g,0,none⟩))) w'):wpList P ops Q (o::rest) a w:=
 wpList_plain dj fun K k=>yb h Yn x ZQ v ds Wy hv fun g w' s afj=>k _ _ (Z7 g w' s afj)
theorem kx(Yn:TypeId)(ZQ:o.op= .alloc Yn)(z:Value)(ds:List Value)(aeN:(P.info? Yn).bind (·.zero)=some z)(hv:z.cells=ds.toArray)
 (Z7: ∀g w',aah w0 S w' A (⟨g,Yn,ds⟩::L)->w0.heap.size<=g->K (a.put o.dst (.pointer (some ⟨g,0,none⟩))) w'):Oper.wp P o a w K Q:=by
 have aaV:=Z7 w.heap.size _ (h.new Yn ds) h.size;cases VX:P.info? Yn with
 |none=>simp[VX]at aeN
 |some i=>
  simp[VX]at aeN;unfold Oper.wp execOp;simp only[ZQ,Instr.alloc,zeroValue,typeInfo,newVar];rw[<-hv]at aaV;simpa [go_sem,VX,aeN]using aaV
theorem tV(dj:o.guard=none)(Yn:TypeId)(ZQ:o.op= .alloc Yn)(z:Value)(ds:List Value)(aeN:(P.info? Yn).bind (·.zero)=some z)(hv:z.cells=ds.toArray)
 (Z7: ∀g w',aah w0 S w' A (⟨g,Yn,ds⟩::L)->w0.heap.size<=g->wpList P ops Q rest (a.put o.dst (.pointer (some ⟨g,0,none⟩))) w'):wpList P ops Q (o::rest) a w:=
 wpList_plain dj fun K k=>kx h Yn ZQ z ds aeN hv fun g w' s afj=>k _ _ (Z7 g w' s afj)
theorem aah.cell{g:Nat}{t:TypeId}{cs:List Value}(hi:In L g t cs){i:Nat}{v:Value}(hv:cs[i]? =some v):w.cell? ⟨g,i,none⟩=some v:=by
 rw[(h.b hi).cell,aE];exact hv
theorem bU(Yn:TypeId)(x:Operand)(ZQ:o.op= .load Yn x)(g off:Nat)(Wy:a.eval x= .pointer (some ⟨g,off,none⟩)){t:TypeId}{cs:List Value}(hi:In L g t cs)(v:Value)(hv:cs[off]? =some v)
 {d:TypeDesc}(hu:P.underlying Yn=some d)(abk:d.isRow=false)(Z7:K (a.put o.dst v) w):Oper.wp P o a w K Q:=by
 have XP:=h.cell hi hv;have yc:(isAgg Yn).run P w= .ok false w:=by
  unfold isAgg;rw[Sem.run_bind,run_underlying hu w];cases d<;>simp_all
 unfold Oper.wp execOp;simp only[ZQ,Wy,Instr.loadAt,Instr.sureAddr,loadVar];simpa [go_sem,Sem.run_bind,yc,XP]using Z7
theorem fm(dj:o.guard=none)(Yn:TypeId)(x:Operand)(ZQ:o.op= .load Yn x)(g off:Nat)(Wy:a.eval x= .pointer (some ⟨g,off,none⟩)){t:TypeId}{cs:List Value}(hi:In L g t cs)(v:Value)(hv:cs[off]? =some v)
 {d:TypeDesc}(hu:P.underlying Yn=some d)(abk:d.isRow=false)(Z7:wpList P ops Q rest (a.put o.dst v) w):wpList P ops Q (o::rest) a w:=
 wpList_plain dj fun K k=>bU h Yn x ZQ g off Wy hi v hv hu abk (k _ _ Z7)
end
theorem xb{cs ds:List Value}{off n:Nat}(h:(cs.drop off).take n=ds): ∀(j:Nat) (v:Value),ds.toArray[j]? =some v->cs.toArray[off+j]? =some v:=by
 intro j v aeD;subst h;rw[aE,List.getElem?_take]at aeD;split at aeD
 ·rw[List.getElem?_drop]at aeD;rw[aE];exact aeD
 ·cases aeD
theorem r4(h:aah w0 S w A L)(Yn:TypeId)(x:Operand)(ZQ:o.op= .load Yn x)(g off n:Nat)(Wy:a.eval x= .pointer (some ⟨g,off,none⟩)){t:TypeId}{cs:List Value}(hi:In L g t cs)(ds:List Value)(hd:(cs.drop off).take n=ds)
 {d:TypeDesc}(hu:P.underlying Yn=some d)(abk:d.isRow=true)(YF:(P.info? Yn).map (·.size)=some ds.length)(Z7:K (a.put o.dst (.agg ds.toArray)) w):Oper.wp P o a w K Q:=
 Cd Yn x ZQ g off Wy (h.b hi) ds.toArray (xb hd) hu abk (by simpa using YF) Z7
theorem jE(h:aah w0 S w A L)(dj:o.guard=none)(Yn:TypeId)(x:Operand)(ZQ:o.op= .load Yn x)(g off n:Nat)(Wy:a.eval x= .pointer (some ⟨g,off,none⟩)){t:TypeId}{cs:List Value}(hi:In L g t cs)(ds:List Value)(hd:(cs.drop off).take n=ds)
 {d:TypeDesc}(hu:P.underlying Yn=some d)(abk:d.isRow=true)(YF:(P.info? Yn).map (·.size)=some ds.length)(Z7:wpList P ops Q rest (a.put o.dst (.agg ds.toArray)) w):wpList P ops Q (o::rest) a w:=
 wpList_plain dj fun K k=>r4 h Yn x ZQ g off n Wy hi ds hd hu abk YF (k _ _ Z7)
theorem sP(cs:List Value)(off:Nat)(ds:List Value):hT cs.toArray off ds.toArray=(er cs off ds).toArray:=by simp[hT,er]
theorem ev(h:aah w0 S w A L)(Yn:TypeId)(x y:Operand)(ZQ:o.op= .store Yn x y)(g off:Nat)(v:Value)(ds:List Value)(Wy:a.eval x= .pointer (some ⟨g,off,none⟩))(hy:dt a y=some v)(hv:v.cells=ds.toArray)
 {t:TypeId}{cs:List Value}(XJ:aco L g t cs (er cs off ds) L')(ed:off+ds.length<=cs.length)(hi:(P.info? Yn).map (·.size)=some ds.length)(h1:ds.all (·.oneCell')=true)
 (Z7: ∀w',aah w0 S w' A L'->K (a.put o.dst undef) w'):Oper.wp P o a w K Q:=
 tJ Yn x y ZQ g off v ds.toArray Wy (gF hy) hv (h.b XJ.aB) (er cs off ds).toArray (by rw[sP]) (by simpa using ed) (by simpa using hi) (by simpa using h1) fun w' b u z=>Z7 w' (h.hX XJ b u)
theorem hp(h:aah w0 S w A L)(dj:o.guard=none)(Yn:TypeId)(x y:Operand)(ZQ:o.op= .store Yn x y)(g off:Nat)(v:Value)(ds:List Value)(Wy:a.eval x= .pointer (some ⟨g,off,none⟩))(hy:dt a y=some v)(hv:v.cells=ds.toArray)
 {t:TypeId}{cs:List Value}(XJ:aco L g t cs (er cs off ds) L')(ed:off+ds.length<=cs.length)(hi:(P.info? Yn).map (·.size)=some ds.length)(h1:ds.all (·.oneCell')=true)
 (Z7: ∀w',aah w0 S w' A L'->wpList P ops Q rest (a.put o.dst undef) w'):wpList P ops Q (o::rest) a w:=
 wpList_plain dj fun K k=>ev h Yn x y ZQ g off v ds Wy hy hv XJ ed hi h1 fun w' s=>k _ _ (Z7 w' s)
section
variable{S':World->Prop}(afl:Region.wanted o (yielded ops a.tmps)=true)(Yn:TypeId)(x:Operand)(ZQ:o.op= .load Yn x)
include S' afl Yn x ZQ
theorem cb(g off:Nat)(Wy:a.eval x= .pointer (some ⟨g,off,none⟩)){t:TypeId}{cs:List Value}
 (hb: ∀w,S' w->ah w g t cs.toArray)(v:Value)(hv:cs[off]? =some v){d:TypeDesc}(hu:P.underlying Yn=some d)(abk:d.isRow=false):YieldsIf P ops S' o v a:=
 .inl ⟨afl,fun w ky=>by
  have XP:w.cell? ⟨g,off,none⟩=some v:=by rw[(hb w ky).cell,aE];exact hv
  have yc:(isAgg Yn).run P w= .ok false w:=by
   unfold isAgg;rw[Sem.run_bind,run_underlying hu w];cases d<;>simp_all
  unfold execOp;simp only[ZQ,Wy,Instr.loadAt,Instr.sureAddr,loadVar];simp[go_sem,Sem.run_bind,yc,XP]⟩
theorem fo(g off n:Nat)(Wy:a.eval x= .pointer (some ⟨g,off,none⟩)){t:TypeId}{cs:List Value}
 (hb: ∀w,S' w->ah w g t cs.toArray)(ds:List Value)(hd:(cs.drop off).take n=ds){d:TypeDesc}(hu:P.underlying Yn=some d)(abk:d.isRow=true)(YF:(P.info? Yn).map (·.size)=some ds.length):YieldsIf P ops S' o (.agg ds.toArray) a:=
 vx afl Yn x ZQ g off Wy hb ds.toArray (xb hd) hu abk (by simpa using YF)
end
end
section
open Go.RowKit
variable{w0 aaM w w':World}{S:Nat->Prop}{A A':Option XS}{L L' L1:List abN}
variable{P:Program}{o:Oper}{a a':Act}{K:Act->World->Prop}{Q:Exit->Act->World->Prop}{ops:Array Oper}{rest:List Oper}
theorem ag{g:Nat}{t:TypeId}{cs:List Value}(h:In L g t cs:=by with_reducible first|exact cX|exact kw|exact r3|exact N6|exact Rq|exact Rs|exact Ru|exact Rw|exact Ry|exact RA):In L g t cs:=h
theorem cf{g:Nat}{t:TypeId}{cs cs':List Value}(h:aco L g t cs cs' L':=by with_reducible first|exact Rn|exact Ro|exact N5|exact Rp|exact Rr|exact Rt|exact Rv|exact Rx|exact Rz|exact RB):aco L g t cs cs' L':=h
section
variable(h:aah w0 S w A L)
include h
theorem Ws(Yn:TypeId){x:Operand}{v:Value}{ds:List Value}{a':Nat->Act}(Z7: ∀g w',aah w0 S w' A (⟨g,Yn,ds⟩::L)->w0.heap.size<=g->wpList P ops Q rest (a' g) w')
 (dj:o.guard=none:=by exact rfl)(ZQ:o.op= .box Yn x:=by exact rfl)(Wy:dt a x=some v:=by exact rfl)(hv:v.cells=ds.toArray:=by exact rfl)
 (Xg: ∀g,a.put o.dst (.pointer (some ⟨g,0,none⟩))=a' g:=by intro g;exact fa):wpList P ops Q (o::rest) a w:=
 xa h dj Yn x ZQ v ds Wy hv fun g w' s afj=>by rw[Xg];exact Z7 g w' s afj
theorem VP{Yn:TypeId}{z:Value}(aeN:(P.info? Yn).bind (·.zero)=some z){ds:List Value}{a':Nat->Act}(Z7: ∀g w',aah w0 S w' A (⟨g,Yn,ds⟩::L)->w0.heap.size<=g->wpList P ops Q rest (a' g) w')
 (dj:o.guard=none:=by exact rfl)(ZQ:o.op= .alloc Yn:=by exact rfl)(hv:z.cells=ds.toArray:=by exact rfl)
 (Xg: ∀g,a.put o.dst (.pointer (some ⟨g,0,none⟩))=a' g:=by intro g;exact fa):wpList P ops Q (o::rest) a w:=
 tV h dj Yn ZQ z ds aeN hv fun g w' s afj=>by rw[Xg];exact Z7 g w' s afj
theorem ac2{Yn:TypeId}{x y:Operand}{g off:Nat}{v:Value}{ds:List Value}{t:TypeId}{cs:List Value}{L0:List abN}(Z7: ∀w',aah w0 S w' A L'->wpList P ops Q rest a' w')
 (dj:o.guard=none:=by exact rfl)(ZQ:o.op= .store Yn x y:=by exact rfl)(Wy:a.eval x= .pointer (some ⟨g,off,none⟩):=by exact rfl)(hy:dt a y=some v:=by exact rfl)(hv:v.cells=ds.toArray:=by exact rfl)
 (XJ:aco L g t cs (er cs off ds) L0:=by exact cf)(aeJ:L0=L':=by exact qZ)
 (ed:off+ds.length<=cs.length:=by exact bQ rfl)(hi:(P.info? Yn).map (·.size)=some ds.length:=by kernel_rfl)(h1:ds.all (·.oneCell')=true:=by first|rfl|(simp[*];done))
 (Xg:a.put o.dst undef=a':=by exact fa):wpList P ops Q (o::rest) a w:=
 hp h dj Yn x y ZQ g off v ds Wy hy hv (aeJ▸XJ) ed hi h1 fun w' s=>by rw[Xg];exact Z7 w' s
end
variable{XC:Region.Mode}{abO:World->Prop}{cM i:Nat}{ls gn:Array Bool}{Wv:Oper}
theorem Xh(i:Nat){v:Value}(h:wpAnyH P XC ops Q abO cM gn a' w)(hi:ops[i]? =some Wv:=by exact rfl)(YF:Region.noSelect ops=true:=by kernel_rfl)(acA:Region.free XC ops ls i=true:=by kernel_rfl)(abk:(Region.ready XC ops ls).contains i=true:=by kernel_rfl)(afl:Region.wanted Wv (yielded ops a.tmps)=true:=by rfl)
 (hy: ∀w,abO w->(execOp a.eval Wv).run P w= .ok (.value v) w:=by intro w Cp;(try dsimp only at Cp);go_simp;(try with_reducible rfl))(WO: ∀c a w,Q (.panic c) (a.put Wv.dst v) w->Q (.panic c) a w:=by first|exact fun _ _ _ h=>h|exact fun _ _ _ h=>dZ (fun t w=>results_none (by kernel_rfl) t _ w) _ _ _ _ _ h)(hS:abO w:=by assumption)
 (Xg:a.put Wv.dst v=a':=by exact et)(YJ:ls.setIfInBounds i true=gn:=by exact eu):wpAnyH P XC ops Q abO (cM+1) ls a w:=
 wpAnyH_take hi YF acA abk WO (.inl ⟨afl,hy⟩) hS (by rw[Xg,YJ];exact h)
theorem afk(i:Nat)(h:wpAnyH P XC ops Q abO cM gn a' w)(hi:ops[i]? =some Wv:=by exact rfl)(YF:Region.noSelect ops=true:=by kernel_rfl)(acA:Region.free XC ops ls i=true:=by kernel_rfl)(abk:(Region.ready XC ops ls).contains i=true:=by kernel_rfl)(afl:Region.wanted Wv (yielded ops a.tmps)=false:=by rfl)
 (WO: ∀c a w,Q (.panic c) (a.put Wv.dst undef) w->Q (.panic c) a w:=by first|exact fun _ _ _ h=>h|exact fun _ _ _ h=>dZ (fun t w=>results_none (by kernel_rfl) t _ w) _ _ _ _ _ h)(hS:abO w:=by assumption)
 (Xg:a.put Wv.dst undef=a':=by exact et)(YJ:ls.setIfInBounds i true=gn:=by exact eu):wpAnyH P XC ops Q abO (cM+1) ls a w:=
 wpAnyH_take hi YF acA abk WO (.inr ⟨afl,rfl⟩) hS (by rw[Xg,YJ];exact h)
theorem RC(i:Nat){Yn:TypeId}{x:Operand}{g off:Nat}{t:TypeId}{cs:List Value}{v:Value}(h:wpAnyH P XC ops Q abO cM gn a' w)(hi:ops[i]? =some Wv:=by exact rfl)(YF:Region.noSelect ops=true:=by kernel_rfl)(acA:Region.free XC ops ls i=true:=by kernel_rfl)(abk:(Region.ready XC ops ls).contains i=true:=by kernel_rfl)(afl:Region.wanted Wv (yielded ops a.tmps)=true:=by rfl)
 (ZQ:Wv.op= .load Yn x:=by exact rfl)(afq:(P.underlying Yn).map TypeDesc.isRow=some false:=by kernel_rfl)(Wy:a.eval x= .pointer (some ⟨g,off,none⟩):=by exact rfl)(hb: ∀w,abO w->ah w g t cs.toArray:=by exact c0.at_ ag)(hv:cs[off]? =some v:=by rfl)(WO: ∀c a w,Q (.panic c) (a.put Wv.dst v) w->Q (.panic c) a w:=by first|exact fun _ _ _ h=>h|exact fun _ _ _ h=>dZ (fun t w=>results_none (by kernel_rfl) t _ w) _ _ _ _ _ h)(hS:abO w:=by assumption)
 (Xg:a.put Wv.dst v=a':=by exact et)(YJ:ls.setIfInBounds i true=gn:=by exact eu):wpAnyH P XC ops Q abO (cM+1) ls a w:=by
 cases hu:P.underlying Yn with
 |none=>simp[hu]at afq
 |some d=>exact wpAnyH_take hi YF acA abk WO (cb afl Yn x ZQ g off Wy hb v hv hu (by simpa [hu]using afq)) hS (by rw[Xg,YJ];exact h)
theorem RD(i n:Nat){Yn:TypeId}{x:Operand}{g off:Nat}{t:TypeId}{cs ds:List Value}(h:wpAnyH P XC ops Q abO cM gn a' w)(hi:ops[i]? =some Wv:=by exact rfl)(YF:Region.noSelect ops=true:=by kernel_rfl)(acA:Region.free XC ops ls i=true:=by kernel_rfl)(abk:(Region.ready XC ops ls).contains i=true:=by kernel_rfl)(afl:Region.wanted Wv (yielded ops a.tmps)=true:=by rfl)
 (ZQ:Wv.op= .load Yn x:=by exact rfl)(afq:(P.underlying Yn).map TypeDesc.isRow=some true:=by kernel_rfl)(aeN:(P.info? Yn).map (·.size)=some n:=by kernel_rfl)(Wy:a.eval x= .pointer (some ⟨g,off,none⟩):=by exact rfl)(hb: ∀w,abO w->ah w g t cs.toArray:=by exact c0.at_ ag)
 (hd:(cs.drop off).take n=ds:=by exact lT)(abi:ds.length=n:=by exact rfl)(WO: ∀c a w,Q (.panic c) (a.put Wv.dst (.agg ds.toArray)) w->Q (.panic c) a w:=by first|exact fun _ _ _ h=>h|exact fun _ _ _ h=>dZ (fun t w=>results_none (by kernel_rfl) t _ w) _ _ _ _ _ h)(hS:abO w:=by assumption)
 (Xg:a.put Wv.dst (.agg ds.toArray)=a':=by exact et)(YJ:ls.setIfInBounds i true=gn:=by exact eu):wpAnyH P XC ops Q abO (cM+1) ls a w:=by
 cases hu:P.underlying Yn with
 |none=>simp[hu]at afq
 |some d=>exact wpAnyH_take hi YF acA abk WO (fo afl Yn x ZQ g off n Wy hb ds hd hu (by simpa [hu]using afq) (by rw[aeN,abi])) hS (by rw[Xg,YJ];exact h)
theorem eE(i:Nat){v:Value}(hi:ops[i]? =some Wv)(hy:YieldsIf P ops abO Wv v a)(h:wpAnyH P XC ops Q abO cM gn a' w)(YF:Region.noSelect ops=true:=by kernel_rfl)(acA:Region.free XC ops ls i=true:=by kernel_rfl)(abk:(Region.ready XC ops ls).contains i=true:=by kernel_rfl)(WO: ∀c a w,Q (.panic c) (a.put Wv.dst v) w->Q (.panic c) a w:=by first|exact fun _ _ _ h=>h|exact fun _ _ _ h=>dZ (fun t w=>results_none (by kernel_rfl) t _ w) _ _ _ _ _ h)(hS:abO w:=by assumption)
 (Xg:a.put Wv.dst v=a':=by exact et)(YJ:ls.setIfInBounds i true=gn:=by exact eu):wpAnyH P XC ops Q abO (cM+1) ls a w:=
 wpAnyH_take hi YF acA abk WO hy hS (by rw[Xg,YJ];exact h)
theorem Zj(aei:List Nat)(h:AllReadyH P XC ops Q abO cM ls a w aei)(abk:Region.ready XC ops ls=aei:=by kernel_rfl)(bo:aei≠ []:=by simp):wpAnyH P XC ops Q abO (cM+1) ls a w:=wpAnyH_ready abk bo h
theorem ea{aei:List Nat}(h: ∀K:Act->World->Prop,Shut (∀a w,abO w->(abO w->wpAnyH P XC ops Q abO cM (ls.setIfInBounds i true) a w)->K a w)->if Region.wanted o (yielded ops a.tmps)=true then Oper.wp P o a w K Q else K (a.put o.dst undef) w)(YF:AllReadyH P XC ops Q abO cM ls a w aei)(ZQ:ops[i]? =some o:=by exact rfl):AllReadyH P XC ops Q abO cM ls a w (i::aei):=.cons ZQ h YF
theorem ei(h: ∀K:Act->World->Prop,Shut (∀a w,abO w->(abO w->wpAnyH P XC ops Q abO cM (ls.setIfInBounds i true) a w)->K a w)->if Region.wanted o (yielded ops a.tmps)=true then Oper.wp P o a w K Q else K (a.put o.dst undef) w)(ZQ:ops[i]? =some o:=by exact rfl):AllReadyH P XC ops Q abO cM ls a w [i]:=.cons ZQ h .nil
theorem abR{X0:Act}(Z7:Shut (∀a w,abO w->(abO w->wpAnyH P XC ops Q abO cM ls a w)->K a w))(h:abO w->wpAnyH P XC ops Q abO cM gn a' w)(hS:abO w:=by first|exact U.has|exact U.l0|exact U.N7|exact U.N8)
 (Xg:X0=a':=by exact et)(YJ:ls=gn:=by exact eu):K X0 w:=Z7.out _ _ hS fun YF=>by rw[Xg,YJ];exact h YF
theorem adB(h:Q .normal a w)(abk:Region.ready XC ops ls= []:=by kernel_rfl):wpAnyH P XC ops Q abO cM ls a w:=wpAnyH_done abk h _
section
variable(h:aah w0 S w A L)
include h
theorem YL{Yn:TypeId}{x:Operand}{g off:Nat}{t:TypeId}{cs:List Value}{v:Value}(Z7:K (a.put o.dst v) w)(afl:Region.wanted o (yielded ops a.tmps)=true:=by rfl)
 (ZQ:o.op= .load Yn x:=by exact rfl)(abk:(P.underlying Yn).map TypeDesc.isRow=some false:=by kernel_rfl)(Wy:a.eval x= .pointer (some ⟨g,off,none⟩):=by exact rfl)(hi:In L g t cs:=by exact ag)(hv:cs[off]? =some v:=by rfl):if Region.wanted o (yielded ops a.tmps)=true then Oper.wp P o a w K Q else K (a.put o.dst undef) w:=by
 rw[Z afl];cases hu:P.underlying Yn with
 |none=>simp[hu]at abk
 |some d=>exact bU h Yn x ZQ g off Wy hi v hv hu (by simpa [hu]using abk) Z7
theorem Wf(n:Nat){Yn:TypeId}{x:Operand}{g off:Nat}{t:TypeId}{cs ds:List Value}(Z7:K (a.put o.dst (.agg ds.toArray)) w)(afl:Region.wanted o (yielded ops a.tmps)=true:=by rfl)
 (ZQ:o.op= .load Yn x:=by exact rfl)(abk:(P.underlying Yn).map TypeDesc.isRow=some true:=by kernel_rfl)(aeN:(P.info? Yn).map (·.size)=some n:=by kernel_rfl)(Wy:a.eval x= .pointer (some ⟨g,off,none⟩):=by exact rfl)(hi:In L g t cs:=by exact ag)
 (hd:(cs.drop off).take n=ds:=by exact lT)(abi:ds.length=n:=by exact rfl):if Region.wanted o (yielded ops a.tmps)=true then Oper.wp P o a w K Q else K (a.put o.dst undef) w:=by
 rw[Z afl];cases hu:P.underlying Yn with
 |none=>simp[hu]at abk
 |some d=>exact r4 h Yn x ZQ g off n Wy hi ds hd hu (by simpa [hu]using abk) (by rw[aeN,abi]) Z7
theorem adV(Yn:TypeId){x:Operand}{v:Value}{ds:List Value}(Z7: ∀g w',aah w0 S w' A (⟨g,Yn,ds⟩::L)->w0.heap.size<=g->K (a.put o.dst (.pointer (some ⟨g,0,none⟩))) w')(afl:Region.wanted o (yielded ops a.tmps)=true:=by rfl)
 (ZQ:o.op= .box Yn x:=by exact rfl)(Wy:dt a x=some v:=by exact rfl)(hv:v.cells=ds.toArray:=by exact rfl):if Region.wanted o (yielded ops a.tmps)=true then Oper.wp P o a w K Q else K (a.put o.dst undef) w:=by
 rw[Z afl];exact yb h Yn x ZQ v ds Wy hv Z7
theorem ZZ{Yn:TypeId}{z:Value}(aeN:(P.info? Yn).bind (·.zero)=some z){ds:List Value}(Z7: ∀g w',aah w0 S w' A (⟨g,Yn,ds⟩::L)->w0.heap.size<=g->K (a.put o.dst (.pointer (some ⟨g,0,none⟩))) w')(afl:Region.wanted o (yielded ops a.tmps)=true:=by rfl)
 (ZQ:o.op= .alloc Yn:=by exact rfl)(hv:z.cells=ds.toArray:=by exact rfl):if Region.wanted o (yielded ops a.tmps)=true then Oper.wp P o a w K Q else K (a.put o.dst undef) w:=by
 rw[Z afl];exact kx h Yn ZQ z ds aeN hv Z7
theorem aaU{Yn:TypeId}{x y:Operand}{g off:Nat}{v:Value}{ds:List Value}{t:TypeId}{cs:List Value}{L0:List abN}(Z7: ∀w',aah w0 S w' A L'->K (a.put o.dst undef) w')(afl:Region.wanted o (yielded ops a.tmps)=true:=by rfl)
 (ZQ:o.op= .store Yn x y:=by exact rfl)(Wy:a.eval x= .pointer (some ⟨g,off,none⟩):=by exact rfl)(hy:dt a y=some v:=by exact rfl)(hv:v.cells=ds.toArray:=by exact rfl)
 (XJ:aco L g t cs (er cs off ds) L0:=by exact cf)(aeJ:L0=L':=by exact qZ)
 (ed:off+ds.length<=cs.length:=by exact bQ rfl)(hi:(P.info? Yn).map (·.size)=some ds.length:=by kernel_rfl)(h1:ds.all (·.oneCell')=true:=by first|rfl|(simp[*];done)):if Region.wanted o (yielded ops a.tmps)=true then Oper.wp P o a w K Q else K (a.put o.dst undef) w:=by
 rw[Z afl];exact ev h Yn x y ZQ g off v ds Wy hy hv (aeJ▸XJ) ed hi h1 Z7
end
def yd(P:Program)(Yn:TypeId):Prop:= ∃d,P.underlying Yn=some d/\d.isRow=false
def ye(P:Program)(Yn:TypeId)(n:Nat):Prop:=(∃d,P.underlying Yn=some d/\d.isRow=true)/\(P.info? Yn).map (·.size)=some n
end
section
open Go.RowKit Tryz
theorem jj:(Tryz.prog.info? 32).bind (·.zero)=some (.agg #[.int .i64 0,.int .i64 0,.int .i64 0,.int .i64 0,.slice none 0 0,.slice none 0 0,.slice none 0 0]):=aM
theorem gg:(Tryz.prog.info? 42).bind (·.zero)=some (.agg #[.int .u8 0,.int .u8 0,.int .u8 0,.int .u8 0,.int .i64 0,.int .i64 0,.int .i64 0]):=aM
theorem tW:(Tryz.prog.info? 44).bind (·.zero)=some (.agg #[.int .i64 0,.int .i64 0,.slice none 0 0]):=aM
theorem BI:(Tryz.prog.info? 46).bind (·.zero)=some (.agg #[.int .i64 0,.int .u8 0,.int .u8 0,.int .u8 0,.int .u8 0,.int .i64 0,.int .i64 0,.int .i64 0,.int .i64 0,.int .i64 0,.int .i64 0,.int .i64 0,.int .i64 0,.slice none 0 0]):=aM
theorem ny:(Tryz.prog.info? 56).bind (·.zero)=some (.agg #[.int .i64 0,.int .i64 0,.int .i64 0,.int .i64 0]):=aM
theorem nz:(Tryz.prog.info? 65).bind (·.zero)=some (.agg #[.slice none 0 0,.int .i64 0,.int .i64 0,.int .i64 0,.int .i64 0,.int .i64 0,.int .i64 0,.int .i64 0,.int .i64 0,.int .i64 0,.int .i64 0,.int .i64 0,.int .i64 0,.int .i64 0,.int .i64 0,.int .i64 0,.int .i64 0,.int .i64 0,.int .i64 0,.int .i64 0,.int .i64 0,.int .i64 0,.int .i64 0,.int .i64 0,.int .i64 0,.int .i64 0,.int .i64 0,.int .i64 0,.int .i64 0,.int .i64 0,.int .i64 0,.int .i64 0,.int .i64 0,.slice none 0 0,.int .u64 0,.int .u64 0,.int .u64 0,.int .u64 0,.int .u64 0,.int .u64 0,.int .u64 0,.int .u64 0,.int .u64 0,.int .u64 0,.int .u64 0,.int .u64 0,.int .u64 0,.int .u64 0,.int .u64 0,.int .u64 0,.slice none 0 0,.slice none 0 0,.slice none 0 0,.slice none 0 0]):=aM
theorem yf:(Tryz.prog.info? 67).bind (·.zero)=some (.agg #[.slice none 0 0,.int .i64 0,.int .i64 0,.int .i64 0,.int .i64 0,.int .i64 0,.int .i64 0,.int .i64 0,.int .i64 0,.int .i64 0,.int .i64 0,.int .i64 0,.int .i64 0,.int .i64 0,.int .i64 0,.int .i64 0,.int .i64 0,.int .i64 0,.int .i64 0,.int .i64 0,.int .i64 0,.int .i64 0,.int .i64 0,.int .i64 0,.int .i64 0,.int .i64 0,.int .i64 0,.int .i64 0,.int .i64 0,.int .i64 0,.int .i64 0,.int .i64 0,.int .i64 0,.slice none 0 0,.int .u64 0,.int .u64 0,.int .u64 0,.int .u64 0,.int .u64 0,.int .u64 0,.int .u64 0,.int .u64 0,.int .u64 0,.int .u64 0,.int .u64 0,.int .u64 0,.int .u64 0,.int .u64 0,.int .u64 0,.int .u64 0,.slice none 0 0,.slice none 0 0,.slice none 0 0,.slice none 0 0,.slice none 0 0,.int .i64 0,.int .i64 0,.int .i64 0,.int .i64 0,.int .i64 0,.int .i64 0,.int .i64 0,.int .i64 0,.int .i64 0,.int .i64 0,.int .i64 0,.int .i64 0,.int .i64 0,.int .i64 0,.int .i64 0,.int .i64 0,.int .i64 0,.int .i64 0,.int .i64 0,.int .i64 0,.int .i64 0,.int .i64 0,.int .i64 0,.int .i64 0,.int .i64 0,.int .i64 0,.int .i64 0,.int .i64 0,.int .i64 0,.int .i64 0,.int .i64 0,.int .i64 0,.slice none 0 0,.int .u64 0,.int .u64 0,.int .u64 0,.int .u64 0,.int .u64 0,.int .u64 0,.int .u64 0,.int .u64 0,.int .u64 0,.int .u64 0,.int .u64 0,.int .u64 0,.int .u64 0,.int .u64 0,.int .u64 0,.int .u64 0,.slice none 0 0,.slice none 0 0,.slice none 0 0,.slice none 0 0,.int .i64 0,.int .i64 0,.int .u8 0,.int .u8 0,.int .u8 0,.int .u8 0,.int .i64 0,.int .i64 0,.int .i64 0,.int .i64 0,.int .i64 0,.int .i64 0,.int .i64 0,.int .i64 0,.slice none 0 0,.bool false]):=aM
theorem EQ:(Tryz.prog.info? 75).bind (·.zero)=some (.agg #[.int .i64 0,.int .i64 0,.int .i64 0]):=aM
theorem gW:(Tryz.prog.info? 91).bind (·.zero)=some (.agg #[.int .i64 0,.int .i64 0,.int .i64 0,.bool false,.int .i64 0,.int .i64 0]):=aM
theorem r5:(Tryz.prog.info? 100).bind (·.zero)=some (.agg #[.int .u8 0,.int .i64 0,.int .i64 0]):=aM
theorem eK:(Tryz.prog.info? 130).bind (·.zero)=some (.agg #[.int .i64 0,.int .i64 0]):=aM
theorem r6:(Tryz.prog.info? 148).bind (·.zero)=some (.agg #[.int .u8 0,.int .u8 0,.int .u8 0,.int .u8 0]):=aM
theorem xc:(Tryz.prog.info? 165).bind (·.zero)=some (.agg #[.int .i64 0,.int .i64 0,.int .i64 0,.int .i64 0,.pointer none]):=aM
theorem nA:(Tryz.prog.info? 198).bind (·.zero)=some (.agg #[.int .u8 0,.int .u8 0,.int .u8 0,.int .u8 0,.int .i64 0,.int .i64 0,.int .i64 0,.int .i64 0,.int .i64 0,.int .u64 0,.int .u64 0,.slice none 0 0,.int .u64 0,.int .u64 0,.int .i64 0,.int .i64 0,.slice none 0 0,.int .i64 0,.slice none 0 0,.int .i64 0,.bool false,.bool false,.bool false,.int .i64 0,.int .i64 0,.slice none 0 0]):=aM
theorem js:(Tryz.prog.info? 236).bind (·.zero)=some (.agg #[.int .i64 0,.int .i64 0,.nilFunc,.int .i64 0,.int .i64 0,.nilFunc,.int .i64 0,.int .i64 0,.nilFunc,.int .i64 0,.int .i64 0,.nilFunc,.int .i64 0,.int .i64 0,.nilFunc]):=aM
theorem ER:(Tryz.prog.info? 250).bind (·.zero)=some (.agg #[.pointer none,.pointer none,.int .u8 0,.int .u8 0,.int .u8 0,.int .u8 0,.int .i64 0,.int .i64 0,.int .i64 0]):=aM
theorem nB:(Tryz.prog.info? 289).bind (·.zero)=some (.agg #[.int .i64 0,.int .i64 0,.int .i64 0,.int .i64 0,.slice none 0 0,.int .u8 0,.int .u8 0,.int .u8 0,.int .u8 0,.int .i64 0,.int .i64 0,.int .i64 0,.int .u64 0,.int .u64 0]):=aM
theorem Ag:(Tryz.prog.info? 298).bind (·.zero)=some (.agg #[.int .u8 0,.int .u8 0]):=aM
theorem Ls:(Tryz.prog.info? 299).bind (·.zero)=some (.agg #[.int .u8 0,.int .u8 0,.int .u8 0,.int .u8 0,.int .u8 0,.int .u8 0,.int .u8 0,.int .u8 0,.int .u8 0,.int .u8 0]):=aM
theorem Lt:(Tryz.prog.info? 308).bind (·.zero)=some (.agg #[.pointer none,.int .i64 0,.int .i64 0,.int .i64 0,.int .i64 0,.int .i64 0]):=aM
theorem tX:(Tryz.prog.info? 344).bind (·.zero)=some (.agg #[.int .u64 0,.int .u64 0,.int .u64 0]):=aM
variable{w0 aaM w w':World}{S:Nat->Prop}{A A':Option XS}{L L' L1:List abN}
variable{o:Oper}{a a':Act}{K:Act->World->Prop}{Q:Exit->Act->World->Prop}{ops:Array Oper}{rest:List Oper}
theorem RE{P:Program}{Yn:TypeId}(h:(P.underlying Yn).map TypeDesc.isRow=some false:=by decide+kernel):yd P Yn:=by
 cases hu:P.underlying Yn with
 |none=>simp[hu]at h
 |some d=>exact⟨d,hu,by simpa [hu]using h⟩
theorem N9{Yn:TypeId}(h:yd prog Yn:=by exact RE):yd prog Yn:=h
theorem Im{P:Program}{Yn:TypeId}{n:Nat}(h1:(P.underlying Yn).map TypeDesc.isRow=some true:=by decide+kernel)(aaV:(P.info? Yn).map (·.size)=some n:=by first
 |(show _=some 1;decide+kernel)|(show _=some 2;decide+kernel)|(show _=some 3;decide+kernel)|(show _=some 4;decide+kernel)|(show _=some 5;decide+kernel)|(show _=some 6;decide+kernel)|(show _=some 7;decide+kernel)|(show _=some 8;decide+kernel)|(show _=some 9;decide+kernel)|(show _=some 10;decide+kernel)|(show _=some 11;decide+kernel)|(show _=some 12;decide+kernel)|(show _=some 13;decide+kernel)|(show _=some 14;decide+kernel)|(show _=some 15;decide+kernel)|(show _=some 16;decide+kernel)|(show _=some 26;decide+kernel)|(show _=some 28;decide+kernel)|(show _=some 32;decide+kernel)|(show _=some 54;decide+kernel)):ye P Yn n:=by
 cases hu:P.underlying Yn with
 |none=>simp[hu]at h1
 |some d=>exact⟨⟨d,hu,by simpa [hu]using h1⟩,aaV⟩
theorem aaO(h:aah w0 S w A L){Yn:TypeId}{x:Operand}{g off:Nat}{t:TypeId}{cs:List Value}{v:Value}(Z7:wpList prog ops Q rest a' w)
 (dj:o.guard=none:=by exact rfl)(ZQ:o.op= .load Yn x:=by exact rfl)(abk:yd prog Yn:=by exact N9)(Wy:a.eval x= .pointer (some ⟨g,off,none⟩):=by exact rfl)(hi:In L g t cs:=by exact ag)(hv:cs[off]? =some v:=by rfl)
 (Xg:a.put o.dst v=a':=by exact fa):wpList prog ops Q (o::rest) a w:=by
 obtain⟨d,hu,hd⟩:=abk;exact fm h dj Yn x ZQ g off Wy hi v hv hu hd (Xg▸Z7)
theorem Ww(h:aah w0 S w A L){Yn:TypeId}{n:Nat}{x:Operand}{g off:Nat}{t:TypeId}{cs ds:List Value}(Z7:wpList prog ops Q rest a' w)
 (dj:o.guard=none:=by exact rfl)(ZQ:o.op= .load Yn x:=by exact rfl)(abk:ye prog Yn n:=by exact Im)(Wy:a.eval x= .pointer (some ⟨g,off,none⟩):=by exact rfl)(hi:In L g t cs:=by exact ag)
 (hd:(cs.drop off).take n=ds:=by exact lT)(YJ:ds.length=n:=by exact rfl)
 (Xg:a.put o.dst (.agg ds.toArray)=a':=by exact fa):wpList prog ops Q (o::rest) a w:=by
 obtain⟨⟨d,hu,RF⟩,YF⟩:=abk;exact jE h dj Yn x ZQ g off n Wy hi ds hd hu RF (by rw[YF,YJ]) (Xg▸Z7)
end
end Go.Proofs.YtcimojgkeoecfaaGreat
