import Derived.Test.YtcimojgkeoecfaaGreatVag
import Derived.Deep.CutRange
import Derived.Test.YtcimojgkeoecfaaGreatVai
import Derived.Test.YtcimojgkeoecfaaGreatVal
set_option linter.all false
set_option maxHeartbeats 16000000
set_option maxRecDepth 100000
namespace Go.Proofs.YtcimojgkeoecfaaGreat
section
open Go.RowKit
theorem nv{G:Prop}(h:G:=by
 apply Classical.byContradiction;intro U4;rcases hY b (.inr U4)with ZV|ZV
 ·omega
 ·exact ZV YF):G:=h
structure PL where
 g:Nat
 t:TypeId
 cs:List Value
structure XS where
 p:Nat
 g:Nat
 n:Nat
 V:Nat->Int
def nw(w:World):Option XS->Prop
 |none=>True
 |some A=>ar w A.p A.g A.n A.V
def je(L:List PL)(g:Nat):Prop:= ∀x,x∈L->x.g≠g
theorem je.nil(g:Nat):je [] g:=fun x h=>by cases h
theorem je.cons{L:List PL}{g:Nat}{x:PL}(h:je L g)(a:x.g≠g):je (x::L) g:=fun y hy=>by
 rcases List.mem_cons.1 hy with rfl|hy
 ·exact a
 ·exact h y hy
structure Bx(w0:World)(S:Nat->Prop)(w:World)(A:Option XS)(L:List PL):Prop where
 bC: ∀x,x∈L->ah w x.g x.t x.cs.toArray
 UH:(L.map PL.g).Nodup
 fr: ∀x,x∈L->w0.heap.size<=x.g\/¬S x.g
 Wu:Z1 S w0 w
 VB:nw w A
 WN: ∀a,A=some a->je L a.p/\je L a.g/\(w0.heap.size<=a.g\/¬S a.g)
inductive Tr:List PL->Nat->TypeId->List Value->List Value->List PL->Prop
 |here (g t cs cs' L):Tr (⟨g,t,cs⟩::L) g t cs cs' (⟨g,t,cs'⟩::L)
 |there (b g t cs cs' L L'):Tr L g t cs cs' L'->Tr (b::L) g t cs cs' (b::L')
inductive In:List PL->Nat->TypeId->List Value->Prop
 |here (g t cs L):In (⟨g,t,cs⟩::L) g t cs
 |there (b g t cs L):In L g t cs->In (b::L) g t cs
theorem cX{g:Nat}{t:TypeId}{cs:List Value}{L:List PL}:In (⟨g,t,cs⟩::L) g t cs:=In.here _ _ _ _
theorem Rn{g:Nat}{t:TypeId}{cs cs':List Value}{L:List PL}:Tr (⟨g,t,cs⟩::L) g t cs cs' (⟨g,t,cs'⟩::L):=Tr.here _ _ _ _ _
theorem kw{a:PL}{g:Nat}{t:TypeId}{cs:List Value}{L:List PL}:In (a::⟨g,t,cs⟩::L) g t cs:=In.there _ _ _ _ _ (In.here _ _ _ _)
theorem Ro{a:PL}{g:Nat}{t:TypeId}{cs cs':List Value}{L:List PL}:Tr (a::⟨g,t,cs⟩::L) g t cs cs' (a::⟨g,t,cs'⟩::L):=Tr.there _ _ _ _ _ _ _ (Tr.here _ _ _ _ _)
theorem r3{b a:PL}{g:Nat}{t:TypeId}{cs:List Value}{L:List PL}:In (b::a::⟨g,t,cs⟩::L) g t cs:=In.there _ _ _ _ _ (In.there _ _ _ _ _ (In.here _ _ _ _))
theorem N5{b a:PL}{g:Nat}{t:TypeId}{cs cs':List Value}{L:List PL}:Tr (b::a::⟨g,t,cs⟩::L) g t cs cs' (b::a::⟨g,t,cs'⟩::L):=Tr.there _ _ _ _ _ _ _ (Tr.there _ _ _ _ _ _ _ (Tr.here _ _ _ _ _))
theorem N6{c b a:PL}{g:Nat}{t:TypeId}{cs:List Value}{L:List PL}:In (c::b::a::⟨g,t,cs⟩::L) g t cs:=In.there _ _ _ _ _ (In.there _ _ _ _ _ (In.there _ _ _ _ _ (In.here _ _ _ _)))
theorem Rp{c b a:PL}{g:Nat}{t:TypeId}{cs cs':List Value}{L:List PL}:Tr (c::b::a::⟨g,t,cs⟩::L) g t cs cs' (c::b::a::⟨g,t,cs'⟩::L):=Tr.there _ _ _ _ _ _ _ (Tr.there _ _ _ _ _ _ _ (Tr.there _ _ _ _ _ _ _ (Tr.here _ _ _ _ _)))
theorem Rq{c b a d:PL}{g:Nat}{t:TypeId}{cs:List Value}{L:List PL}:In (c::b::a::d::⟨g,t,cs⟩::L) g t cs:=In.there _ _ _ _ _ (In.there _ _ _ _ _ (In.there _ _ _ _ _ (In.there _ _ _ _ _ (In.here _ _ _ _))))
theorem Rr{c b a d:PL}{g:Nat}{t:TypeId}{cs cs':List Value}{L:List PL}:Tr (c::b::a::d::⟨g,t,cs⟩::L) g t cs cs' (c::b::a::d::⟨g,t,cs'⟩::L):=Tr.there _ _ _ _ _ _ _ (Tr.there _ _ _ _ _ _ _ (Tr.there _ _ _ _ _ _ _ (Tr.there _ _ _ _ _ _ _ (Tr.here _ _ _ _ _))))
theorem Rs{d b a e c:PL}{g:Nat}{t:TypeId}{cs:List Value}{L:List PL}:In (d::b::a::e::c::⟨g,t,cs⟩::L) g t cs:=In.there _ _ _ _ _ (In.there _ _ _ _ _ (In.there _ _ _ _ _ (In.there _ _ _ _ _ (In.there _ _ _ _ _ (In.here _ _ _ _)))))
theorem Rt{d b a e c:PL}{g:Nat}{t:TypeId}{cs cs':List Value}{L:List PL}:Tr (d::b::a::e::c::⟨g,t,cs⟩::L) g t cs cs' (d::b::a::e::c::⟨g,t,cs'⟩::L):=Tr.there _ _ _ _ _ _ _ (Tr.there _ _ _ _ _ _ _ (Tr.there _ _ _ _ _ _ _ (Tr.there _ _ _ _ _ _ _ (Tr.there _ _ _ _ _ _ _ (Tr.here _ _ _ _ _)))))
theorem Ru{d b a f c e:PL}{g:Nat}{t:TypeId}{cs:List Value}{L:List PL}:In (d::b::a::f::c::e::⟨g,t,cs⟩::L) g t cs:=In.there _ _ _ _ _ (In.there _ _ _ _ _ (In.there _ _ _ _ _ (In.there _ _ _ _ _ (In.there _ _ _ _ _ (In.there _ _ _ _ _ (In.here _ _ _ _))))))
theorem Rv{d b a f c e:PL}{g:Nat}{t:TypeId}{cs cs':List Value}{L:List PL}:Tr (d::b::a::f::c::e::⟨g,t,cs⟩::L) g t cs cs' (d::b::a::f::c::e::⟨g,t,cs'⟩::L):=Tr.there _ _ _ _ _ _ _ (Tr.there _ _ _ _ _ _ _ (Tr.there _ _ _ _ _ _ _ (Tr.there _ _ _ _ _ _ _ (Tr.there _ _ _ _ _ _ _ (Tr.there _ _ _ _ _ _ _ (Tr.here _ _ _ _ _))))))
theorem Rw{e c b h d f a:PL}{g:Nat}{t:TypeId}{cs:List Value}{L:List PL}:In (e::c::b::h::d::f::a::⟨g,t,cs⟩::L) g t cs:=In.there _ _ _ _ _ (In.there _ _ _ _ _ (In.there _ _ _ _ _ (In.there _ _ _ _ _ (In.there _ _ _ _ _ (In.there _ _ _ _ _ (In.there _ _ _ _ _ (In.here _ _ _ _)))))))
theorem Rx{e c b h d f a:PL}{g:Nat}{t:TypeId}{cs cs':List Value}{L:List PL}:Tr (e::c::b::h::d::f::a::⟨g,t,cs⟩::L) g t cs cs' (e::c::b::h::d::f::a::⟨g,t,cs'⟩::L):=Tr.there _ _ _ _ _ _ _ (Tr.there _ _ _ _ _ _ _ (Tr.there _ _ _ _ _ _ _ (Tr.there _ _ _ _ _ _ _ (Tr.there _ _ _ _ _ _ _ (Tr.there _ _ _ _ _ _ _ (Tr.there _ _ _ _ _ _ _ (Tr.here _ _ _ _ _)))))))
theorem Ry{e c b i d h a f:PL}{g:Nat}{t:TypeId}{cs:List Value}{L:List PL}:In (e::c::b::i::d::h::a::f::⟨g,t,cs⟩::L) g t cs:=In.there _ _ _ _ _ (In.there _ _ _ _ _ (In.there _ _ _ _ _ (In.there _ _ _ _ _ (In.there _ _ _ _ _ (In.there _ _ _ _ _ (In.there _ _ _ _ _ (In.there _ _ _ _ _ (In.here _ _ _ _))))))))
theorem Rz{e c b i d h a f:PL}{g:Nat}{t:TypeId}{cs cs':List Value}{L:List PL}:Tr (e::c::b::i::d::h::a::f::⟨g,t,cs⟩::L) g t cs cs' (e::c::b::i::d::h::a::f::⟨g,t,cs'⟩::L):=Tr.there _ _ _ _ _ _ _ (Tr.there _ _ _ _ _ _ _ (Tr.there _ _ _ _ _ _ _ (Tr.there _ _ _ _ _ _ _ (Tr.there _ _ _ _ _ _ _ (Tr.there _ _ _ _ _ _ _ (Tr.there _ _ _ _ _ _ _ (Tr.there _ _ _ _ _ _ _ (Tr.here _ _ _ _ _))))))))
theorem RA{f d c j e i b h a:PL}{g:Nat}{t:TypeId}{cs:List Value}{L:List PL}:In (f::d::c::j::e::i::b::h::a::⟨g,t,cs⟩::L) g t cs:=In.there _ _ _ _ _ (In.there _ _ _ _ _ (In.there _ _ _ _ _ (In.there _ _ _ _ _ (In.there _ _ _ _ _ (In.there _ _ _ _ _ (In.there _ _ _ _ _ (In.there _ _ _ _ _ (In.there _ _ _ _ _ (In.here _ _ _ _)))))))))
theorem RB{f d c j e i b h a:PL}{g:Nat}{t:TypeId}{cs cs':List Value}{L:List PL}:Tr (f::d::c::j::e::i::b::h::a::⟨g,t,cs⟩::L) g t cs cs' (f::d::c::j::e::i::b::h::a::⟨g,t,cs'⟩::L):=Tr.there _ _ _ _ _ _ _ (Tr.there _ _ _ _ _ _ _ (Tr.there _ _ _ _ _ _ _ (Tr.there _ _ _ _ _ _ _ (Tr.there _ _ _ _ _ _ _ (Tr.there _ _ _ _ _ _ _ (Tr.there _ _ _ _ _ _ _ (Tr.there _ _ _ _ _ _ _ (Tr.there _ _ _ _ _ _ _ (Tr.here _ _ _ _ _)))))))))
theorem In.mem{L:List PL}{g:Nat}{t:TypeId}{cs:List Value}(h:In L g t cs):(⟨g,t,cs⟩:PL)∈L:=by
 induction h with
 |here=>exact a8
 |there b g t cs L _ a=>exact ao _ a
section
variable{L L':List PL}{g:Nat}{t:TypeId}{cs cs':List Value}(h:Tr L g t cs cs' L')
include L L' g t cs cs' h
theorem Tr.aB:In L g t cs:=by
 induction h with
 |here=>exact .here _ _ _ _
 |there b g t cs cs' L L' _ a=>exact .there _ _ _ _ _ a
theorem Tr.gs:L'.map PL.g=L.map PL.g:=by
 induction h with
 |here=>rfl
 |there b g t cs cs' L L' _ a=>simp[a]
theorem Tr.mem(a:(L.map PL.g).Nodup): ∀x,x∈L'->x=⟨g,t,cs'⟩\/x∈L/\x.g≠g:=by
 induction h with
 |here g t cs cs' L=>
  intro x c;rcases List.mem_cons.1 c with rfl|c
  ·exact .inl rfl
  ·refine .inr ⟨ao _ c,fun e=>?_⟩;rw[aS,bS]at a;exact a.1 (List.mem_map.2 ⟨x,c,e⟩)
 |there b g t cs cs' L L' f d=>
  intro x c;rw[aS,bS]at a;rcases List.mem_cons.1 c with rfl|c
  ·refine .inr ⟨a8,fun e=>a.1 (List.mem_map.2 ⟨_,f.aB.mem,e.symm⟩)⟩
  ·rcases d a.2 x c with h|h
   ·exact .inl h
   ·exact .inr ⟨ao _ h.1,h.2⟩
end
theorem ho{L L':List PL}(h:L'.map PL.g=L.map PL.g){g:Nat}(n:je L g):je L' g:=fun x b e=>by
 have:g∈L.map PL.g:=by rw[<-h];exact List.mem_map.2 ⟨x,b,e⟩
 obtain⟨y,hy,a⟩:=List.mem_map.1 this;exact n y hy a
theorem nw.below{w w':World}{A:Option XS}(h:nw w A)(hb:Below w.heap.size w w'):nw w' A:=by
 cases A with
 |none=>exact trivial
 |some a=>exact ar.below h hb h.c9.1 h.c9.2.1
theorem nw.lf{w w':World}{A:Option XS}{g:Nat}(h:nw w A)(hb:ce w.heap.size g w w')(b: ∀a,A=some a->g≠a.p/\g≠a.g):nw w' A:=by
 cases A with
 |none=>exact trivial
 |some a=>exact ar.lf h hb h.c9.1 h.c9.2.1 (fun e=>(b a rfl).1 e.symm) (fun e=>(b a rfl).2 e.symm)
variable{w0 w w':World}{S:Nat->Prop}{A:Option XS}{L L':List PL}
theorem Bx.start{A:Option XS}(S:Nat->Prop)(w:World)(h:nw w A)(b: ∀a,A=some a->¬S a.g):Bx w S w A []:=
 ⟨fun x h=>(by cases h),List.nodup_nil,fun x h=>(by cases h),Z1.refl _ _,h,fun a e=>⟨je.nil _,je.nil _,.inr (b a e)⟩⟩
theorem Bx.a0(w:World):Bx w (fun _=>True) w none []:=Bx.start (A:=none) _ _ trivial (fun a e=>(by cases e))
theorem Bx.jY(h:Bx w0 S w A L){g:Nat}{t:TypeId}{cs:List Value}(hb:ah w g t cs.toArray)(c:je L g)(d:w0.heap.size<=g\/¬S g)(f: ∀a,A=some a->g≠a.p/\g≠a.g):Bx w0 S w A (⟨g,t,cs⟩::L):=by
 refine⟨fun x b=>?_,?_,fun x b=>?_,h.Wu,h.VB,fun a e=>?_⟩
 ·rcases List.mem_cons.1 b with rfl|b
  ·exact hb
  ·exact h.bC x b
 ·rw[aS,bS];refine⟨fun hm=>?_,h.UH⟩;obtain⟨y,hy,e⟩:=List.mem_map.1 hm;exact c y hy e
 ·rcases List.mem_cons.1 b with rfl|b
  ·exact d
  ·exact h.fr x b
 ·exact⟨(h.WN a e).1.cons (f a e).1,(h.WN a e).2.1.cons (f a e).2,(h.WN a e).2.2⟩
theorem Bx.below(h:Bx w0 S w A L)(hb:Below w.heap.size w w'):Bx w0 S w' A L:=
 ⟨fun x a=>ah.below (h.bC x a) hb (h.bC x a).lt,h.UH,h.fr,h.Wu.trans (Z1.cg hb),h.VB.below hb,h.WN⟩
theorem nw.drew{w:World}{A:Option XS}(h:nw w A):nw w.drew A:=by
 cases A with
 |none=>exact trivial
 |some a=>exact ar.drew h
section
variable(h:Bx w0 S w A L)
include h
theorem Bx.drew:Bx w0 S w.drew A L:=⟨h.bC,h.UH,h.fr,⟨h.Wu.os,h.Wu.tape,h.Wu.output,h.Wu.size,h.Wu.block⟩,h.VB.drew,h.WN⟩
theorem Bx.nx{g:Nat}(b:w.heap.size<=g):je L g:=fun x a e=>by have:=(h.bC x a).lt;omega
theorem Bx.new(t:TypeId)(ds:List Value):Bx w0 S (w.alloc (.cells ds.toArray t)) A (⟨w.heap.size,t,ds⟩::L):=by
 have hb:Below w.heap.size w (w.alloc (.cells ds.toArray t)):=(Below.refl _ _).alloc (ai _) _;refine(h.below hb).jY (ah.new w t ds.toArray) (h.nx (ai _)) (.inl h.Wu.size) fun a e=>?_;subst e;have:=(show ar w a.p a.g a.n a.V from h.VB).c9;constructor<;>omega
theorem Bx.hX{g:Nat}{t:TypeId}{cs cs':List Value}(f:Tr L g t cs cs' L')(hb:ah w' g t cs'.toArray)(b:ce w.heap.size g w w'):Bx w0 S w' A L':=by
 have hm:=f.aB.mem;have l:=f.gs;refine⟨fun x j=>?_,by rw[l];exact h.UH,fun x j=>?_,?_,?_,fun a e=>?_⟩
 ·rcases f.mem h.UH x j with rfl|⟨h1,c⟩
  ·exact hb
  ·exact ah.lf (h.bC x h1) b (h.bC x h1).lt c
 ·rcases f.mem h.UH x j with rfl|⟨h1,c⟩
  ·exact(h.fr ⟨g,t,cs⟩ hm:w0.heap.size<=g\/¬S g)
  ·exact h.fr x h1
 ·refine⟨b.os.trans h.Wu.os,b.tape.trans h.Wu.tape,b.output.trans h.Wu.output,D h.Wu.size b.size,fun k d m=>?_⟩;refine(b.block k (aj d h.Wu.size) fun e=>?_).trans (h.Wu.block k d m);rcases h.fr _ hm with i|i
  ·simp only at i;omega
  ·simp only at i;exact i (e▸m)
 ·refine h.VB.lf b fun a e=>?_;have:=h.WN a e;exact⟨this.1 _ hm,this.2.1 _ hm⟩
 ·have:=h.WN a e;exact⟨ho l this.1,ho l this.2.1,this.2.2⟩
theorem Bx.drop(c: ∀x,x∈L'->x∈L)(d:(L'.map PL.g).Nodup):Bx w0 S w A L':=
 ⟨fun x b=>h.bC x (c x b),d,fun x b=>h.fr x (c x b),h.Wu,h.VB,fun a e=>⟨fun x b=>(h.WN a e).1 x (c x b),fun x b=>(h.WN a e).2.1 x (c x b),(h.WN a e).2.2⟩⟩
end
theorem Bx.arena{p g n:Nat}{V V':Nat->Int}(h:Bx w0 S w (some ⟨p,g,n,V⟩) L)(l:ar w' p g n V')(b:ce w.heap.size g w w'):Bx w0 S w' (some ⟨p,g,n,V'⟩) L:=by
 have f:=h.WN _ rfl;refine⟨fun x i=>ah.lf (h.bC x i) b (h.bC x i).lt (f.2.1 x i),h.UH,h.fr,?_,l,fun a e=>?_⟩
 ·refine⟨b.os.trans h.Wu.os,b.tape.trans h.Wu.tape,b.output.trans h.Wu.output,D h.Wu.size b.size,fun k c j=>?_⟩;refine(b.block k (aj c h.Wu.size) fun e=>?_).trans (h.Wu.block k c j);rcases f.2.2 with d|d
  ·simp only at d;omega
  ·simp only at d;exact d (e▸j)
 ·cases e;exact f
theorem Bx.size(h:Bx w0 S w A L):w0.heap.size<=w.heap.size:=h.Wu.size
theorem Bx.sl(h:Bx w0 S w A L){v:Value}{n sz:Nat}{F:Nat->List Value}(a:KC w0 S v n sz F):KC w S v n sz F:=a.Wu h.Wu
theorem Bx.bB{p g n:Nat}{V:Nat->Int}(h:Bx w0 S w (some ⟨p,g,n,V⟩) L):ar w p g n V:=h.VB
theorem Bx.b(h:Bx w0 S w A L){g:Nat}{t:TypeId}{cs:List Value}(hi:In L g t cs):ah w g t cs.toArray:=h.bC _ hi.mem
def c0(L:List PL)(w:World):Prop:= ∀x,x∈L->ah w x.g x.t x.cs.toArray
theorem c0.at_{L:List PL}{g:Nat}{t:TypeId}{cs:List Value}(hi:In L g t cs): ∀w,c0 L w->ah w g t cs.toArray:=fun w h=>h _ hi.mem
theorem Bx.l0{b:PL}(h:Bx w0 S w A (b::L)):c0 L w:=fun x a=>h.bC x (ao _ a)
theorem Bx.N7{b c:PL}(h:Bx w0 S w A (b::c::L)):c0 L w:=fun x a=>h.bC x (ao _ (ao _ a))
theorem Bx.N8{b c d:PL}(h:Bx w0 S w A (b::c::d::L)):c0 L w:=fun x a=>h.bC x (ao _ (ao _ (ao _ a)))
theorem Bx.call{p f n:Nat}{V V':Nat->Int}(h:Bx w0 S w (some ⟨p,f,n,V⟩) L){g:Nat}{t:TypeId}{cs cs':List Value}(k:Tr L g t cs cs' L')(hb:ah w' g t cs'.toArray)(q:ar w' p f n V')(c:Z1 (fun b=>b≠g/\b≠f) w w'):Bx w0 S w' (some ⟨p,f,n,V'⟩) L':=by
 have hm:=k.aB.mem;have o:=k.gs;have i:=h.WN _ rfl;refine⟨fun x l=>?_,by rw[o];exact h.UH,fun x l=>?_,⟨c.os.trans h.Wu.os,c.tape.trans h.Wu.tape,c.output.trans h.Wu.output,D h.Wu.size c.size,fun b hb m=>?_⟩,q,fun a e=>?_⟩
 ·rcases k.mem h.UH x l with rfl|⟨h1,j⟩
  ·exact hb
  ·exact(c.block x.g (h.bC x h1).lt ⟨j,i.2.1 x h1⟩).trans (h.bC x h1)
 ·rcases k.mem h.UH x l with rfl|⟨h1,j⟩
  ·exact(h.fr ⟨g,t,cs⟩ hm:w0.heap.size<=g\/¬S g)
  ·exact h.fr x h1
 ·refine(c.block b (aj hb h.Wu.size) ⟨fun e=>?_,fun e=>?_⟩).trans (h.Wu.block b hb m)
  ·rcases h.fr _ hm with d|d
   ·simp only at d;omega
   ·simp only at d;exact d (e▸m)
  ·rcases i.2.2 with d|d
   ·simp only at d;omega
   ·simp only at d;exact d (e▸m)
 ·cases e;exact⟨ho o i.1,ho o i.2.1,i.2.2⟩
theorem Bx.dp{p c n:Nat}{V:Nat->Int}{g:Nat}{t:TypeId}{cs:List Value}(hb:ah w g t cs.toArray)(f:ar w p c n V)(h1:g≠p)(d:g≠c):Bx w (fun b=>b≠g/\b≠c) w (some ⟨p,c,n,V⟩) [⟨g,t,cs⟩]:=
 (Bx.start (A:=some ⟨p,c,n,V⟩) _ _ f fun a e k=>by cases e;exact k.2 rfl).jY hb (je.nil _) (.inr fun k=>k.1 rfl) fun a e=>by cases e;exact⟨h1,d⟩
def bq(A:Option XS)(L:List PL)(b:Nat):Prop:=je L b/\∀a,A=some a->b≠a.g
theorem Bx.base(h:Bx w0 S w A L):Bx w (bq A L) w A L:=
 ⟨h.bC,h.UH,fun x b=>.inr fun k=>k.1 x b rfl,Z1.refl _ _,h.VB,fun a e=>⟨(h.WN a e).1,(h.WN a e).2.1,.inr fun k=>k.2 a e rfl⟩⟩
theorem Bx.back{j:World}{f:Option XS}{L2:List PL}(h:Bx w0 S w A L)(k:Bx w (bq A L) j f L2):Bx w0 S j f L2:=by
 have hY: ∀b,w.heap.size<=b\/¬bq A L b->w0.heap.size<=b\/¬S b:=by
  intro b hb;rcases hb with hb|hb
  ·exact .inl (D h.size hb)
  ·by_cases c:je L b
   ·have: ∃a,A=some a/\b=a.g:=by
     apply Classical.byContradiction;intro U4;exact hb ⟨c,fun a e i=>U4 ⟨a,e,i⟩⟩
    obtain⟨a,e,rfl⟩:=this;exact(h.WN a e).2.2
   ·have: ∃x,x∈L/\x.g=b:=by
     apply Classical.byContradiction;intro U4;exact c fun x d e=>U4 ⟨x,d,e⟩
    obtain⟨x,d,rfl⟩:=this;exact h.fr x d
 refine⟨k.bC,k.UH,fun x d=>hY _ (k.fr x d),⟨k.Wu.os.trans h.Wu.os,k.Wu.tape.trans h.Wu.tape,k.Wu.output.trans h.Wu.output,D h.Wu.size k.Wu.size,fun b hb YF=>?_⟩,k.VB,fun a e=>⟨(k.WN a e).1,(k.WN a e).2.1,hY _ (k.WN a e).2.2⟩⟩;refine(k.Wu.block b (aj hb h.Wu.size) ?_).trans (h.Wu.block b hb YF);exact nv
theorem Bx.carry(h:Bx w0 S w A L){S':Nat->Prop}{v:Value}{n sz:Nat}{F:Nat->List Value}(a:KC w0 S' v n sz F)(hS: ∀b,b<w0.heap.size->S' b->S b):KC w S' v n sz F:=a.Wu (h.Wu.mono hS)
theorem Bx.old(h:Bx w0 S w A L){f:Nat->Prop}{v:Value}{n sz:Nat}{F:Nat->List Value}(j:KC w0 f v n sz F)(hS: ∀b,b<w0.heap.size->f b->S b):KC w (fun b=>f b/\bq A L b) v n sz F:=by
 have h1:KC w0 (fun b=>f b/\bq A L b/\S b) v n sz F:=j.mono fun b hb h1=>by
  have c:=hS b hb h1;refine⟨h1,⟨fun x i e=>?_,fun a e g=>?_⟩,c⟩
  ·subst e;rcases h.fr x i with d|d
   ·omega
   ·exact d c
  ·subst g;rcases(h.WN a e).2.2 with d|d
   ·omega
   ·exact d c
 exact(h1.Wu (h.Wu.mono fun b hb h=>h.2.2)).mono fun b _ h=>⟨h.1,h.2.1⟩
theorem Bx.ge(h:Bx w0 (fun _=>True) w A L){g:Nat}{t:TypeId}{cs:List Value}(hi:In L g t cs):w0.heap.size<=g:=by
 rcases h.fr _ hi.mem with h|h
 ·exact h
 ·exact absurd trivial h
theorem Bx.hO(h:Bx w0 S w A L){b:Nat}(hb:w.heap.size<=b):w0.heap.size<=b/\bq A L b:=by
 refine⟨D h.size hb,h.nx hb,fun a e c=>?_⟩;subst e;have:=ar.c9 (w:=w) h.VB;omega
theorem Bx.eh(h:Bx w0 S w A L){a:World}{v:Value}{n sz:Nat}{F:Nat->List Value}(hv:KC a (fun b=>w.heap.size<=b) v n sz F):KC a (fun b=>w0.heap.size<=b/\bq A L b) v n sz F:=hv.mono fun b _ hb=>h.hO hb
theorem Z1.q9{w w':World}(h:Z1 (fun _=>True) w w'):Below w.heap.size w w':=⟨h.os,h.tape,h.output,h.size,fun k a=>h.block k a trivial⟩
theorem Bx.all{w0 w:World}{A:Option XS}{L:List PL}(h:Bx w0 (fun _=>True) w A L):Below w0.heap.size w0 w:=h.Wu.q9
section
variable{g:Nat}{t:TypeId}{cs:List Value}
include g t cs
theorem Bx.ro(h:Bx w0 (fun b=>b≠g) w none L)(hb:ah w0 g t cs.toArray)(hi:In L g t cs):Below w0.heap.size w0 w:=by
 refine⟨h.Wu.os,h.Wu.tape,h.Wu.output,h.Wu.size,fun k a=>?_⟩;by_cases e:k=g
 ·subst e;exact(show w.heap[k]? =_ from h.bC _ hi.mem).trans (show w0.heap[k]? =_ from hb).symm
 ·exact h.Wu.block k a e
theorem Bx.g8(hb:ah w g t cs.toArray):Bx w (fun b=>b≠g) w none [⟨g,t,cs⟩]:=
 (Bx.start (A:=none) (fun b=>b≠g) w trivial fun a e=>(by cases e)).jY hb (je.nil _) (.inr fun k=>k rfl) fun a e=>(by cases e)
theorem Bx.EP(h:Bx w0 (fun b=>b≠g) w none L)(hb:ah w0 g t cs.toArray)(hi:In L g t cs){p a n:Nat}{V:Nat->Int}(c:ar w0 p a n V):ar w p a n V:=ar.below c (h.ro hb hi) c.c9.1 c.c9.2.1
end
theorem Bx.has(h:Bx w0 S w A L):c0 L w:=h.bC
theorem Bx.jZ(h:Bx w0 (fun _=>True) w A L){p g n:Nat}{V:Nat->Int}(a:ar w0 p g n V):ar w p g n V:=ar.below a h.all a.c9.1 a.c9.2.1
def dt(a:Act):Operand->Option Value
 |.tmp t=>a.tmps.toList[t]?
 |.const v=>some v
 |.func f=>some (.func (.func f) #[] #[])
 |.global g=>some (.pointer (some ⟨g,0,none⟩))
theorem gF{a:Act}{x:Operand}{v:Value}(h:dt a x=some v):a.eval x=v:=by
 cases x with
 |tmp t=>
  simp only[dt,Array.getElem?_toList]at h;simp[Act.eval,h]
 |const u=>simpa [dt,Act.eval]using h
 |func f=>simpa [dt,Act.eval]using h
 |global g=>simpa [dt,Act.eval]using h
def er(cs:List Value)(off:Nat)(ds:List Value):List Value:=cs.take off++ds++cs.drop (off+ds.length)
variable{P:Program}{o:Oper}{a:Act}{K:Act->World->Prop}{Q:Exit->Act->World->Prop}{ops:Array Oper}{rest:List Oper}
section
variable(h:Bx w0 S w A L)
include h
theorem yb(b:TypeId)(x:Operand)(f:o.op= .box b x)(v:Value)(ds:List Value)(d:dt a x=some v)(hv:v.cells=ds.toArray)
 (e: ∀g w',Bx w0 S w' A (⟨g,b,ds⟩::L)->w0.heap.size<=g->K (a.put o.dst (.pointer (some ⟨g,0,none⟩))) w'):Oper.wp P o a w K Q:=by
 have c:=e w.heap.size _ (h.new b ds) h.size;unfold Oper.wp execOp;simp only[f,gF d,Instr.box,newVar,hv];simpa [go_sem]using c
theorem acZ(i:o.guard=none)(b:TypeId)(x:Operand)(f:o.op= .box b x)(v:Value)(ds:List Value)(d:dt a x=some v)(hv:v.cells=ds.toArray)
 (e: ∀g w',Bx w0 S w' A (⟨g,b,ds⟩::L)->w0.heap.size<=g->wpList P ops Q rest (a.put o.dst (.pointer (some ⟨g,0,none⟩))) w'):wpList P ops Q (o::rest) a w:=
 wpList_plain i fun K k=>yb h b x f v ds d hv fun g w' s c=>k _ _ (e g w' s c)
theorem kx(c:TypeId)(j:o.op= .alloc c)(z:Value)(ds:List Value)(b:(P.info? c).bind (·.zero)=some z)(hv:z.cells=ds.toArray)
 (f: ∀g w',Bx w0 S w' A (⟨g,c,ds⟩::L)->w0.heap.size<=g->K (a.put o.dst (.pointer (some ⟨g,0,none⟩))) w'):Oper.wp P o a w K Q:=by
 have d:=f w.heap.size _ (h.new c ds) h.size;cases e:P.info? c with
 |none=>simp[e]at b
 |some i=>
  simp[e]at b;unfold Oper.wp execOp;simp only[j,Instr.alloc,zeroValue,typeInfo,newVar];rw[<-hv]at d;simpa [go_sem,e,b]using d
theorem ab6(i:o.guard=none)(b:TypeId)(f:o.op= .alloc b)(z:Value)(ds:List Value)(c:(P.info? b).bind (·.zero)=some z)(hv:z.cells=ds.toArray)
 (e: ∀g w',Bx w0 S w' A (⟨g,b,ds⟩::L)->w0.heap.size<=g->wpList P ops Q rest (a.put o.dst (.pointer (some ⟨g,0,none⟩))) w'):wpList P ops Q (o::rest) a w:=
 wpList_plain i fun K k=>kx h b f z ds c hv fun g w' s d=>k _ _ (e g w' s d)
theorem Bx.cell{g:Nat}{t:TypeId}{cs:List Value}(hi:In L g t cs){i:Nat}{v:Value}(hv:cs[i]? =some v):w.cell? ⟨g,i,none⟩=some v:=by
 rw[(h.b hi).cell,aE];exact hv
theorem bU(b:TypeId)(x:Operand)(i:o.op= .load b x)(g off:Nat)(c:a.eval x= .pointer (some ⟨g,off,none⟩)){t:TypeId}{cs:List Value}(hi:In L g t cs)(v:Value)(hv:cs[off]? =some v)
 {d:TypeDesc}(hu:P.underlying b=some d)(k:d.isRow=false)(f:K (a.put o.dst v) w):Oper.wp P o a w K Q:=by
 have e:=h.cell hi hv;have j:(isAgg b).run P w= .ok false w:=by
  unfold isAgg;rw[Sem.run_bind,run_underlying hu w];cases d<;>simp_all
 unfold Oper.wp execOp;simp only[i,c,Instr.loadAt,Instr.sureAddr,loadVar];simpa [go_sem,Sem.run_bind,j,e]using f
theorem fm(j:o.guard=none)(b:TypeId)(x:Operand)(i:o.op= .load b x)(g off:Nat)(e:a.eval x= .pointer (some ⟨g,off,none⟩)){t:TypeId}{cs:List Value}(hi:In L g t cs)(v:Value)(hv:cs[off]? =some v)
 {d:TypeDesc}(hu:P.underlying b=some d)(c:d.isRow=false)(f:wpList P ops Q rest (a.put o.dst v) w):wpList P ops Q (o::rest) a w:=
 wpList_plain j fun K k=>bU h b x i g off e hi v hv hu c (k _ _ f)
end
theorem xb{cs ds:List Value}{off n:Nat}(h:(cs.drop off).take n=ds): ∀(j:Nat) (v:Value),ds.toArray[j]? =some v->cs.toArray[off+j]? =some v:=by
 intro j v b;subst h;rw[aE,List.getElem?_take]at b;split at b
 ·rw[List.getElem?_drop]at b;rw[aE];exact b
 ·cases b
theorem r4(h:Bx w0 S w A L)(c:TypeId)(x:Operand)(k:o.op= .load c x)(g off n:Nat)(f:a.eval x= .pointer (some ⟨g,off,none⟩)){t:TypeId}{cs:List Value}(hi:In L g t cs)(ds:List Value)(hd:(cs.drop off).take n=ds)
 {d:TypeDesc}(hu:P.underlying c=some d)(e:d.isRow=true)(i:(P.info? c).map (·.size)=some ds.length)(j:K (a.put o.dst (.agg ds.toArray)) w):Oper.wp P o a w K Q:=
 Cd c x k g off f (h.b hi) ds.toArray (xb hd) hu e (by simpa using i) j
theorem jE(h:Bx w0 S w A L)(l:o.guard=none)(b:TypeId)(x:Operand)(j:o.op= .load b x)(g off n:Nat)(e:a.eval x= .pointer (some ⟨g,off,none⟩)){t:TypeId}{cs:List Value}(hi:In L g t cs)(ds:List Value)(hd:(cs.drop off).take n=ds)
 {d:TypeDesc}(hu:P.underlying b=some d)(c:d.isRow=true)(f:(P.info? b).map (·.size)=some ds.length)(i:wpList P ops Q rest (a.put o.dst (.agg ds.toArray)) w):wpList P ops Q (o::rest) a w:=
 wpList_plain l fun K k=>r4 h b x j g off n e hi ds hd hu c f (k _ _ i)
theorem sP(cs:List Value)(off:Nat)(ds:List Value):hT cs.toArray off ds.toArray=(er cs off ds).toArray:=by simp[hT,er]
theorem ev(h:Bx w0 S w A L)(c:TypeId)(x y:Operand)(i:o.op= .store c x y)(g off:Nat)(v:Value)(ds:List Value)(e:a.eval x= .pointer (some ⟨g,off,none⟩))(hy:dt a y=some v)(hv:v.cells=ds.toArray)
 {t:TypeId}{cs:List Value}(d:Tr L g t cs (er cs off ds) L')(j:off+ds.length<=cs.length)(hi:(P.info? c).map (·.size)=some ds.length)(h1:ds.all (·.oneCell')=true)
 (f: ∀w',Bx w0 S w' A L'->K (a.put o.dst undef) w'):Oper.wp P o a w K Q:=
 tJ c x y i g off v ds.toArray e (gF hy) hv (h.b d.aB) (er cs off ds).toArray (by rw[sP]) (by simpa using j) (by simpa using hi) (by simpa using h1) fun w' b u z=>f w' (h.hX d b u)
theorem hp(h:Bx w0 S w A L)(i:o.guard=none)(b:TypeId)(x y:Operand)(f:o.op= .store b x y)(g off:Nat)(v:Value)(ds:List Value)(c:a.eval x= .pointer (some ⟨g,off,none⟩))(hy:dt a y=some v)(hv:v.cells=ds.toArray)
 {t:TypeId}{cs:List Value}(d:Tr L g t cs (er cs off ds) L')(j:off+ds.length<=cs.length)(hi:(P.info? b).map (·.size)=some ds.length)(h1:ds.all (·.oneCell')=true)
 (e: ∀w',Bx w0 S w' A L'->wpList P ops Q rest (a.put o.dst undef) w'):wpList P ops Q (o::rest) a w:=
 wpList_plain i fun K k=>ev h b x y f g off v ds c hy hv d j hi h1 fun w' s=>k _ _ (e w' s)
section
variable{S':World->Prop}(c:Region.wanted o (yielded ops a.tmps)=true)(b:TypeId)(x:Operand)(e:o.op= .load b x)
include S' c b x e
theorem cb(g off:Nat)(f:a.eval x= .pointer (some ⟨g,off,none⟩)){t:TypeId}{cs:List Value}
 (hb: ∀w,S' w->ah w g t cs.toArray)(v:Value)(hv:cs[off]? =some v){d:TypeDesc}(hu:P.underlying b=some d)(k:d.isRow=false):YieldsIf P ops S' o v a:=
 .inl ⟨c,fun w i=>by
  have h:w.cell? ⟨g,off,none⟩=some v:=by rw[(hb w i).cell,aE];exact hv
  have j:(isAgg b).run P w= .ok false w:=by
   unfold isAgg;rw[Sem.run_bind,run_underlying hu w];cases d<;>simp_all
  unfold execOp;simp only[e,f,Instr.loadAt,Instr.sureAddr,loadVar];simp[go_sem,Sem.run_bind,j,h]⟩
theorem fo(g off n:Nat)(h:a.eval x= .pointer (some ⟨g,off,none⟩)){t:TypeId}{cs:List Value}
 (hb: ∀w,S' w->ah w g t cs.toArray)(ds:List Value)(hd:(cs.drop off).take n=ds){d:TypeDesc}(hu:P.underlying b=some d)(f:d.isRow=true)(i:(P.info? b).map (·.size)=some ds.length):YieldsIf P ops S' o (.agg ds.toArray) a:=
 ac2 c b x e g off h hb ds.toArray (xb hd) hu f (by simpa using i)
end
end
section
open Go.RowKit
variable{w0 l w w':World}{S:Nat->Prop}{A A':Option XS}{L L' L1:List PL}
variable{P:Program}{o:Oper}{a a':Act}{K:Act->World->Prop}{Q:Exit->Act->World->Prop}{ops:Array Oper}{rest:List Oper}
theorem ag{g:Nat}{t:TypeId}{cs:List Value}(h:In L g t cs:=by with_reducible first|exact cX|exact kw|exact r3|exact N6|exact Rq|exact Rs|exact Ru|exact Rw|exact Ry|exact RA):In L g t cs:=h
theorem cf{g:Nat}{t:TypeId}{cs cs':List Value}(h:Tr L g t cs cs' L':=by with_reducible first|exact Rn|exact Ro|exact N5|exact Rp|exact Rr|exact Rt|exact Rv|exact Rx|exact Rz|exact RB):Tr L g t cs cs' L':=h
section
variable(h:Bx w0 S w A L)
include h
theorem Ws(b:TypeId){x:Operand}{v:Value}{ds:List Value}{a':Nat->Act}(f: ∀g w',Bx w0 S w' A (⟨g,b,ds⟩::L)->w0.heap.size<=g->wpList P ops Q rest (a' g) w')
 (j:o.guard=none:=by exact rfl)(i:o.op= .box b x:=by exact rfl)(d:dt a x=some v:=by exact rfl)(hv:v.cells=ds.toArray:=by exact rfl)
 (e: ∀g,a.put o.dst (.pointer (some ⟨g,0,none⟩))=a' g:=by intro g;exact fa):wpList P ops Q (o::rest) a w:=
 acZ h j b x i v ds d hv fun g w' s c=>by rw[e];exact f g w' s c
theorem VP{b:TypeId}{z:Value}(c:(P.info? b).bind (·.zero)=some z){ds:List Value}{a':Nat->Act}(f: ∀g w',Bx w0 S w' A (⟨g,b,ds⟩::L)->w0.heap.size<=g->wpList P ops Q rest (a' g) w')
 (j:o.guard=none:=by exact rfl)(i:o.op= .alloc b:=by exact rfl)(hv:z.cells=ds.toArray:=by exact rfl)
 (e: ∀g,a.put o.dst (.pointer (some ⟨g,0,none⟩))=a' g:=by intro g;exact fa):wpList P ops Q (o::rest) a w:=
 ab6 h j b i z ds c hv fun g w' s d=>by rw[e];exact f g w' s d
theorem Po{b:TypeId}{x y:Operand}{g off:Nat}{v:Value}{ds:List Value}{t:TypeId}{cs:List Value}{L0:List PL}(i: ∀w',Bx w0 S w' A L'->wpList P ops Q rest a' w')
 (k:o.guard=none:=by exact rfl)(j:o.op= .store b x y:=by exact rfl)(d:a.eval x= .pointer (some ⟨g,off,none⟩):=by exact rfl)(hy:dt a y=some v:=by exact rfl)(hv:v.cells=ds.toArray:=by exact rfl)
 (e:Tr L g t cs (er cs off ds) L0:=by exact cf)(c:L0=L':=by exact qZ)
 (m:off+ds.length<=cs.length:=by exact bQ rfl)(hi:(P.info? b).map (·.size)=some ds.length:=by kernel_rfl)(h1:ds.all (·.oneCell')=true:=by first|rfl|(simp[*];done))
 (f:a.put o.dst undef=a':=by exact fa):wpList P ops Q (o::rest) a w:=
 hp h k b x y j g off v ds d hy hv (c▸e) m hi h1 fun w' s=>by rw[f];exact i w' s
end
variable{e:Region.Mode}{b:World->Prop}{j i:Nat}{ls k:Array Bool}{f:Oper}
theorem Xh(i:Nat){v:Value}(h:wpAnyH P e ops Q b j k a' w)(hi:ops[i]? =some f:=by exact rfl)(q:Region.noSelect ops=true:=by kernel_rfl)(g:Region.free e ops ls i=true:=by kernel_rfl)(d:(Region.ready e ops ls).contains i=true:=by kernel_rfl)(m:Region.wanted f (yielded ops a.tmps)=true:=by rfl)
 (hy: ∀w,b w->(execOp a.eval f).run P w= .ok (.value v) w:=by intro w Cp;(try dsimp only at Cp);go_simp;(try with_reducible rfl))(n: ∀c a w,Q (.panic c) (a.put f.dst v) w->Q (.panic c) a w:=by first|exact fun _ _ _ h=>h|exact fun _ _ _ h=>dZ (fun t w=>results_none (by kernel_rfl) t _ w) _ _ _ _ _ h)(hS:b w:=by assumption)
 (p:a.put f.dst v=a':=by exact et)(r:ls.setIfInBounds i true=k:=by exact eu):wpAnyH P e ops Q b (j+1) ls a w:=
 wpAnyH_take hi q g d n (.inl ⟨m,hy⟩) hS (by rw[p,r];exact h)
theorem ub(i:Nat)(h:wpAnyH P e ops Q b j k a' w)(hi:ops[i]? =some f:=by exact rfl)(q:Region.noSelect ops=true:=by kernel_rfl)(g:Region.free e ops ls i=true:=by kernel_rfl)(d:(Region.ready e ops ls).contains i=true:=by kernel_rfl)(m:Region.wanted f (yielded ops a.tmps)=false:=by rfl)
 (n: ∀c a w,Q (.panic c) (a.put f.dst undef) w->Q (.panic c) a w:=by first|exact fun _ _ _ h=>h|exact fun _ _ _ h=>dZ (fun t w=>results_none (by kernel_rfl) t _ w) _ _ _ _ _ h)(hS:b w:=by assumption)
 (p:a.put f.dst undef=a':=by exact et)(r:ls.setIfInBounds i true=k:=by exact eu):wpAnyH P e ops Q b (j+1) ls a w:=
 wpAnyH_take hi q g d n (.inr ⟨m,rfl⟩) hS (by rw[p,r];exact h)
theorem RC(i:Nat){n:TypeId}{x:Operand}{g off:Nat}{t:TypeId}{cs:List Value}{v:Value}(h:wpAnyH P e ops Q b j k a' w)(hi:ops[i]? =some f:=by exact rfl)(z:Region.noSelect ops=true:=by kernel_rfl)(q:Region.free e ops ls i=true:=by kernel_rfl)(p:(Region.ready e ops ls).contains i=true:=by kernel_rfl)(r:Region.wanted f (yielded ops a.tmps)=true:=by rfl)
 (C:f.op= .load n x:=by exact rfl)(m:(P.underlying n).map TypeDesc.isRow=some false:=by kernel_rfl)(u:a.eval x= .pointer (some ⟨g,off,none⟩):=by exact rfl)(hb: ∀w,b w->ah w g t cs.toArray:=by exact c0.at_ ag)(hv:cs[off]? =some v:=by rfl)(s: ∀c a w,Q (.panic c) (a.put f.dst v) w->Q (.panic c) a w:=by first|exact fun _ _ _ h=>h|exact fun _ _ _ h=>dZ (fun t w=>results_none (by kernel_rfl) t _ w) _ _ _ _ _ h)(hS:b w:=by assumption)
 (y:a.put f.dst v=a':=by exact et)(B:ls.setIfInBounds i true=k:=by exact eu):wpAnyH P e ops Q b (j+1) ls a w:=by
 cases hu:P.underlying n with
 |none=>simp[hu]at m
 |some d=>exact wpAnyH_take hi z q p s (cb r n x C g off u hb v hv hu (by simpa [hu]using m)) hS (by rw[y,B];exact h)
theorem RD(i n:Nat){m:TypeId}{x:Operand}{g off:Nat}{t:TypeId}{cs ds:List Value}(h:wpAnyH P e ops Q b j k a' w)(hi:ops[i]? =some f:=by exact rfl)(C:Region.noSelect ops=true:=by kernel_rfl)(s:Region.free e ops ls i=true:=by kernel_rfl)(r:(Region.ready e ops ls).contains i=true:=by kernel_rfl)(v:Region.wanted f (yielded ops a.tmps)=true:=by rfl)
 (G:f.op= .load m x:=by exact rfl)(p:(P.underlying m).map TypeDesc.isRow=some true:=by kernel_rfl)(u:(P.info? m).map (·.size)=some n:=by kernel_rfl)(z:a.eval x= .pointer (some ⟨g,off,none⟩):=by exact rfl)(hb: ∀w,b w->ah w g t cs.toArray:=by exact c0.at_ ag)
 (hd:(cs.drop off).take n=ds:=by exact lT)(q:ds.length=n:=by exact rfl)(y: ∀c a w,Q (.panic c) (a.put f.dst (.agg ds.toArray)) w->Q (.panic c) a w:=by first|exact fun _ _ _ h=>h|exact fun _ _ _ h=>dZ (fun t w=>results_none (by kernel_rfl) t _ w) _ _ _ _ _ h)(hS:b w:=by assumption)
 (B:a.put f.dst (.agg ds.toArray)=a':=by exact et)(F:ls.setIfInBounds i true=k:=by exact eu):wpAnyH P e ops Q b (j+1) ls a w:=by
 cases hu:P.underlying m with
 |none=>simp[hu]at p
 |some d=>exact wpAnyH_take hi C s r y (fo v m x G g off n z hb ds hd hu (by simpa [hu]using p) (by rw[u,q])) hS (by rw[B,F];exact h)
theorem eE(i:Nat){v:Value}(hi:ops[i]? =some f)(hy:YieldsIf P ops b f v a)(h:wpAnyH P e ops Q b j k a' w)(p:Region.noSelect ops=true:=by kernel_rfl)(g:Region.free e ops ls i=true:=by kernel_rfl)(d:(Region.ready e ops ls).contains i=true:=by kernel_rfl)(m: ∀c a w,Q (.panic c) (a.put f.dst v) w->Q (.panic c) a w:=by first|exact fun _ _ _ h=>h|exact fun _ _ _ h=>dZ (fun t w=>results_none (by kernel_rfl) t _ w) _ _ _ _ _ h)(hS:b w:=by assumption)
 (n:a.put f.dst v=a':=by exact et)(q:ls.setIfInBounds i true=k:=by exact eu):wpAnyH P e ops Q b (j+1) ls a w:=
 wpAnyH_take hi p g d m hy hS (by rw[n,q];exact h)
theorem Zj(c:List Nat)(h:AllReadyH P e ops Q b j ls a w c)(d:Region.ready e ops ls=c:=by kernel_rfl)(g:c≠ []:=by simp):wpAnyH P e ops Q b (j+1) ls a w:=wpAnyH_ready d g h
theorem ea{c:List Nat}(h: ∀K:Act->World->Prop,Shut (∀a w,b w->(b w->wpAnyH P e ops Q b j (ls.setIfInBounds i true) a w)->K a w)->if Region.wanted o (yielded ops a.tmps)=true then Oper.wp P o a w K Q else K (a.put o.dst undef) w)(d:AllReadyH P e ops Q b j ls a w c)(g:ops[i]? =some o:=by exact rfl):AllReadyH P e ops Q b j ls a w (i::c):=.cons g h d
theorem ei(h: ∀K:Act->World->Prop,Shut (∀a w,b w->(b w->wpAnyH P e ops Q b j (ls.setIfInBounds i true) a w)->K a w)->if Region.wanted o (yielded ops a.tmps)=true then Oper.wp P o a w K Q else K (a.put o.dst undef) w)(c:ops[i]? =some o:=by exact rfl):AllReadyH P e ops Q b j ls a w [i]:=.cons c h .nil
theorem PK{c:Act}(n:Shut (∀a w,b w->(b w->wpAnyH P e ops Q b j ls a w)->K a w))(h:b w->wpAnyH P e ops Q b j k a' w)(hS:b w:=by first|exact U.has|exact U.l0|exact U.N7|exact U.N8)
 (d:c=a':=by exact et)(m:ls=k:=by exact eu):K c w:=n.out _ _ hS fun g=>by rw[d,m];exact h g
theorem UF(h:Q .normal a w)(c:Region.ready e ops ls= []:=by kernel_rfl):wpAnyH P e ops Q b j ls a w:=wpAnyH_done c h _
section
variable(h:Bx w0 S w A L)
include h
theorem YL{m:TypeId}{x:Operand}{g off:Nat}{t:TypeId}{cs:List Value}{v:Value}(q:K (a.put o.dst v) w)(n:Region.wanted o (yielded ops a.tmps)=true:=by rfl)
 (r:o.op= .load m x:=by exact rfl)(c:(P.underlying m).map TypeDesc.isRow=some false:=by kernel_rfl)(p:a.eval x= .pointer (some ⟨g,off,none⟩):=by exact rfl)(hi:In L g t cs:=by exact ag)(hv:cs[off]? =some v:=by rfl):if Region.wanted o (yielded ops a.tmps)=true then Oper.wp P o a w K Q else K (a.put o.dst undef) w:=by
 rw[Z n];cases hu:P.underlying m with
 |none=>simp[hu]at c
 |some d=>exact bU h m x r g off p hi v hv hu (by simpa [hu]using c) q
theorem Wf(n:Nat){c:TypeId}{x:Operand}{g off:Nat}{t:TypeId}{cs ds:List Value}(u:K (a.put o.dst (.agg ds.toArray)) w)(r:Region.wanted o (yielded ops a.tmps)=true:=by rfl)
 (v:o.op= .load c x:=by exact rfl)(m:(P.underlying c).map TypeDesc.isRow=some true:=by kernel_rfl)(q:(P.info? c).map (·.size)=some n:=by kernel_rfl)(s:a.eval x= .pointer (some ⟨g,off,none⟩):=by exact rfl)(hi:In L g t cs:=by exact ag)
 (hd:(cs.drop off).take n=ds:=by exact lT)(p:ds.length=n:=by exact rfl):if Region.wanted o (yielded ops a.tmps)=true then Oper.wp P o a w K Q else K (a.put o.dst undef) w:=by
 rw[Z r];cases hu:P.underlying c with
 |none=>simp[hu]at m
 |some d=>exact r4 h c x v g off n s hi ds hd hu (by simpa [hu]using m) (by rw[q,p]) u
theorem adV(c:TypeId){x:Operand}{v:Value}{ds:List Value}(n: ∀g w',Bx w0 S w' A (⟨g,c,ds⟩::L)->w0.heap.size<=g->K (a.put o.dst (.pointer (some ⟨g,0,none⟩))) w')(d:Region.wanted o (yielded ops a.tmps)=true:=by rfl)
 (p:o.op= .box c x:=by exact rfl)(m:dt a x=some v:=by exact rfl)(hv:v.cells=ds.toArray:=by exact rfl):if Region.wanted o (yielded ops a.tmps)=true then Oper.wp P o a w K Q else K (a.put o.dst undef) w:=by
 rw[Z d];exact yb h c x p v ds m hv n
theorem ZZ{c:TypeId}{z:Value}(d:(P.info? c).bind (·.zero)=some z){ds:List Value}(n: ∀g w',Bx w0 S w' A (⟨g,c,ds⟩::L)->w0.heap.size<=g->K (a.put o.dst (.pointer (some ⟨g,0,none⟩))) w')(m:Region.wanted o (yielded ops a.tmps)=true:=by rfl)
 (p:o.op= .alloc c:=by exact rfl)(hv:z.cells=ds.toArray:=by exact rfl):if Region.wanted o (yielded ops a.tmps)=true then Oper.wp P o a w K Q else K (a.put o.dst undef) w:=by
 rw[Z m];exact kx h c p z ds d hv n
theorem Uy{c:TypeId}{x y:Operand}{g off:Nat}{v:Value}{ds:List Value}{t:TypeId}{cs:List Value}{L0:List PL}(q: ∀w',Bx w0 S w' A L'->K (a.put o.dst undef) w')(m:Region.wanted o (yielded ops a.tmps)=true:=by rfl)
 (r:o.op= .store c x y:=by exact rfl)(n:a.eval x= .pointer (some ⟨g,off,none⟩):=by exact rfl)(hy:dt a y=some v:=by exact rfl)(hv:v.cells=ds.toArray:=by exact rfl)
 (p:Tr L g t cs (er cs off ds) L0:=by exact cf)(d:L0=L':=by exact qZ)
 (s:off+ds.length<=cs.length:=by exact bQ rfl)(hi:(P.info? c).map (·.size)=some ds.length:=by kernel_rfl)(h1:ds.all (·.oneCell')=true:=by first|rfl|(simp[*];done)):if Region.wanted o (yielded ops a.tmps)=true then Oper.wp P o a w K Q else K (a.put o.dst undef) w:=by
 rw[Z m];exact ev h c x y r g off v ds n hy hv (d▸p) s hi h1 q
end
def yd(P:Program)(c:TypeId):Prop:= ∃d,P.underlying c=some d/\d.isRow=false
def ye(P:Program)(c:TypeId)(n:Nat):Prop:=(∃d,P.underlying c=some d/\d.isRow=true)/\(P.info? c).map (·.size)=some n
end
section
open Go.RowKit Tryz
theorem jj:(Tryz.prog.info? 32).bind (·.zero)=some (.agg #[.int .i64 0,.int .i64 0,.int .i64 0,.int .i64 0,.slice none 0 0,.slice none 0 0,.slice none 0 0]):=aM
theorem gg:(Tryz.prog.info? 42).bind (·.zero)=some (.agg #[.int .u8 0,.int .u8 0,.int .u8 0,.int .u8 0,.int .i64 0,.int .i64 0,.int .i64 0]):=aM
theorem tW:(Tryz.prog.info? 44).bind (·.zero)=some (.agg #[.int .i64 0,.int .i64 0,.slice none 0 0]):=aM
theorem BI:(Tryz.prog.info? 46).bind (·.zero)=some (.agg #[.int .i64 0,.int .u8 0,.int .u8 0,.int .u8 0,.int .u8 0,.int .i64 0,.int .i64 0,.int .i64 0,.int .i64 0,.int .i64 0,.int .i64 0,.int .i64 0,.int .i64 0,.slice none 0 0]):=aM
theorem ny:(Tryz.prog.info? 56).bind (·.zero)=some (.agg #[.int .i64 0,.int .i64 0,.int .i64 0,.int .i64 0]):=aM
theorem nz:(Tryz.prog.info? 65).bind (·.zero)=some (.agg #[.slice none 0 0,.int .i64 0,.int .i64 0,.int .i64 0,.int .i64 0,.int .i64 0,.int .i64 0,.int .i64 0,.int .i64 0,.int .i64 0,.int .i64 0,.int .i64 0,.int .i64 0,.int .i64 0,.int .i64 0,.int .i64 0,.int .i64 0,.int .i64 0,.int .i64 0,.int .i64 0,.int .i64 0,.int .i64 0,.int .i64 0,.int .i64 0,.int .i64 0,.int .i64 0,.int .i64 0,.int .i64 0,.int .i64 0,.int .i64 0,.int .i64 0,.int .i64 0,.int .i64 0,.slice none 0 0,.int .u64 0,.int .u64 0,.int .u64 0,.int .u64 0,.int .u64 0,.int .u64 0,.int .u64 0,.int .u64 0,.int .u64 0,.int .u64 0,.int .u64 0,.int .u64 0,.int .u64 0,.int .u64 0,.int .u64 0,.int .u64 0,.slice none 0 0,.slice none 0 0,.slice none 0 0,.slice none 0 0]):=aM
theorem yf:(Tryz.prog.info? 67).bind (·.zero)=some (.agg #[.slice none 0 0,.int .i64 0,.int .i64 0,.int .i64 0,.int .i64 0,.int .i64 0,.int .i64 0,.int .i64 0,.int .i64 0,.int .i64 0,.int .i64 0,.int .i64 0,.int .i64 0,.int .i64 0,.int .i64 0,.int .i64 0,.int .i64 0,.int .i64 0,.int .i64 0,.int .i64 0,.int .i64 0,.int .i64 0,.int .i64 0,.int .i64 0,.int .i64 0,.int .i64 0,.int .i64 0,.int .i64 0,.int .i64 0,.int .i64 0,.int .i64 0,.int .i64 0,.int .i64 0,.slice none 0 0,.int .u64 0,.int .u64 0,.int .u64 0,.int .u64 0,.int .u64 0,.int .u64 0,.int .u64 0,.int .u64 0,.int .u64 0,.int .u64 0,.int .u64 0,.int .u64 0,.int .u64 0,.int .u64 0,.int .u64 0,.int .u64 0,.slice none 0 0,.slice none 0 0,.slice none 0 0,.slice none 0 0,.slice none 0 0,.int .i64 0,.int .i64 0,.int .i64 0,.int .i64 0,.int .i64 0,.int .i64 0,.int .i64 0,.int .i64 0,.int .i64 0,.int .i64 0,.int .i64 0,.int .i64 0,.int .i64 0,.int .i64 0,.int .i64 0,.int .i64 0,.int .i64 0,.int .i64 0,.int .i64 0,.int .i64 0,.int .i64 0,.int .i64 0,.int .i64 0,.int .i64 0,.int .i64 0,.int .i64 0,.int .i64 0,.int .i64 0,.int .i64 0,.int .i64 0,.int .i64 0,.int .i64 0,.slice none 0 0,.int .u64 0,.int .u64 0,.int .u64 0,.int .u64 0,.int .u64 0,.int .u64 0,.int .u64 0,.int .u64 0,.int .u64 0,.int .u64 0,.int .u64 0,.int .u64 0,.int .u64 0,.int .u64 0,.int .u64 0,.int .u64 0,.slice none 0 0,.slice none 0 0,.slice none 0 0,.slice none 0 0,.int .i64 0,.int .i64 0,.int .u8 0,.int .u8 0,.int .u8 0,.int .u8 0,.int .i64 0,.int .i64 0,.int .i64 0,.int .i64 0,.int .i64 0,.int .i64 0,.int .i64 0,.int .i64 0,.slice none 0 0,.bool false]):=aM
theorem EQ:(Tryz.prog.info? 75).bind (·.zero)=some (.agg #[.int .i64 0,.int .i64 0,.int .i64 0]):=aM
theorem gW:(Tryz.prog.info? 91).bind (·.zero)=some (.agg #[.int .i64 0,.int .i64 0,.int .i64 0,.bool false,.int .i64 0,.int .i64 0]):=aM
theorem r5:(Tryz.prog.info? 100).bind (·.zero)=some (.agg #[.int .u8 0,.int .i64 0,.int .i64 0]):=aM
theorem eK:(Tryz.prog.info? 130).bind (·.zero)=some (.agg #[.int .i64 0,.int .i64 0]):=aM
theorem r6:(Tryz.prog.info? 148).bind (·.zero)=some (.agg #[.int .u8 0,.int .u8 0,.int .u8 0,.int .u8 0]):=aM
theorem xc:(Tryz.prog.info? 165).bind (·.zero)=some (.agg #[.int .i64 0,.int .i64 0,.int .i64 0,.int .i64 0,.pointer none]):=aM
theorem nA:(Tryz.prog.info? 198).bind (·.zero)=some (.agg #[.int .u8 0,.int .u8 0,.int .u8 0,.int .u8 0,.int .i64 0,.int .i64 0,.int .i64 0,.int .i64 0,.int .i64 0,.int .u64 0,.int .u64 0,.slice none 0 0,.int .u64 0,.int .u64 0,.int .i64 0,.int .i64 0,.slice none 0 0,.int .i64 0,.slice none 0 0,.int .i64 0,.bool false,.bool false,.bool false,.int .i64 0,.int .i64 0,.slice none 0 0]):=aM
theorem js:(Tryz.prog.info? 236).bind (·.zero)=some (.agg #[.int .i64 0,.int .i64 0,.nilFunc,.int .i64 0,.int .i64 0,.nilFunc,.int .i64 0,.int .i64 0,.nilFunc,.int .i64 0,.int .i64 0,.nilFunc,.int .i64 0,.int .i64 0,.nilFunc]):=aM
theorem ER:(Tryz.prog.info? 250).bind (·.zero)=some (.agg #[.pointer none,.pointer none,.int .u8 0,.int .u8 0,.int .u8 0,.int .u8 0,.int .i64 0,.int .i64 0,.int .i64 0]):=aM
theorem nB:(Tryz.prog.info? 289).bind (·.zero)=some (.agg #[.int .i64 0,.int .i64 0,.int .i64 0,.int .i64 0,.slice none 0 0,.int .u8 0,.int .u8 0,.int .u8 0,.int .u8 0,.int .i64 0,.int .i64 0,.int .i64 0,.int .u64 0,.int .u64 0]):=aM
theorem Ag:(Tryz.prog.info? 298).bind (·.zero)=some (.agg #[.int .u8 0,.int .u8 0]):=aM
theorem Ls:(Tryz.prog.info? 299).bind (·.zero)=some (.agg #[.int .u8 0,.int .u8 0,.int .u8 0,.int .u8 0,.int .u8 0,.int .u8 0,.int .u8 0,.int .u8 0,.int .u8 0,.int .u8 0]):=aM
theorem Lt:(Tryz.prog.info? 308).bind (·.zero)=some (.agg #[.pointer none,.int .i64 0,.int .i64 0,.int .i64 0,.int .i64 0,.int .i64 0]):=aM
theorem tX:(Tryz.prog.info? 344).bind (·.zero)=some (.agg #[.int .u64 0,.int .u64 0,.int .u64 0]):=aM
variable{w0 b w w':World}{S:Nat->Prop}{A A':Option XS}{L L' L1:List PL}
variable{o:Oper}{a a':Act}{K:Act->World->Prop}{Q:Exit->Act->World->Prop}{ops:Array Oper}{rest:List Oper}
theorem RE{P:Program}{c:TypeId}(h:(P.underlying c).map TypeDesc.isRow=some false:=by decide+kernel):yd P c:=by
 cases hu:P.underlying c with
 |none=>simp[hu]at h
 |some d=>exact⟨d,hu,by simpa [hu]using h⟩
theorem N9{c:TypeId}(h:yd prog c:=by exact RE):yd prog c:=h
theorem Im{P:Program}{c:TypeId}{n:Nat}(h1:(P.underlying c).map TypeDesc.isRow=some true:=by decide+kernel)(e:(P.info? c).map (·.size)=some n:=by first
 |(show _=some 1;decide+kernel)|(show _=some 2;decide+kernel)|(show _=some 3;decide+kernel)|(show _=some 4;decide+kernel)|(show _=some 5;decide+kernel)|(show _=some 6;decide+kernel)|(show _=some 7;decide+kernel)|(show _=some 8;decide+kernel)|(show _=some 9;decide+kernel)|(show _=some 10;decide+kernel)|(show _=some 11;decide+kernel)|(show _=some 12;decide+kernel)|(show _=some 13;decide+kernel)|(show _=some 14;decide+kernel)|(show _=some 15;decide+kernel)|(show _=some 16;decide+kernel)|(show _=some 26;decide+kernel)|(show _=some 28;decide+kernel)|(show _=some 32;decide+kernel)|(show _=some 54;decide+kernel)):ye P c n:=by
 cases hu:P.underlying c with
 |none=>simp[hu]at h1
 |some d=>exact⟨⟨d,hu,by simpa [hu]using h1⟩,e⟩
theorem UQ(h:Bx w0 S w A L){c:TypeId}{x:Operand}{g off:Nat}{t:TypeId}{cs:List Value}{v:Value}(j:wpList prog ops Q rest a' w)
 (l:o.guard=none:=by exact rfl)(k:o.op= .load c x:=by exact rfl)(e:yd prog c:=by exact N9)(f:a.eval x= .pointer (some ⟨g,off,none⟩):=by exact rfl)(hi:In L g t cs:=by exact ag)(hv:cs[off]? =some v:=by rfl)
 (i:a.put o.dst v=a':=by exact fa):wpList prog ops Q (o::rest) a w:=by
 obtain⟨d,hu,hd⟩:=e;exact fm h l c x k g off f hi v hv hu hd (i▸j)
theorem Ww(h:Bx w0 S w A L){c:TypeId}{n:Nat}{x:Operand}{g off:Nat}{t:TypeId}{cs ds:List Value}(m:wpList prog ops Q rest a' w)
 (q:o.guard=none:=by exact rfl)(p:o.op= .load c x:=by exact rfl)(e:ye prog c n:=by exact Im)(i:a.eval x= .pointer (some ⟨g,off,none⟩):=by exact rfl)(hi:In L g t cs:=by exact ag)
 (hd:(cs.drop off).take n=ds:=by exact lT)(l:ds.length=n:=by exact rfl)
 (j:a.put o.dst (.agg ds.toArray)=a':=by exact fa):wpList prog ops Q (o::rest) a w:=by
 obtain⟨⟨d,hu,f⟩,k⟩:=e;exact jE h q c x p g off n i hi ds hd hu f (by rw[k,l]) (j▸m)
end
end Go.Proofs.YtcimojgkeoecfaaGreat
