import Derived.Test.YtcimojgkeoecfaaGreatVay
import Derived.Test.YtcimojgkeoecfaaGreatVaz
set_option linter.all false
set_option maxHeartbeats 16000000
set_option maxRecDepth 100000
namespace Go.Proofs.YtcimojgkeoecfaaGreat
section
open Go.RowKit Tryz
theorem xt(w0:World)(S:Nat->Prop)(c j:Nat)(T6 VZ:Value)(x:Yr)(t:eD)(h:fp w0 S c j T6 VZ x t)(hb:t.busy=true)(hS: ∀b,S b->b<w0.heap.size/\b≠c/\b≠j)
 (ok:cG t.run.call)(M:t.run.aC.code=0->t.run.call.op=4\/t.run.call.op=6->t.aD.length<6)(P:t.run.aC.code=0->t.run.call.op=5->t.aD≠ [])(O:t.aD.length<=6)
 (R:aR t.run.aC.n\/ -9223372036854775808<=t.run.aC.n/\t.run.aC.n<9223372036854775808):
 Calls prog 108 #[.pointer (some ⟨c,0,none⟩)] w0 fun e w'=> ∃Q,e= .returned (.tuple #[])/\fp w' (fun b=>(S b\/w0.heap.size<=b)/\b≠c/\b≠j) c j T6 Q x (bH t)/\Z1 (fun b=>b≠c/\b≠j) w0 w':=by
 obtain⟨g,z,L,-,-,-⟩:=id h.run.Y1;obtain⟨f,ls,w,Y1⟩:=x;simp only at L;subst L;have C: ∀y:Int,IntKind.u64.wrap y=Xy y:=fun y=>by rw[IntKind.wrap_u64];rfl
 have keep: ∀w':World,Z1 (fun b=>b≠c/\b≠j) w0 w'->vO w' (fun b=>(S b\/w0.heap.size<=b)/\b≠c/\b≠j) T6 t.calls/\de w' (fun b=>(S b\/w0.heap.size<=b)/\b≠c/\b≠j) VZ t.aD/\aW w' (fun b=>(S b\/w0.heap.size<=b)/\b≠c/\b≠j) t.run ⟨f,ls,w,.slice g t.run.aC.said.length z⟩:=fun w' k=>
  ⟨(h.sq.mono fun b _ F=>⟨.inl F,(hS b F).2⟩).Wu (k.mono fun b _ h=>h.2),(h.m6.mono fun b _ F=>⟨.inl F,(hS b F).2⟩).Wu (k.mono fun b _ h=>h.2),(h.run.mono fun b _ F=>⟨.inl F,(hS b F).2⟩).Wu (k.mono fun b _ h=>h.2)⟩
 have T:=h.bC.lt;have U:=h.reg.lt;have B:=ok.r;by_cases i:t.run.aC.code=0
 case neg=>
  have u:bH t= {t with busy:=false}:=by unfold bH;rw[Z i]
  rw[u];refine(IZ w0 c j T6 VZ t.run f ls w g _ z t.busy t.at_ t.regs h.bC h.reg i).mono fun e w' ⟨p,h1,d,k⟩=>⟨VZ,p,⟨h1,d,(keep w' k).1,(keep w' k).2.1,(keep w' k).2.2⟩,k⟩
 by_cases q:t.run.call.op=1
 ·have u:bH t= {t with busy:=false,regs:=put t.regs t.run.call.r.toNat (Xy t.run.call.a)}:=by unfold bH;rw[Y (by simpa using i),Z q]
  rw[u];refine(I2 w0 c j T6 VZ t.run f ls w g _ z t.busy t.at_ t.regs h.bC h.reg (C _) B.1 J i q).mono fun e w' ⟨p,h1,d,k⟩=>⟨VZ,p,⟨h1,d,(keep w' k).1,(keep w' k).2.1,(keep w' k).2.2⟩,k⟩
 by_cases m:t.run.call.op=7\/t.run.call.op=8\/t.run.call.op=10
 ·have u:bH t= {t with busy:=false,regs:=put t.regs t.run.call.r.toNat (Xy t.run.aC.n)}:=by unfold bH;rw[Y (by simpa using i),Y q,Z m]
  rw[u];rcases m with o|o|o
  ·refine(I3 w0 c j T6 VZ t.run f ls w g _ z t.busy t.at_ t.regs h.bC h.reg (C _) B.1 J i o).mono fun e w' ⟨p,h1,d,k⟩=>⟨VZ,p,⟨h1,d,(keep w' k).1,(keep w' k).2.1,(keep w' k).2.2⟩,k⟩
  ·refine(I4 w0 c j T6 VZ t.run f ls w g _ z t.busy t.at_ t.regs h.bC h.reg (C _) B.1 J i o).mono fun e w' ⟨p,h1,d,k⟩=>⟨VZ,p,⟨h1,d,(keep w' k).1,(keep w' k).2.1,(keep w' k).2.2⟩,k⟩
  ·refine(FN w0 c j T6 VZ t.run f ls w g _ z t.busy t.at_ t.regs h.bC h.reg (C _) B.1 J i o).mono fun e w' ⟨p,h1,d,k⟩=>⟨VZ,p,⟨h1,d,(keep w' k).1,(keep w' k).2.1,(keep w' k).2.2⟩,k⟩
 have fresh: ∀(w':World) (v:Value) (l:List bO),de w' (fun b=>w0.heap.size<=b) v l->de w' (fun b=>(S b\/w0.heap.size<=b)/\b≠c/\b≠j) v l:=fun w' v l h=>h.mono fun b _ hb=>⟨.inr hb,J,J⟩
 by_cases s:t.run.call.op=4
 ·have u:bH t= {t with busy:=false,aD:=t.aD++ [⟨t.run.call.a,true⟩]}:=by unfold bH;rw[Y (by simpa using i),Y q,Y m,Z s]
  rw[u];refine(I5 w0 c j T6 VZ t.run f ls w g _ z t.busy t.at_ t.regs h.bC h.reg S t.aD h.m6 (M i (.inl s)) hS i s).mono fun e w' ⟨A,k',p,h1,d,hv,k⟩=>⟨_,p,⟨h1,d,(keep w' k).1,fresh w' _ _ hv,(keep w' k).2.2⟩,k⟩
 by_cases G:t.run.call.op=6
 ·have u:bH t= {t with busy:=false,aD:=t.aD++ [⟨t.run.call.a,false⟩]}:=by unfold bH;rw[Y (by simpa using i),Y q,Y m,Y s,Z G]
  rw[u];refine(I6 w0 c j T6 VZ t.run f ls w g _ z t.busy t.at_ t.regs h.bC h.reg S t.aD h.m6 (M i (.inr G)) hS i G).mono fun e w' ⟨A,k',p,h1,d,hv,k⟩=>⟨_,p,⟨h1,d,(keep w' k).1,fresh w' _ _ hv,(keep w' k).2.2⟩,k⟩
 by_cases K:t.run.call.op=5
 ·have u:bH t= {t with busy:=false,aD:=t.aD.dropLast}:=by unfold bH;rw[Y (by simpa using i),Y q,Y m,Y s,Y G,Z K]
  rw[u];rcases kh t.aD with H|⟨l,⟨N,d0⟩,H⟩
  ·exact absurd H (P i K)
  ·have hd:t.aD.dropLast=l:=by rw[H];simp
   rw[hd];refine(I7 w0 c j T6 VZ t.run f ls w g _ z t.busy t.at_ t.regs h.bC h.reg S l N d0 (H▸h.m6) (by rw[H]at O;simp at O;omega) hS i K).mono fun e w' ⟨A,k',p,h1,d,hv,k⟩=>⟨_,p,⟨h1,d,(keep w' k).1,fresh w' _ _ hv,(keep w' k).2.2⟩,k⟩
 have u:bH t= {t with busy:=false}:=by unfold bH;rw[Y (by simpa using i),Y q,Y m,Y s,Y G,Y K]
 rw[u];refine(I0 w0 c j T6 VZ t.run f ls w g _ z t.busy t.at_ t.regs h.bC h.reg i ⟨q,fun h=>m (.inl h),fun h=>m (.inr (.inl h)),fun h=>m (.inr (.inr h)),s,G,K⟩).mono fun e w' ⟨p,h1,d,k⟩=>⟨VZ,p,⟨h1,d,(keep w' k).1,(keep w' k).2.1,(keep w' k).2.2⟩,k⟩
end
section
open Go.RowKit
variable{w0 w d:World}{S T:Nat->Prop}{A:Option XS}{L L':List PL}
theorem Bx.of(w:World)(S:Nat->Prop)(L:List PL)(h: ∀x,x∈L->ah w x.g x.t x.cs.toArray)(b:(L.map PL.g).Nodup)(hS: ∀x,x∈L->¬S x.g):Bx w S w none L:=
 ⟨h,b,fun x c=>.inr (hS x c),Z1.refl _ _,trivial,fun a e=>by cases e⟩
theorem Bx.less(h:Bx w0 S w none L)(k:Z1 T w d)(j: ∀x,x∈L->T x.g):Bx w0 (fun b=>S b/\T b) d none L:=
 ⟨fun x f=>(k.block x.g (h.bC x f).lt (j x f)).trans (h.bC x f),h.UH,fun x f=>by
   rcases h.fr x f with c|c
   ·exact .inl c
   ·exact .inr fun i=>c i.1,⟨k.os.trans h.Wu.os,k.tape.trans h.Wu.tape,k.output.trans h.Wu.output,D h.Wu.size k.size,fun b hb i=>(k.block b (aj hb h.Wu.size) i.2).trans (h.Wu.block b hb i.1)⟩,trivial,fun a e=>by cases e⟩
theorem Bx.AR(h:Bx w0 S w none L){g p:Nat}{t:TypeId}{cs cs':List Value}(n:Tr L g t cs cs' L')(hb:ah d g t cs'.toArray)(k:Z1 (fun b=>b≠g/\b≠p) w d)(l: ∀x,x∈L->x.g≠p):Bx w0 (fun b=>S b/\b≠p) d none L':=by
 have hm: ∀x,x∈L'->x=⟨g,t,cs'⟩\/x∈L/\x.g≠g:=by
  have i:=h.UH;clear h l hb k;induction n with
  |here g t cs cs' L=>
   intro x f;rw[aS,bS]at i;rcases List.mem_cons.1 f with rfl|f
   ·exact .inl rfl
   ·exact .inr ⟨ao _ f,fun e=>i.1 (List.mem_map.2 ⟨x,f,e⟩)⟩
  |there b g t cs cs' L L' n m=>
   intro x f;rw[aS,bS]at i;rcases List.mem_cons.1 f with rfl|f
   ·exact .inr ⟨a8,fun e=>i.1 (List.mem_map.2 ⟨_,n.aB.mem,e.symm⟩)⟩
   ·rcases m i.2 x f with h|h
    ·exact .inl h
    ·exact .inr ⟨ao _ h.1,h.2⟩
 have q:L'.map PL.g=L.map PL.g:=by
  clear h l hb k hm;induction n with
  |here=>rfl
  |there b g t cs cs' L L' n m=>rw[aS,aS,m]
 have s:=n.aB;refine⟨fun x f=>?_,by rw[q];exact h.UH,fun x f=>?_,⟨k.os.trans h.Wu.os,k.tape.trans h.Wu.tape,k.output.trans h.Wu.output,D h.Wu.size k.size,fun b r j=>?_⟩,trivial,fun a e=>by cases e⟩
 ·rcases hm x f with rfl|⟨h1,o⟩
  ·exact hb
  ·exact(k.block x.g (h.bC x h1).lt ⟨o,l x h1⟩).trans (h.bC x h1)
 ·rcases hm x f with rfl|⟨h1,o⟩
  ·rcases h.fr _ s.mem with c|c
   ·exact .inl c
   ·exact .inr fun j=>c j.1
  ·rcases h.fr x h1 with c|c
   ·exact .inl c
   ·exact .inr fun j=>c j.1
 ·refine(k.block b (aj r h.Wu.size) ⟨fun e=>?_,j.2⟩).trans (h.Wu.block b r j.1);subst e;rcases h.fr _ s.mem with c|c
  ·simp only at c;omega
  ·exact c j.1
theorem FO{P T:List Value}{o:db}{v:Value}{k j:Nat}{a:List Value}(h:P.length=k*14)(b:j+a.length<=14):er (P++(dN o v++T)) (k*14+j) a=P++(er (dN o v) j a++T):=by
 unfold er;have c:(dN o v).length=14:=rfl;rw[List.take_append,cm J,h,show k*14+j-k*14=j from J,cJ J,List.drop_append,cl J,h,show k*14+j+a.length-k*14=j+a.length from J,List.drop_append_of_le_length J];simp
theorem fp.mono{w:World}{S S':Nat->Prop}{a c:Nat}{T6 VZ:Value}{x:Yr}{t:eD}(h:fp w S a c T6 VZ x t)(hS: ∀b,b<w.heap.size->S b->S' b):fp w S' a c T6 VZ x t:=
 ⟨h.bC,h.reg,h.sq.mono hS,h.m6.mono hS,h.run.mono hS⟩
theorem acf(t:eD):(bH t).run=t.run:=by unfold bH;(repeat' split)<;>rfl
theorem oe(t:eD):(bH t).calls=t.calls:=by unfold bH;(repeat' split)<;>rfl
theorem Pl{w0 w:World}{a b c:Nat}{f e l:TypeId}{k i g:List Value}{L:List PL}(h:Bx w0 (fun x=>x≠a/\x≠b/\x≠c/\True) w none L)(o:ah w0 a f k.toArray)(hb:ah w0 b e i.toArray)(n:ah w0 c l g.toArray)(m:In L a f k)(p:In L b e i)(j:In L c l g):Below w0.heap.size w0 w:=
 (((h.Wu.sZ o (h.b m)).sZ hb (h.b p)).sZ n (h.b j)).q9
theorem rC{rg a n b:Nat}(h:a=rg\/n<=a)(hb:b<n)(c:b≠rg):b≠a:=by
 rcases h with h|h
 ·rw[h];exact c
 ·omega
theorem fp.Pm{w w':World}{S T:Nat->Prop}{a c:Nat}{T6 VZ:Value}{x:Yr}{t:eD}(h:fp w S a c T6 VZ x t)(k:Z1 T w w')(hS: ∀b,b<w.heap.size->S b->T b)(h1:ah w' a 200 (fI T6 (.slice (some ⟨c,0,none⟩) 4 4) VZ t.run x t.busy t.at_).toArray)(e:T c):fp w' S a c T6 VZ x t:=
 have m: ∀ {v:Value} {n sz:Nat} {F:Nat->List Value},KC w S v n sz F->KC w' S v n sz F:=fun h=>((h.mono (S':=fun b=>S b/\T b) fun b hb f=>⟨f,hS b hb f⟩).Wu (k.mono fun b _ h=>h.2)).mono fun b _ h=>h.1
 ⟨h1,(k.block _ h.reg.lt e).trans h.reg,m h.sq,m h.m6,⟨m h.run.TQ,m h.run.ls,m h.run.Wh,m h.run.Y1⟩⟩
variable{i:Program}{f:Oper}{a a':Act}{K:Act->World->Prop}{Q:Exit->Act->World->Prop}{ops:Array Oper}{l:List Oper}
theorem FP{P T:List Value}{o:db}{v:Value}{k j:Nat}{b:List Value}(h:P.length=k*14)(e:j+b.length<=14):k*14+j+b.length<=(P++(dN o v++T)).length:=by
 have c:(dN o v).length=14:=rfl;rw[ak,ak,h,c];omega
section
variable(h:Bx w0 S w A L){P T':List Value}{o:db}{v:Value}{k:Nat}(e:P.length=k*14)(j:Nat)(o':db)(v':Value){c:TypeId}{x y:Operand}{g:Nat}{t:TypeId}{u:Value}{b:List Value}
include h P T' o v k e j o' v' c x y g t u b
theorem zz(z: ∀w',Bx w0 S w' A L'->wpList i ops Q l a' w')
 (C:f.guard=none:=by exact rfl)(B:f.op= .store c x y:=by exact rfl)(p:a.eval x= .pointer (some ⟨g,k*14+j,none⟩):=by exact rfl)(hy:dt a y=some u:=by exact rfl)(hv:u.cells=b.toArray:=by exact rfl)
 (n:er (dN o v) j b=dN o' v':=by exact rfl)(q:Tr L g t (P++(dN o v++T')) (P++(dN o' v'++T')) L':=by exact cf)(m:j+b.length<=14:=by exact bQ rfl)(hi:(i.info? c).map (·.size)=some b.length:=by kernel_rfl)(h1:b.all (·.oneCell')=true:=by exact rfl)
 (r:a.put f.dst undef=a':=by exact fa):wpList i ops Q (f::l) a w:=
 hp h C c x y B g (k*14+j) u b p hy hv (by rw[FO e m,n];exact q) (FP e m) hi h1 fun w' s=>by rw[r];exact z w' s
theorem Wt(s: ∀w',Bx w0 S w' A L'->K (a.put f.dst undef) w')
 (p:Region.wanted f (yielded ops a.tmps)=true:=by rfl)(z:f.op= .store c x y:=by exact rfl)(q:a.eval x= .pointer (some ⟨g,k*14+j,none⟩):=by exact rfl)(hy:dt a y=some u:=by exact rfl)(hv:u.cells=b.toArray:=by exact rfl)
 (n:er (dN o v) j b=dN o' v':=by exact rfl)(r:Tr L g t (P++(dN o v++T')) (P++(dN o' v'++T')) L':=by exact cf)(m:j+b.length<=14:=by exact bQ rfl)(hi:(i.info? c).map (·.size)=some b.length:=by kernel_rfl)(h1:b.all (·.oneCell')=true:=by exact rfl):
 if Region.wanted f (yielded ops a.tmps)=true then Oper.wp i f a w K Q else K (a.put f.dst undef) w:=by
 rw[Z p];exact ev h c x y z g (k*14+j) u b q hy hv (by rw[FO e m,n];exact r) (FP e m) hi h1 s
end
end
section
open Go.RowKit
theorem Bx.AS{d w0 w:World}{S:Nat->Prop}{L:List PL}(h:Bx w0 S w none L)(c:Below d.heap.size d w0)(e: ∀b,b<d.heap.size->S b):Below d.heap.size d w:=
 ⟨h.Wu.os.trans c.os,h.Wu.tape.trans c.tape,h.Wu.output.trans c.output,D c.size h.Wu.size,fun k a=>(h.Wu.block k (aj a c.size) (e k a)).trans (c.block k a)⟩
theorem Bx.mI{w0 w:World}{S T:Nat->Prop}{L:List PL}(h:Bx w0 (fun b=>S b/\T b) w none L)(d: ∀b,b<w0.heap.size->T b):Bx w0 S w none L:=
 ⟨h.bC,h.UH,fun x i=>by
   rcases h.fr x i with q|q
   ·exact .inl q
   ·by_cases c:x.g<w0.heap.size
    ·exact .inr fun f=>q ⟨f,d _ c⟩
    ·exact .inl J,h.Wu.mono fun b hb f=>⟨f,d b hb⟩,trivial,fun a e=>by cases e⟩
theorem jz{w:World}{e:TypeId}{sz n cap g:Nat}{xs news rest:List Value}(hb:ah w g e ((xs++news)++rest).toArray)(b:(xs++news).length=n*sz)(a:n<=cap/\cap<=maxLen/\((xs++news)++rest).length=cap*sz):w.ownsRow 0 e sz (.slice (some ⟨g,0,none⟩) n cap) n (xs++news):=
 ⟨b,.inr ⟨g,cap,_,rfl,aL _,hb,a.1,a.2.1,by simpa using a.2.2,by rw[List.toList_toArray,<-b];exact List.take_left' rfl⟩⟩
structure rD(o w:World)(e:TypeId)(sz k:Nat)(v:Value)(Vs:Nat->Value)(len:Nat->Nat)(r:Nat->Nat->List Value):Prop where
 own:w.ownsRow 0 e 1 v k ((List.range k).map Vs)
 new: ∀j,v.ownBlock=some j->o.heap.size<=j
 each: ∀j,j<k->KC w (fun b=>o.heap.size<=b/\v.ownBlock≠some b) (Vs j) (len j) sz (r j)
variable{o w w':World}{e:TypeId}{sz k:Nat}{v:Value}{Vs:Nat->Value}{len:Nat->Nat}{r:Nat->Nat->List Value}
theorem rD.nil(o w:World)(e:TypeId)(sz:Nat)(Vs:Nat->Value)(len:Nat->Nat)(r:Nat->Nat->List Value):rD o w e sz 0 (.slice none 0 0) Vs len r:=
 ⟨World.ownsRow_nil _ _ _ _,fun j h=>(by cases h),fun j h=>J⟩
theorem rD.below(h:rD o w e sz k v Vs len r)(hb:Below w.heap.size w w'):rD o w' e sz k v Vs len r:=
 ⟨fT h.own fun j a=>hb.block j (h.own.lt j a).2,h.new,fun j a=>(h.each j a).below hb⟩
theorem rD.drew(h:rD o w e sz k v Vs len r):rD o w.drew e sz k v Vs len r:=⟨h.own,h.new,h.each⟩
theorem y5{α:Type}(f:Nat->α)(k:Nat)(u:α):(List.range (k+1)).map (put f k u)=(List.range k).map f++ [u]:=by
 rw[List.range_succ,cP];congr 1
 ·apply List.map_congr_left;intro j a;exact aw _ _ (by have:=List.mem_range.1 a;omega)
 ·simp[aP]
theorem rD.app{L L':List PL}{g cap:Nat}{u:Value}{rest:List Value}(h:rD o w e sz k v Vs len r)(U:Bx w (fun b=>bq none L b/\v.ownBlock≠some b) w' none L')(hi:In L' g e (((List.range k).map Vs++ [u])++rest))(n: ∀x,x∈L->x.g<o.heap.size)(i:v.ownBlock=some g\/w.heap.size<=g)
 (s:k+1<=cap/\cap<=maxLen/\(((List.range k).map Vs++ [u])++rest).length=cap*1)(hu:KC w (fun b=>o.heap.size<=b/\v.ownBlock≠some b) u (len k) sz (r k))(t:o.heap.size<=w.heap.size):
 rD o w' e sz (k+1) (.slice (some ⟨g,0,none⟩) (k+1) cap) (put Vs k u) len r:=by
 have p: ∀ {x:Value} {m:Nat} {G:Nat->List Value},KC w (fun b=>o.heap.size<=b/\v.ownBlock≠some b) x m sz G->KC w' (fun b=>o.heap.size<=b/\(Value.slice (some ⟨g,0,none⟩) (k+1) cap).ownBlock≠some b) x m sz G:=fun l=>
  ((l.mono (S':=fun b=>b<w.heap.size/\o.heap.size<=b/\v.ownBlock≠some b) fun b hb d=>⟨hb,d⟩).Wu (U.Wu.mono fun b _ d=>⟨⟨fun x l e=>by have:=n x l;omega,fun a e=>by cases e⟩,d.2.2⟩)).mono fun b _ d=>⟨d.2.1,fun e=>by
    have e:g=b:=by simpa [Value.ownBlock]using e
    subst e;rcases i with q|q
    ·exact d.2.2 q
    ·omega⟩
 refine⟨?_,fun j f=>?_,fun j f=>?_⟩
 ·rw[y5];exact jz (U.b hi) aN s
 ·have e:g=j:=by simpa [Value.ownBlock]using f
  subst e;rcases i with q|q
  ·exact h.new _ q
  ·omega
 ·by_cases c:j=k
  ·subst c;rw[aP];exact p hu
  ·rw[aw _ _ c];exact p (h.each j J)
abbrev FQ:Yr:=⟨.slice none 0 0,.slice none 0 0,.slice none 0 0,.slice none 0 0⟩
abbrev Pn(l:List dM):eD:=⟨l,fun _=>0,[],Ff,false,0⟩
structure y6(x7 w:World)(k:Nat)(v:Value)(O4 YS:Nat->Nat)(T6:Nat->Value)(bj:Nat->List dM):Prop where
 own:w.ownsRow 0 196 1 v k ((List.range k).map fun j=>Value.pointer (some ⟨O4 j,0,none⟩))
 new: ∀j,v.ownBlock=some j->x7.heap.size<=j
 XT: ∀j,j<k->fp w (fun b=>x7.heap.size<=b/\v.ownBlock≠some b/\∀i,i<k->b≠O4 i/\b≠YS i) (O4 j) (YS j) (T6 j) (.slice none 0 0) FQ (Pn (bj j))
 ge: ∀j,j<k->x7.heap.size<=O4 j/\x7.heap.size<=YS j
 ne: ∀i j,i<k->j<k->i≠j->O4 i≠O4 j/\YS i≠YS j
theorem y6.nil(b w:World)(a c:Nat->Nat)(T6:Nat->Value)(bj:Nat->List dM):y6 b w 0 (.slice none 0 0) a c T6 bj:=
 ⟨World.ownsRow_nil _ _ _ _,fun j h=>(by cases h),fun j h=>J,fun j h=>J,fun i j h=>J⟩
theorem ty{w:World}{e t:TypeId}{sz n b:Nat}{v:Value}{xs:List Value}{cs:Array Value}(h:w.ownsRow 0 e sz v n xs)(hb:ah w b t cs)(d:e≠t):v.ownBlock≠some b:=fun a=>by
 rcases h.2 with⟨rfl,_⟩|⟨g,cap,f,rfl,_,c,_⟩
 ·cases a
 ·cases a;exact ah.ne c hb d rfl
theorem y6.app{p wr:World}{f A:Nat->Nat}{T6:Nat->Value}{bj:Nat->List dM}{L L':List PL}{g gt gr cap:Nat}{u:Value}{rest:List Value}(h:y6 p wr k v f A T6 bj)(hb:Z1 (fun b=>p.heap.size<=b) wr w)(U:Bx w (fun b=>bq none L b/\v.ownBlock≠some b) w' none L')(hi:In L' g 196 (((List.range k).map (fun j=>Value.pointer (some ⟨f j,0,none⟩))++ [Value.pointer (some ⟨gt,0,none⟩)])++rest))
 (M:ah w' gt 200 (fI u (.slice (some ⟨gr,0,none⟩) 4 4) (.slice none 0 0) Ff FQ false 0).toArray)(O:ah w' gr 59 (bN .u64 4 fun _=>0).toArray)(C: ∀x,x∈L->x.g<p.heap.size\/x.g=gt\/x.g=gr)(S:p.heap.size<=wr.heap.size)(t:v.ownBlock=some g\/w.heap.size<=g)
 (Q:k+1<=cap/\cap<=maxLen/\(((List.range k).map (fun j=>Value.pointer (some ⟨f j,0,none⟩))++ [Value.pointer (some ⟨gt,0,none⟩)])++rest).length=cap*1)(hu:vO w (fun b=>wr.heap.size<=b/\b≠gt/\b≠gr) u (bj k))(T:wr.heap.size<=gt/\wr.heap.size<=gr):
 y6 p w' (k+1) (.slice (some ⟨g,0,none⟩) (k+1) cap) (put f k gt) (put A k gr) (put T6 k u) bj:=by
 have P:=hb.size;have N: ∀j,v.ownBlock=some j->j<wr.heap.size:=fun j n=>(h.own.lt j n).2;have s: ∀ {b:Nat},(Value.slice (some ⟨g,0,none⟩) (k+1) cap).ownBlock=some b->g=b:=fun e=>by simpa [Value.ownBlock]using e
 have K:Z1 (fun b=>p.heap.size<=b/\v.ownBlock≠some b) wr w':=⟨U.Wu.os.trans hb.os,U.Wu.tape.trans hb.tape,U.Wu.output.trans hb.output,D P U.Wu.size,fun b R l=>(U.Wu.block b J ⟨⟨fun x B e=>by
  rcases C x B with q|q|q<;>omega,fun a e=>by cases e⟩,l.2⟩).trans (hb.block b R l.1)⟩
 have y: ∀ {x:Value} {m sz:Nat} {G:Nat->List Value},KC wr (fun b=>p.heap.size<=b/\v.ownBlock≠some b/\∀i,i<k->b≠f i/\b≠A i) x m sz G->KC w' (fun b=>p.heap.size<=b/\(Value.slice (some ⟨g,0,none⟩) (k+1) cap).ownBlock≠some b/\∀i,i<k+1->b≠put f k gt i/\b≠put A k gr i) x m sz G:=fun B=>
  ((B.mono (S':=fun b=>b<wr.heap.size/\p.heap.size<=b/\v.ownBlock≠some b/\∀i,i<k->b≠f i/\b≠A i) fun b hb l=>⟨hb,l⟩).Wu (K.mono fun b _ l=>⟨l.2.1,l.2.2.1⟩)).mono fun b _ l=>⟨l.2.1,fun e=>by
    have e:=s e;subst e;rcases t with q|q
    ·exact l.2.2.1 q
    ·have:=l.1;omega,fun i hi=>by
    by_cases c:i=k
    ·subst c;rw[aP,aP];have:=l.1;omega
    ·rw[aw _ _ c,aw _ _ c];exact l.2.2.2 i J⟩
 have F: ∀j,j<k->f j<wr.heap.size/\A j<wr.heap.size:=fun j n=>⟨(h.XT j n).bC.lt,(h.XT j n).reg.lt⟩
 refine⟨?_,fun j n=>?_,fun j n=>?_,fun j n=>?_,fun i j hi n H=>?_⟩
 ·have e:(List.range (k+1)).map (fun j=>Value.pointer (some ⟨put f k gt j,0,none⟩))=(List.range k).map (fun j=>Value.pointer (some ⟨f j,0,none⟩))++ [Value.pointer (some ⟨gt,0,none⟩)]:=by
   rw[<-y5 (fun j=>Value.pointer (some ⟨f j,0,none⟩)) k];apply List.map_congr_left;intro j _;unfold put;split<;>rfl
  rw[e];exact jz (U.b hi) aN Q
 ·have e:=s n;subst e;rcases t with q|q
  ·exact h.new _ q
  ·omega
 ·by_cases c:j=k
  ·subst c;rw[aP,aP,aP];refine⟨M,O,?_,KC.nil _ _ _ _,⟨KC.nil _ _ _ _,KC.nil _ _ _ _,KC.nil _ _ _ _,KC.nil _ _ _ _⟩⟩;exact((hu.mono (S':=fun b=>b<w.heap.size/\wr.heap.size<=b/\b≠gt/\b≠gr) fun b hb l=>⟨hb,l⟩).Wu (U.Wu.mono fun b _ l=>⟨⟨fun x B e=>by
    rcases C x B with q|q|q
    ·omega
    ·exact l.2.2.1 J
    ·exact l.2.2.2 J,fun a e=>by cases e⟩,fun e=>by have:=N _ e;omega⟩)).mono fun b _ l=>⟨J,fun e=>by
    have e:=s e;subst e;rcases t with q|q
    ·have:=N _ q;omega
    ·have:=l.1;omega,fun i hi=>by
    by_cases c:i=j
    ·subst c;rw[aP,aP];exact l.2.2
    ·rw[aw _ _ c,aw _ _ c];have:=F i J;omega⟩
  ·rw[aw _ _ c,aw _ _ c,aw _ _ c];have z:=h.XT j J;have q:=h.ge j J;exact⟨(K.block _ z.bC.lt ⟨q.1,ty h.own z.bC am⟩).trans z.bC,(K.block _ z.reg.lt ⟨q.2,ty h.own z.reg am⟩).trans z.reg,y z.sq,y z.m6,⟨y z.run.TQ,y z.run.ls,y z.run.Wh,y z.run.Y1⟩⟩
 ·by_cases c:j=k
  ·subst c;rw[aP,aP];omega
  ·rw[aw _ _ c,aw _ _ c];exact h.ge j J
 ·by_cases c:i=k
  ·subst c;have:=F j J;rw[aP,aP,aw _ _ (fun e=>H e.symm),aw _ _ (fun e=>H e.symm)];omega
  ·by_cases d:j=k
   ·subst d;have:=F i J;rw[aP,aP,aw _ _ c,aw _ _ c];omega
   ·rw[aw _ _ c,aw _ _ c,aw _ _ d,aw _ _ d];exact h.ne i j J J H
theorem wy(l:List dM):hl l.length 7 (yZ l):=fun i hi=>by
 unfold yZ;rw[an hi];exact⟨rfl,fun u hu=>by
  simp only[bt,Option.getD_some,hP,ad,E,av]at hu
  (repeat' rcases hu with rfl|hu)<;>first|rfl|(subst hu;rfl)⟩
theorem KC.Qq{w:World}{e:TypeId}{k:Nat}{v:Value}{f:Nat->Value}(h:w.ownsRow 0 e 1 v k ((List.range k).map f)):KC w (fun b=>v.ownBlock=some b) v k 1 fun i=> [f i]:=by
 rcases h.2 with⟨rfl,rfl⟩|⟨g,cap,l,rfl,_,c,p,n,q,m⟩
 ·exact KC.nil _ _ _ _
 ·refine⟨_,cap,rfl,p,n,fun _=>⟨g,0,rfl,rfl,ah.lt c,fun i j u hi hu=>?_⟩⟩;have d:j=0:=by
   rcases j with _|j
   ·rfl
   ·simp at hu
  subst d;have hu:f i=u:=by simpa using hu
  rw[ah.cell (cs:=l) c,show 0+(i*1+0)=i from J];have a:(l.toList.take (k*1))[i]? =some u:=by
   rw[m,a3,a1 hi,bt,hu]
  rw[List.getElem?_take]at a;have:i<k*1:=J;rw[Z this,Array.getElem?_toList]at a;exact a
theorem Ms{w0 o u w:World}{p:PO}{F:b1}{n ap y d rg c x T:Nat}{N H:Value}{Vs:Nat->Value}{L:Nat->Nat}{g A:Nat->Nat}{T6:Nat->Value}{bj:Nat->List dM}(hb:ah w c 142 (gh p N ap d H (.slice none 0 0) 0).toArray)(a:y6 u w T H g A T6 bj)(hF:rD o u 95 3 F.length N Vs L fun j=>jQ (F.getD j []))(X: ∀j,(F.getD j []).length=L j)
 (M:ar u ap y n (V0 p))(K:cY u d rg (64*p.s+p.i) (64*p.s+p.i+p.h) (if 0<p.h then [⟨64*p.s+p.i,p.h⟩]else []))(k:Z1 (fun b=>b≠c/\b≠x) u w)(Ub:o.heap.size<=u.heap.size)(bV:(ap<o.heap.size/\y<o.heap.size/\ap≠y)/\(d<o.heap.size/\rg<o.heap.size)/\c<o.heap.size/\x<o.heap.size/\w0.heap.size<=x/\w0.heap.size<=c)
 (agf:w0.heap.size<=ap/\w0.heap.size<=y/\w0.heap.size<=d/\w0.heap.size<=rg)(Q:ap≠d/\ap≠rg/\y≠d/\y≠rg)(C:(ap≠x/\y≠x/\d≠x/\rg≠x)/\ap≠c/\y≠c/\d≠c/\rg≠c)(O:p.t.toNat=T):
 ∃B:WB,B.O3=c/\df w B p F n (l2 p bj)/\∀b,Ur B T b\/B.Yi b->w0.heap.size<=b:=by
 subst O;have adq:=k.size;have adj:w0.heap.size<=o.heap.size:=J
 let B:WB:=⟨c,ap,y,d,rg,w.heap.size,N,H,.slice none 0 0,Vs,g,A,T6,fun _=>.slice none 0 0,fun _=>FQ,fun b=>w0.heap.size<=b⟩
 have R: ∀j,j<p.t.toNat->g j<w.heap.size/\A j<w.heap.size:=fun j f=>⟨(a.XT j f).bC.lt,(a.XT j f).reg.lt⟩
 have Yi: ∀b,o.heap.size<=b->b<w.heap.size->(∀j,j<p.t.toNat->b≠g j/\b≠A j)->Ve B p.t.toNat b:=fun b h1 Tw W=>⟨fun hm=>by
  rcases hm with h|h|h|h|h|h|⟨j,f,h⟩
  ·have h:b=c:=h;omega
  ·have h:b=ap:=h;omega
  ·have h:b=y:=h;omega
  ·have h:b=d:=h;omega
  ·have h:b=rg:=h;omega
  ·have h:b=w.heap.size:=h;omega
  ·have h:b=g j\/b=A j:=h;have:=W j f;omega,by show w0.heap.size<=b;omega⟩
 have old: ∀ {v:Value} {m sz:Nat} {G:Nat->List Value} {P:Nat->Prop},KC u P v m sz G->(∀b,P b->o.heap.size<=b)->KC w (Ve B p.t.toNat) v m sz G:=fun z U=>
  ((z.mono (S':=fun b=>b<u.heap.size/\o.heap.size<=b) fun b hb z=>⟨hb,U b z⟩).Wu (k.mono fun b _ z=>⟨J,J⟩)).mono fun b hb z=>Yi b z.2 hb fun j f=>by have:=a.ge j f;omega
 refine⟨B,rfl,⟨hb,ar.j3 M (k.block ap M.c9.1 ⟨C.2.1,C.1.1⟩) (k.block y M.c9.2.1 ⟨C.2.2.1,C.1.2.1⟩),K.Wu (k.block d K.lt.1 ⟨C.2.2.2.1,C.1.2.2.1⟩) (k.block rg K.lt.2 ⟨C.2.2.2.2,C.1.2.2.2⟩),⟨old (KC.Qq hF.own) fun b hb=>hF.new b hb,fun i l V=>?_⟩,(KC.Qq a.own).mono fun b hb z=>Yi b (by have:=a.new b z;omega) hb fun j f=>⟨fun e=>ty a.own (a.XT j f).bC am (by rw[<-e];exact z),fun e=>ty a.own (a.XT j f).reg am (by rw[<-e];exact z)⟩,fun i hi=>(a.XT i hi).mono fun b hb z=>Yi b J hb z.2.2,⟨[],rfl,(fun q S=>by cases S),.inl ⟨rfl,rfl⟩⟩,a.ne,fun i hi=>by have:=a.ge i hi;show A i≠y;omega,⟨Q.1,Q.2.1,by show ap≠w.heap.size;omega,C.2.1,fun i hi=>by have:=a.ge i hi;show ap≠g i/\ap≠A i;omega⟩,⟨by show w.heap.size≠c;omega,by show w.heap.size≠y;omega,by show w.heap.size≠d;omega,by show w.heap.size≠rg;omega,fun i hi=>by have:=R i hi;show w.heap.size≠g i/\w.heap.size≠A i;omega⟩⟩,fun b hm=>?_⟩
 ·obtain⟨hi,rfl⟩:=List.getElem?_eq_some_iff.1 V;have e:F.getD i []=F[i]:=by rw[ae,an hi];rfl
  have:=hF.each i hi;rw[<-X i,e]at this;exact old this fun b hb=>hb.1
 ·rcases hm with(h|h|h|h|h|h|⟨j,f,h⟩)|h
  ·have h:b=c:=h;omega
  ·have h:b=ap:=h;omega
  ·have h:b=y:=h;omega
  ·have h:b=d:=h;omega
  ·have h:b=rg:=h;omega
  ·have h:b=w.heap.size:=h;omega
  ·have h:b=g j\/b=A j:=h;have:=a.ge j f;omega
  ·exact h
theorem wz:(Tryz.prog.info? 196).map (fun i=>(i.zero,i.size,i.bytes))=some (some (.pointer none),1,8):=aM
theorem s0:Tryz.prog.underlying 140=some (.slice 196):=aM
theorem jA:(Tryz.prog.info? 95).map (fun i=>(i.zero,i.size,i.bytes))=some (some (.slice none 0 0),1,24):=aM
theorem hM:Tryz.prog.underlying 28=some (.slice 95):=aM
end
section
open Go.RowKit Tryz
theorem Bx.Mt{w0 w:World}{S:Nat->Prop}{L:List PL}(h:Bx w0 S w none L){p g n:Nat}{V:Nat->Int}(f:ar w p g n V)(c:je L p)(d:je L g)(b:w0.heap.size<=g\/¬S g):Bx w0 S w (some ⟨p,g,n,V⟩) L:=
 ⟨h.bC,h.UH,h.fr,h.Wu,f,fun a e=>by cases e;exact⟨c,d,b⟩⟩
theorem CZ(a:Nat):e1 (fun _=>0) a=0:=rfl
theorem BU(w0:World)(b z:Int)(g:0<=b/\b<=65536/\0<=z/\z<=65536)(f:b %8=0/\z %8=0):
 Calls prog 198 #[.int .i64 b,.int .i64 z] w0 fun e w'=> ∃a rg,e= .returned (.tuple #[.pointer (some ⟨a,0,none⟩),.int .i64 0])/\cY w' a rg b (b+z) (if 0<z then [⟨b,z⟩]else [])/\w0.heap.size<=a/\w0.heap.size<=rg/\Z1 (fun _=>True) w0 w':=by
 by_cases h:0<z
 ·rw[Z h];exact IN w0 b z J f
 ·rw[Y h];obtain rfl:z=0:=J;refine Calls.mono (IP w0 b J f.1) ?_;rintro e w' ⟨a,rfl,d,h1,c⟩;exact⟨a,a,rfl,by rw[cI];exact d,h1,h1,c⟩
theorem Ja(n:Nat)(w:World)(h:8*n<=65536):
 Calls prog 197 #[.int .i64 (8*(n:Int))] w fun e w'=> ∃p g,e= .returned (.tuple #[.pointer (some ⟨p,0,none⟩),.int .i64 0])/\ar w' p g n (fun _=>0)/\Below w.heap.size w w'/\w.heap.size<=p/\w.heap.size<=g:=by
 refine Calls.mono (Lm (8*n) w h J) ?_;rintro e w' ⟨p,g,rfl,b,hb,h1,a⟩;exact⟨p,g,rfl,⟨_,b,fun i _=>CZ _⟩,hb,h1,a⟩
theorem Jb(w0:World)(p:PO)(n:Nat)(c:a9 p)(q:8*(n:Int)=64*p.s+p.i+p.h):
 Calls prog 119 #[ej p] w0 fun e w'=> ∃ap d a rg,e= .returned (.tuple #[.pointer (some ⟨ap,0,none⟩),.pointer (some ⟨a,0,none⟩),.int .i64 0])/\ar w' ap d n (V0 p)/\cY w' a rg (64*p.s+p.i) (64*p.s+p.i+p.h) (if 0<p.h then [⟨64*p.s+p.i,p.h⟩]else [])/\(w0.heap.size<=ap/\w0.heap.size<=d/\w0.heap.size<=a/\w0.heap.size<=rg)/\(ap≠a/\ap≠rg/\d≠a/\d≠rg)/\Below w0.heap.size w0 w':=by
 have YF:=c.s;have hi:=c.i;have S:=c.h;have x:=I c.ok;have K:=I c;have v:=I q;have U:=Bx.a0 w0;have X:IntKind.u64.wrap (p.s*64)=p.s*64:=by rw[IntKind.wrap_u64];omega
 have V:IntKind.u64.wrap p.i=p.i:=by rw[IntKind.wrap_u64];omega
 have afr:p.s*64+p.i+p.h=8*(n:Int):=J;obtain⟨W,H⟩: ∃f:List Ext,Hid ((if 0<p.h then [⟨64*p.s+p.i,p.h⟩]else [])=f):=⟨_,I rfl⟩
 rw[H.out];clear c q;go_enter func119,ntmps119;go_wp2_with(first|(go_at_call 196;refine a6 U (IJ p.s p.t p.i p.h _ x J J J) ?_;clear U;intro b U)|(go_at_call 197;refine Calls.mono (Ja n _ (by have:=v.out;omega)) ?_;rintro e b ⟨ap,d,rfl,A,N,G,u⟩;have B:=I (And.intro (D U.size G) (D U.size u));replace U:=(U.below N).Mt A (U.nx G) (U.nx u) (.inl (D U.size u));clear N A)|(go_at_call 153;refine a6 U (pR p.s p.t p.i p.h _ x J J) ?_;clear U;intro b U)|(go_at_call 199;refine a6 U (jS p.s p.t p.i p.h _ x J) ?_;clear U;intro b U)|(go_at_call 198;refine Calls.mono (BU _ _ _ J J) ?_;rintro e b ⟨a,rg,rfl,M,z,O,L⟩;have y:=I M;have C:=I (U.hO z);have F:=I (U.hO O);have o:=U.below L.q9;have Q:=I (show ap≠a/\ap≠rg/\d≠a/\d≠rg by have T:=U.bB.c9.1;have aaj:=U.bB.c9.2.1;exact⟨J,J,J,J⟩);clear U M L;have U:=o.base)|(go_at_call 200;refine Calls.mono (AJ _ p ap d n _ 0 ⟨2,1,-1,0⟩ U.bB K.out J (by have:=v.out;omega) ⟨am,am,am,am⟩) ?_;rintro e b ⟨rfl,m,N⟩;replace U:=U.arena m N;clear m N)|(go_at_call 201;refine Calls.mono (tw _ p ap d n _ 0 _ _ U.bB K.out J J (by have:=v.out;omega) (by unfold aR;omega)) ?_;rintro e b ⟨rfl,m,N⟩;replace U:=U.arena m N;clear m N)|(refine aq ?_)|(refine aT ?_;clear U;intro X8 w U R));go_ret3;have P:=o.back U;have j:=y.out;rw[show p.s*64=64*p.s from Int.mul_comm _ _,H.out]at j;refine⟨ap,d,a,rg,rfl,U.bB.ext fun i hi=>?_,j.Wu (U.Wu.block a j.lt.1 C.out.2) (U.Wu.block rg j.lt.2 F.out.2),⟨B.out.1,B.out.2,C.out.1,F.out.1⟩,Q.out,P.all⟩;show upd (upd (upd (fun _=>0) 0 6) 1 (p.s*64)) 2 p.i i=V0 p i;unfold upd V0;by_cases l:i=2
 ·subst l;rfl
 by_cases h1:i=1
 ·subst h1;rw[Y am,Z rfl,Y am,Z rfl];omega
 rw[Y l,Y h1];by_cases r:i=0
 ·rw[Z r,Z r]
 ·rw[Y r,Y r,Y h1,Y l]
end
section
open Go.RowKit Tryz
theorem oj{G:Prop}(h:G:=by
 refine WE Z7 fun X=>?_;refine aF 7 fun K Z7=>?_;rw[Z (by rfl)];refine bK U 28 95 _ rfl _ [.slice Tx (U0 k) ZM] rfl rfl (.slice none 0 0) 1 24 hM jA rfl (by decide) (by decide) ?_;clear U;intro di w U dO;exact ol):G:=h
theorem ol{G:Prop}(h:G:=by
 refine WE Z7 fun X=>?_;refine aF 8 fun K Z7=>?_;rw[Z (by rfl)];have dI:=U.size;refine eX U T9.own (fun j OV=>⟨fun x Wy e=>by have:=T9.new j OV;have:=cH.out;simp only[ad,E,av]at Wy;rcases Wy with rfl|rfl<;>(simp only at e;omega),fun a e=>by cases e⟩) _ _ 28 rfl (.slice none 0 0) 24 hM jA rfl (by decide) rfl ⟨di,0,none⟩ 1 1 [.slice Tx (U0 k) ZM] rfl rfl (by decide) (U.news ag) rfl (by unfold maxLen;omega) (by omega) ?_;clear U;intro g' cW lL w U e8 lm;replace e8:=e8.imp id (D dI);clear dI;refine WE Z7 fun X=>?_;refine az [[9,10],[11]] ?_;clear U;intro w U;go_wp2_with(first|(refine aq ?_)|(refine Ws U 27 ?_;clear U;intro hk w U om)|(refine Ws U 142 ?_;clear U;intro iC w U qP)|(refine Ws U 200 ?_;clear U;intro mX w U sv)|(refine Po U ?_;clear U;intro w U));go_roundw
 case rel=>exact⟨k+1,_,put Vs k (.slice Tx (U0 k) ZM),by omega,by go_num,((DI.j5 U).mI (fun b hb e=>by have:=T9.new _ e;omega)).c6.c6,T9.app U ag (fun x Wy=>by have:=cH.out;simp only[ad,E,av]at Wy;rcases Wy with rfl|rfl<;>(simp only;omega)) e8 lm hu.out Ub⟩
 case measure=>simp[intOf];omega):G:=h
theorem Jc(w:World)(A:Option Addr)(n c:Nat)(a:n<=64):
 Calls prog 117 #[.slice A n c] w fun e w'=>e= .returned (.bool false)/\Below w.heap.size w w':=by
 have e:decide ((n:Int)>64)=false:=by simp;omega
 have U:=Bx.a0 w;go_enter func117,ntmps117;go_wp2_with(first|fail);go_ret;exact⟨rfl,U.all⟩
theorem aco(w0:World)(p:PO)(F:b1)(n:Nat)(bj:Nat->List dM)(d:Nat->Prop)(Y8 Vh:Value)(P Vp:Nat->Value)(Q:a9 p)(U4:8*(n:Int)=64*p.s+p.i+p.h)(hF:eF w0 d Y8 F P)(m7:F.length<=8)(T9: ∀l,l∈F->l.length<=8/\∀o,o∈l->lv o)
 (XG:KC w0 d Vh p.t.toNat 1 fun i=> [Vp i])(VG: ∀i,i<p.t.toNat->vO w0 d (Vp i) (bj i)/\(bj i).length<=64):
 Calls prog 65 #[ej p,Y8,Vh] w0 fun e w'=> ∃B:WB,e= .returned (.tuple #[.pointer (some ⟨B.O3,0,none⟩),.int .i64 0])/\df w' B p F n (l2 p bj)/\Below w0.heap.size w0 w'/\∀b,Ur B p.t.toNat b\/B.Yi b->w0.heap.size<=b:=by
 obtain⟨T,C⟩: ∃T,p.t.toNat=T:=⟨_,rfl⟩
 rw[C]at XG VG;have Vg:=Q.t;have Yj:p.t=(T:Int):=J;have mH:T<=4:=J;obtain⟨af5,U6,rfl,f1,f2,f3⟩:=id hF.row;obtain⟨aft,VY,rfl,vD,agb,abj⟩:=id XG;have p3:=I Q.ok;have gv:=I Q;have ZG:=I U4;have WX:=I hF;have U3:=I T9;have ZR:=I XG;have YT:=I VG;have YQ:=I C;have ae6:=I (show∀args w,(callFunc 117 args).run prog w= .ok (.enter 117 args) w from enters_of func117 aM rfl);have U:=Bx.a0 w0;have d0:decide ((T:Int)>p.t)=false:=by simp;omega
 replace Yj:=I Yj;clear Q U4 hF T9 XG VG C f1 f2 f3 vD agb abj;go_enter func65,ntmps65;go_wp2_with(first|(go_at_call 77;refine a6 U (kJ p.s p.t p.i p.h _ p3.out) ?_;clear U;intro m U)|(go_at_call 70;refine a6 U (sj _ d _ F P (WX.out.below U.all) m7 U3.out) ?_;clear U;intro m U)|(go_at_call 118;refine Calls.mono (acc _ d _ T (fun i=> [Vp i]) Vp _ #[] (fun i=>false) ae6.out (ZR.out.below U.all) (fun i hi=>rfl) J (fun i hi w' hb=>by obtain⟨A,c,e,_⟩:=(YT.out i hi).1;rw[e];exact Jc _ _ _ _ (YT.out i hi).2)) ?_;rintro e m ⟨r,rfl,O,N⟩;obtain rfl:r=false:=(by rcases O with⟨O,_⟩|⟨_,i,_,h⟩;exact O;cases h);replace U:=U.below N;clear N O)|(go_at_call 119;refine Calls.mono (Jb _ p n gv.out ZG.out) ?_;rintro e m ⟨ap,WC,u,rg,rfl,aH,dP,⟨Vt,Y6,UI,W3⟩,KQ,N⟩;have FW:=I aH;have FX:=I dP;have FY:=I KQ;have v:=I (And.intro (U.hO Vt) (And.intro (U.hO Y6) (And.intro (U.hO UI) (U.hO W3))));have DI:=U.below N;have Mu:=I DI.all;have Px:=I (fun(b:Nat) (hb:b<w0.heap.size)=>DI.keeps hb trivial);clear U aH dP KQ N Vt Y6 UI W3;have U:=DI.base;clear DI)|(refine aq ?_)|(refine Ws U 27 ?_;clear U;intro hk w U om)|(refine Ws U 142 ?_;clear U;intro iC w U qP)|(refine Ws U 200 ?_;clear U;intro mX w U sv)|(refine Po U ?_;clear U;intro w U));have UL:=I (U.AS Mu.out Px.out);have Zn:=I (ar.j3 FW.out (U.Wu.block ap FW.out.c9.1 v.out.1.2) (U.Wu.block WC FW.out.c9.2.1 v.out.2.1.2));have y:=I (FX.out.Wu (U.Wu.block u FX.out.lt.1 v.out.2.2.1.2) (U.Wu.block rg FX.out.lt.2 v.out.2.2.2.2));have L:=I (show(ap≠hk/\WC≠hk/\u≠hk/\rg≠hk)/\ap≠iC/\WC≠iC/\u≠iC/\rg≠iC by
  have adf:=FW.out.c9;have aaj:=FX.out.lt;have V5: ∀ {b:Nat},bq none [⟨hk,27,[.int .i64 p.s,.int .i64 p.t,.int .i64 p.i,.int .i64 p.h]⟩] b->b≠hk:=fun h e=>h.1 _ a8 e.symm;exact⟨⟨V5 v.out.1.2,V5 v.out.2.1.2,V5 v.out.2.2.1.2,V5 v.out.2.2.2.2⟩,J,J,J,J⟩)
 have Jd:=U.b (g:=hk) ag;have cH:=I (And.intro (U.b (g:=iC) ag).lt (And.intro Jd.lt (And.intro om (D Mu.out.size qP))));have s1:=Bx.two (U.b (g:=iC) ag) Jd ((U.b (g:=iC) ag).ne Jd am);obtain⟨q,Ss⟩: ∃q,q=w:=⟨_,rfl⟩
 subst Ss;have eB:=I s1;clear U s1 Jd FW FX Mu Px;obtain⟨U0,fH⟩: ∃U0:Nat->Nat,Hid (∀j,(F.getD j []).length=U0 j):=⟨fun j=>(F.getD j []).length,I fun j=>rfl⟩
 go_loopw [50] (fun i wr=> ∃(k:Nat) (C0:Value) (Vs:Nat->Value),k<=F.length/\i= .int .i64 k/\Bx q (fun b=>b≠iC/\b≠hk) wr none [⟨iC,142,gh p C0 ap u (.slice none 0 0) (.slice none 0 0) 0⟩,⟨hk,27,[.int .i64 p.s,.int .i64 p.t,.int .i64 p.i,.int .i64 p.h]⟩]/\rD q wr 95 3 k C0 Vs U0 (fun j=>jQ (F.getD j []))) (fun i _=>F.length-(intOf i).toNat)
 case atStart=>exact⟨0,.slice none 0 0,P,J,rfl,eB.out,rD.nil _ _ _ _ _ _ _⟩
 case round=>
  obtain⟨k,C0,Vs,TS,rfl,U,T9⟩:=hrel;clear eB;have G:=U.AS UL.out fun b hb=>(by have:=cH.out;omega)
  by_cases R:k<F.length
  ·obtain⟨Tz,tM,h1,M,Mv,ZV⟩:=id WX.out.row;cases h1;obtain⟨b,off,rfl,YF,fC,XP⟩:=ZV J;have Wy:=(G.cell (p:=⟨b,off+k,none⟩) fC).trans (by simpa using XP k 0 _ R rfl);have H:=WX.out.each k (F.getD k []) (by rw[ae,an R];rfl);have uG:(F.getD k []).length<=65536:=by
    have:=(U3.out (F.getD k []) (by rw[ae,an R];exact bA R)).1;omega
   rw[fH.out k]at uG;have H:KC w0 d (P k) (U0 k) 3 (jQ (F.getD k [])):=by rw[<-fH.out k];exact H
   obtain⟨Tu,XO,f,-,-,-⟩:=id H;have Py:=I (H.below G);rw[f]at Wy Py;clear f H M Mv ZV XP G;have WU:(k:Int)<(F.length:Int):=J;have tV:(0:Int)<=(k:Int):=J;go_upto_region 9 with(first|(refine aq ?_)|(refine Ws U 27 ?_;clear U;intro hk w U om)|(refine Ws U 142 ?_;clear U;intro iC w U qP)|(refine Ws U 200 ?_;clear U;intro mX w U sv)|(refine Po U ?_;clear U;intro w U))
   clear Wy;have WS:=I Py.out.drew;replace T9:=T9.drew;have KR:=I fun j OV=>(T9.own.lt j OV).2;replace U:=U.drew;refine wp_region_held_drew (S:=(c0 [⟨hk,27,[.int .i64 p.s,.int .i64 p.t,.int .i64 p.i,.int .i64 p.h]⟩])) aM ?_ (fun X=>?_)
   ·exact U.bG aN
   refine az [[0,1,2,3,5]] ?_;refine Zj [4,6] ?_;refine ea (fun K Z7=>?_) ?_
   ·refine YL U ?_;refine WE Z7 fun X=>?_;refine aF 6 fun K Z7=>?_;go_simp
    (go_at_call 120;refine Calls.mono (nl _ d _ _ _ WS.out uG (pQ _ _)) ?_;rintro e m ⟨v',rfl,hv,N⟩;obtain⟨Tx,ZM,rfl,-,-,-⟩:=id hv;have DI:=U.below N;replace T9:=(T9.below N);have hu:=I (hv.mono (S':=fun b=>q.heap.size<=b/\C0.ownBlock≠some b) fun b _ hb=>⟨D U.size hb,fun e=>by have:=(KR.out _ e);omega⟩);have Ub:=DI.size;clear U N hv;have U:=DI.base)
    go_wp2_with fail;exact oj
   refine ei (fun K Z7=>?_);go_simp
   (go_at_call 120;refine Calls.mono (nl _ d _ _ _ WS.out uG (pQ _ _)) ?_;rintro e m ⟨v',rfl,hv,N⟩;obtain⟨Tx,ZM,rfl,-,-,-⟩:=id hv;have DI:=U.below N;replace T9:=(T9.below N);have hu:=I (hv.mono (S':=fun b=>q.heap.size<=b/\C0.ownBlock≠some b) fun b _ hb=>⟨D U.size hb,fun e=>by have:=(KR.out _ e);omega⟩);have Ub:=DI.size;clear U N hv;have U:=DI.base)
   go_wp2_with fail;refine WE Z7 fun X=>?_;refine Zj [4,7] ?_;refine ea (fun K Z7=>?_) ?_
   ·refine YL U ?_;exact oj
   refine ei (fun K Z7=>?_);rw[Z (by rfl)];refine bK U 28 95 _ rfl _ [.slice Tx (U0 k) ZM] rfl rfl (.slice none 0 0) 1 24 hM jA rfl am am ?_;clear U;intro di w U dO;refine WE Z7 fun X=>?_;refine aF 4 fun K Z7=>?_;refine YL U ?_;exact ol
  ·obtain e:k=F.length:=by omega
   subst e;have Zh: ¬(F.length:Int)<(F.length:Int):=J;have AL:=I (ar.j3 Zn.out (U.Wu.block ap Zn.out.c9.1 ⟨L.out.2.1,L.out.1.1⟩) (U.Wu.block WC Zn.out.c9.2.1 ⟨L.out.2.2.1,L.out.1.2.1⟩));have y9:=I (y.out.Wu (U.Wu.block u y.out.lt.1 ⟨L.out.2.2.2.1,L.out.1.2.2.1⟩) (U.Wu.block rg y.out.lt.2 ⟨L.out.2.2.2.2,L.out.1.2.2.2⟩));have FZ:=I T9;have Mw:=I G;have Je:=I U.size;have St:=I (And.intro Zn.out.c9 (And.intro y.out.lt cH.out));have s1:=Bx.two (U.b (g:=iC) ag) (U.b (g:=hk) ag) ((U.b (g:=iC) ag).ne (U.b (g:=hk) ag) am);clear U T9 G Zn y UL;have U:=s1;clear s1;obtain⟨z,Su⟩: ∃z,z=wr:=⟨_,rfl⟩
   subst Su;go_wp2_with(first|(refine aq ?_)|(refine Ws U 27 ?_;clear U;intro hk w U om)|(refine Ws U 142 ?_;clear U;intro iC w U qP)|(refine Ws U 200 ?_;clear U;intro mX w U sv)|(refine Po U ?_;clear U;intro w U));have eB:=I U;clear U;go_loopw [68] (fun i wr=> ∃(k:Nat) (W:Value) (V YS:Nat->Nat) (T6:Nat->Value),k<=T/\i= .int .i64 k/\Bx z (fun b=>b≠iC/\b≠hk) wr none [⟨iC,142,gh p C0 ap u W (.slice none 0 0) 0⟩,⟨hk,27,[.int .i64 p.s,.int .i64 p.t,.int .i64 p.i,.int .i64 p.h]⟩]/\y6 z wr k W V YS T6 bj) (fun i _=>T-(intOf i).toNat)
   case atStart=>exact⟨0,.slice none 0 0,fun _=>0,fun _=>0,Vp,J,rfl,eB.out,y6.nil _ _ _ _ _ _⟩
   case round=>
    obtain⟨k,W,V,YS,T6,TS,rfl,U,T9⟩:=hrel;clear eB;have G:=U.AS Mw.out fun b hb=>(by have:=cH.out;omega)
    have z6:decide ((k:Int)<p.t)=decide (k<T):=by rw[Yj.out];simp
    by_cases R:k<T
    ·obtain⟨Tz,tM,h1,M,Mv,ZV⟩:=id ZR.out;cases h1;obtain⟨b,off,rfl,YF,fC,XP⟩:=ZV J;have Wy:=(G.cell (p:=⟨b,off+k,none⟩) fC).trans (by simpa using XP k 0 _ R rfl);have H:=(YT.out k R).1;obtain⟨Tu,XO,f,-,-,-⟩:=id H;have uG:(bj k).length<=65536:=by have:=(YT.out k R).2;omega
     have WS:=I H;have Pz:=I G;rw[f]at Wy WS;clear f H M Mv ZV XP G;have WU:(k:Int)<(T:Int):=J;have tV:(0:Int)<=(k:Int):=J;have Xi:(k:Int)<p.t:=by rw[Yj.out];omega
     have ka:=I U.size;have ir:=U;clear U;have U:=ir.base;go_upto_region 16 with(first|(refine g5 U rfl _ _ 54 rfl 59 .u64 8 cL fK 4 rfl rfl J am ?_;clear U;intro tl w U za;refine cN ?_)|(refine aq ?_)|(refine Ws U 27 ?_;clear U;intro hk w U om)|(refine Ws U 142 ?_;clear U;intro iC w U qP)|(refine Ws U 200 ?_;clear U;intro mX w U sv)|(refine Po U ?_;clear U;intro w U))
     replace Wy:=(U.Wu.cell (p:=⟨b,off+k,none⟩) (aj fC Pz.out.size) (ir.keeps (aj fC Mw.out.size) (by have:=cH.out;simp only;omega))).trans Wy;go_wp2_with(first|(refine g5 U rfl _ _ 54 rfl 59 .u64 8 cL fK 4 rfl rfl J am ?_;clear U;intro tl w U za;refine cN ?_)|(go_at_call 121;refine Calls.mono (ac6 _ d _ _ _ (WS.out.Wu (Z1.cg (U.AS Pz.out fun b hb=>ir.keeps (aj hb Mw.out.size) (by have:=cH.out;omega)))) uG (wy _)) ?_;rintro e m ⟨v',rfl,hv,N⟩;obtain⟨Tx,ZM,rfl,-,-,-⟩:=id hv;have DI:=U.below N;have hu:=I hv;have y9:=I (And.intro (U.b (g:=mX) ag).lt (And.intro (U.b (g:=tl) ag).lt U.size));clear U N hv;have U:=DI.base)|(refine dE U rfl 140 196 _ rfl _ [.pointer (some ⟨mX,0,none⟩)] rfl rfl (.pointer none) 1 8 s0 wz rfl am am ?_;clear U;intro di w U dO;refine cN ?_)|(have dI:=U.size;refine g0 U (fT T9.own fun j OV=>DI.Wu.block j (T9.own.lt j OV).2 ⟨fun x Wy e=>by have:=T9.new j OV;have:=cH.out;have:=ka.out;have:=Je.out;simp only[ad,E,av]at Wy;rcases Wy with rfl|rfl<;>(simp only at e;omega),fun a e=>by cases e⟩) (fun j OV=>⟨fun x Wy e=>by have:=T9.new j OV;have:=cH.out;have:=ka.out;have:=(T9.own.lt j OV).2;have:=Je.out;simp only[ad,E,av]at Wy;rcases Wy with rfl|rfl|rfl|rfl<;>(simp only at e;omega),fun a e=>by cases e⟩) rfl _ _ 140 rfl (.pointer none) 8 s0 wz rfl am rfl ⟨di,0,none⟩ 1 1 [.pointer (some ⟨mX,0,none⟩)] rfl rfl am (U.news ag) rfl (by unfold maxLen;omega) J ?_;clear U;intro g' cW lL w U e8 lm;replace e8:=e8.imp id (D dI);clear dI;refine cN ?_)|(refine aq ?_)|(refine Ws U 27 ?_;clear U;intro hk w U om)|(refine Ws U 142 ?_;clear U;intro iC w U qP)|(refine Ws U 200 ?_;clear U;intro mX w U sv)|(refine Po U ?_;clear U;intro w U));go_roundw
     case rel=>
      have C:=U.b (g:=mX) ag;have Mr:=U.b (g:=tl) ag;have h1:=cH.out;have M:=Je.out;have acY:=DI.Wu.mono (S':=fun b=>z.heap.size<=b) fun b _ hb=>⟨fun x Wy e=>by
       simp only[ad,E,av]at Wy;rcases Wy with rfl|rfl<;>(simp only at e;omega),fun a e=>by cases e⟩
      exact⟨k+1,_,put V k mX,put YS k tl,put T6 k (.slice Tx (bj k).length ZM),J,by go_num,(((ir.back DI).j5 U).mI (fun b hb e=>by have:=T9.new _ e;omega)).c6.c6.c6.c6,T9.app (gt:=mX) (gr:=tl) acY U cX C Mr (fun x Wy=>by
       simp only[ad,E,av]at Wy;rcases Wy with rfl|rfl|rfl|rfl
       ·exact .inr (.inl rfl)
       ·exact .inr (.inr rfl)
       ·exact .inl (by simp only;omega)
       ·exact .inl (by simp only;omega)) ka.out e8 lm (KC.mono hu.out fun b _ hb=>by have:=y9.out;omega) J⟩
     case measure=>simp[intOf];omega
    ·obtain e:k=T:=by omega
     subst e;have Zh: ¬(k:Int)<p.t:=by rw[Yj.out];omega
     go_wp2_with(first|(refine aq ?_)|(refine Ws U 27 ?_;clear U;intro hk w U om)|(refine Ws U 142 ?_;clear U;intro iC w U qP)|(refine Ws U 200 ?_;clear U;intro mX w U sv)|(refine Po U ?_;clear U;intro w U));go_ret2;obtain⟨B,UR,UN,f⟩:=Ms (w0:=w0) (U.b (g:=iC) ag) T9 FZ.out fH.out AL.out y9.out U.Wu Je.out St.out ⟨v.out.1.1,v.out.2.1.1,v.out.2.2.1.1,v.out.2.2.2.1⟩ FY.out L.out YQ.out;refine⟨B,?_,UN,G,by rw[YQ.out];exact f⟩;rw[UR];rfl
end
section
open Go.RowKit Tryz
theorem Jn(w0:World)(d rg:Nat)(g c m z:Int)(l:List Ext)(hm:g<=m/\0<=g/\m %8=0)(i:1<=z/\z %8=0/\m+z<=c/\c<=65536)(n:l.length<=65536)(A:l.Pairwise fun x y=>x.a+x.z<=y.a)(u: ∀x,x∈l->0<=x.a/\x.a<=65536/\0<x.z/\x.z<=65536)(hd: ∀x,x∈l->x.a+x.z<=m\/m+z<=x.a)(s:cY w0 d rg g c l):
 Calls prog 284 #[.pointer (some ⟨d,0,none⟩),.int .i64 m,.int .i64 z] w0 fun e w'=> ∃o,e= .returned (.int .i64 0)/\cY w' d o g c (give l m z)/\(o=rg\/w0.heap.size<=o)/\Z1 (fun b=>b≠d/\b≠rg) w0 w':=by
 obtain⟨v,hb,hv⟩:=s.ex;rcases hv with⟨_,_,_,w⟩|⟨cap,rest,rfl,f,k,p,B,q⟩
 ·omega
 have j: ∀x,x∈l->0<=x.a/\x.a<=65536/\0<=x.z/\x.z<=65536:=fun x h=>by have:=u x h;omega
 obtain⟨pre,post,rfl,h1,r⟩:=Fy l m;cases post with
 |nil=>
  rw[br]at f hb k n j⊢;by_cases t:cap=pre.length
  ·exact Gv w0 d rg g c m z pre hm i n h1 j cap rest f k t p q hb
  ·exact Gx w0 d rg g c m z pre hm i n h1 j cap rest f k J p q hb
 |cons y post=>
  have hy:=r y rfl;have C:=hd y aN;exact Jm w0 d rg g c m z pre post y hm i n h1 hy J j cap rest f k p q hb
end
section
open Go.RowKit Tryz
theorem oY{G:Prop}(h:G:=by
 exact⟨⟨.slice W9 r.chain.length Tv,.slice Tz r.list.length Tt,.slice Tu r.said.length Tm,.slice Uu r.said.length Ug⟩,rg,rfl,kj.bB,gw.out.Wu (kj.Wu.block _ gw.out.lt.1 oc.out.1) (kj.Wu.block _ gw.out.lt.2 oc.out.2),.inl rfl,⟨T9.TQ,T9.ls,T9.Wh,qO⟩,Yq.Wu⟩):G:=h
theorem k2{G:Prop}(h:G:=by
 have iF:(0:Int)<=(k:Int):=by omega
 obtain⟨⟨st,Xf,YX,T5⟩,VG⟩: ∃c,Wi V k=c:=⟨_,rfl⟩
 have VI:(st !=0)=true:=by have:=dU k (by omega);rw[VG]at this;simpa using this
 have Gy:=I (ft k bW);have Dz:=I (show Wi V (Int.toNat (k:Int))=_ from VG);clear VG;go_wp2_with(first|(go_at_call 154;refine a6 U (jF _ p ap WC n V _ (U.jZ Zn.out) UG (by omega) U4 Gy.out) ?_;clear U;intro EH U;rw[Dz.out])|(refine aq ?_)|(refine aT ?_;clear U;intro X8 w U T7));go_roundw
 case rel=>exact⟨k+1,by omega,by go_num,by rw[pY.out];exact U.c6⟩
 case measure=>simp[intOf];omega):G:=h
theorem oZ{G:Prop}(h:G:=by
 go_enter func263,ntmps263;go_wp2_with(first|(go_at_call 154;refine a6 U (jF _ p ap WC n V _ (U.jZ Zn.out) UG TS U4 yz.out) ?_;clear U;intro EH U;(try rw[YT.out]))|(refine aq ?_)|(refine aT ?_;clear U;intro X8 w U T7));go_ret;exact⟨rfl,U.all⟩):G:=h
theorem Bx.ground{w0 w l:World}{L:List PL}{ap i n:Nat}{V:Nat->Int}{d rg p:Nat}(h:Bx w0 (fun _=>True) w none L)(v:ar w0 ap i n V)(C:d<w0.heap.size/\rg<w0.heap.size)(A:ap≠d/\ap≠rg/\i≠d/\i≠rg)(k:Z1 (fun b=>b≠d/\b≠rg) w l)(r:p=rg\/w.heap.size<=p):
 Bx w0 (fun b=>b≠i/\b≠d/\b≠rg) l (some ⟨ap,i,n,V⟩) L/\bq (some ⟨ap,i,n,V⟩) L d/\bq (some ⟨ap,i,n,V⟩) L p:=by
 have s: ∀x,x∈L->w0.heap.size<=x.g:=fun x j=>by
  rcases h.fr x j with c|c
  ·exact c
  ·exact absurd trivial c
 have B:=ar.c9 v;obtain⟨RV,y,m,o⟩:=A;refine⟨(h.Ot (S:=fun b=>b≠i/\b≠d/\b≠rg) v (fun h=>h.1 rfl)).kept k ?_,⟨fun x j e=>?_,fun a e f=>?_⟩,?_⟩
 ·intro b hb u;have q:b=d\/b=rg:=by
   apply Classical.byContradiction;intro c;exact u ⟨fun e=>c (.inl e),fun e=>c (.inr e)⟩
  refine⟨fun x j e=>?_,.inr ?_,fun a e=>?_⟩
  ·have:=s x j;rw[e]at this;rcases q with rfl|rfl<;>omega
  ·rintro⟨_,t,z⟩;rcases q with c|c
   ·exact t c
   ·exact z c
  ·cases e;rcases q with rfl|rfl
   ·exact⟨fun e=>RV e.symm,fun e=>m e.symm⟩
   ·exact⟨fun e=>y e.symm,fun e=>o e.symm⟩
 ·have:=s x j;rw[e]at this;omega
 ·cases e;exact m f.symm
 ·rcases r with rfl|r
  ·refine⟨fun x j e=>?_,fun a e f=>?_⟩
   ·have:=s x j;rw[e]at this;omega
   ·cases e;exact o f.symm
  ·refine⟨h.nx r,fun a e f=>?_⟩;cases e;have:=h.size;simp only at f;omega
theorem Jo{x:Int}(b:0<=x)(h1:x<=16777216):bits .and .i64 x 16777215=x %16777216:=by
 obtain⟨a,rfl⟩:=bn b;have:=(bits_nat .i64 63 am gM a 16777215 J J).1;rw[show(16777215:Int)=((16777215:Nat):Int)from rfl,this];have e:a &&& 16777215=a %16777216:=cD (n:=24) ..;rw[e];rfl
section
variable(w0:World)(p:PO)(ap WC n:Nat)(V:Nat->Int)(a:Nat)(k:Int)(c:ar w0 ap WC n V)(UG:a9 p)(TS:0<=k/\k<p.s)(U4:8*p.s<=n)(ok:okW (V (8*k.toNat)))(st f h d:Int)(b:Wi V k.toNat=⟨st,f,h,d⟩)
include w0 p ap WC n V a k c UG TS U4 ok st f h d b
theorem Jp(i:st=0):
 Calls prog 263 #[ux p ap k,.pointer (some ⟨a,0,none⟩)] w0 fun e w'=>e= .returned (.int .i64 11)/\Below w0.heap.size w0 w':=by
 have U:=Bx.a0 w0;have Zn:=I c;have yz:=I ok;have YT:=I b;clear c ok b;subst i;have j:((0:Int)==0)=true:=rfl;exact oZ
theorem Jq(l:st≥2):
 Calls prog 263 #[ux p ap k,.pointer (some ⟨a,0,none⟩)] w0 fun e w'=>e= .returned (.int .i64 12)/\Below w0.heap.size w0 w':=by
 have U:=Bx.a0 w0;have Zn:=I c;have yz:=I ok;have YT:=I b;clear c ok b;have i:(st==0)=false:=by simp;omega
 have j:(st==1)=false:=by simp;omega
 exact oZ
end
theorem Jr(w0:World)(p:PO)(ap q n:Nat)(V:Nat->Int)(d rg:Nat)(B i:Int)(fr:List Ext)(k:Int)(Xg:ar w0 ap q n V)(r:cY w0 d rg B i fr)(P:ap≠d/\ap≠rg/\q≠d/\q≠rg)(o:a9 p)(l:0<=k/\k<p.s)(j:8*p.s<=n)(ok:okW (V (8*k.toNat)))(Xf YX c:Int)(v:Wi V k.toNat=⟨1,Xf,YX,c⟩)
 (m z:Int)(lH:V (8*k.toNat+1)=m)(bz:V (8*k.toNat+2)=z)(hm:B<=m/\0<=B/\m %8=0)(W:1<=z/\z %8=0/\m+z<=i/\i<=65536)(cV:fr.length<=65536)(YF:fr.Pairwise fun x y=>x.a+x.z<=y.a)(Wy: ∀x,x∈fr->0<=x.a/\x.a<=65536/\0<x.z/\x.z<=65536)(hd: ∀x,x∈fr->x.a+x.z<=m\/m+z<=x.a):
 Calls prog 263 #[ux p ap k,.pointer (some ⟨d,0,none⟩)] w0 fun e w'=> ∃F,e= .returned (.int .i64 0)/\ar w' ap q n (upd (upd (upd V (8*k.toNat) (TK ⟨0,0,-1,(c+1)%16777216⟩)) (8*k.toNat+1) 0) (8*k.toNat+2) 0)/\cY w' d F B i (give fr m z)/\(F=rg\/w0.heap.size<=F)/\Z1 (fun b=>b≠q/\b≠d/\b≠rg) w0 w':=by
 have U:=Bx.a0 w0;have L:=I Xg;have T:=I ok;have YT:=I v;have R:=I r;have M:=I r.lt;have MN:=I (show V (8*k.toNat+Int.toNat 1)=m from lH);have y9:=I (show V (8*k.toNat+Int.toNat 2)=z from bz);have WS:=I cV;have cq:=I YF;have VN:=I Wy;have afG:=I hd;replace P:=I P;have u:=ok.ok.T5;have Js:=I (show hZ ⟨0,0,-1,(c+1)%16777216⟩from by have:=u;rw[show up (V (8*k.toNat))=Wi V k.toNat from rfl,v]at this;exact⟨by simp only at this⊢;omega,aN,aN,aN⟩);have UR:IntKind.i64.wrap (c+1)=c+1:=by rw[IntKind.wrap_i64];rw[show up (V (8*k.toNat))=Wi V k.toNat from rfl,v]at u;simp only at u;omega
 have UN:bits .and .i64 (c+1) 16777215=(c+1)%16777216:=by
  rw[show up (V (8*k.toNat))=Wi V k.toNat from rfl,v]at u;simp only at u;exact Jo J J
 have WJ:((1:Int)==0)=false:=rfl;have q1:IntKind.i64.wrap m=m:=by rw[IntKind.wrap_i64];omega
 have Xt:IntKind.i64.wrap z=z:=by rw[IntKind.wrap_i64];omega
 clear Xg ok v r cV YF Wy hd u lH bz;go_enter func263,ntmps263;go_wp2_with(first|(go_at_call 154;refine a6 U (jF _ p ap q n V _ (U.jZ L.out) o l j T.out) ?_;clear U;intro f U;(try rw[YT.out]))|(refine aq ?_)|(refine aT ?_;clear U;intro X8 w U S));replace U:=U.drew;refine b0 ?_;intro X;refine az [[0,1,4]] ?_;refine aF 2 fun K A=>?_;go_simp
 (go_at_call 316;refine a6 U (BN _ p ap q n V k 1 (U.jZ L.out) o l J j) ?_;clear U;intro f U;rw[MN.out])
 go_wp2_with fail;refine PK A fun X=>?_;refine Xh 3 ?_;refine aF 5 fun K A=>?_;go_simp
 (go_at_call 316;refine a6 U (BN _ p ap q n V k 2 (U.jZ L.out) o l J j) ?_;clear U;intro f U;rw[y9.out])
 go_wp2_with fail;refine PK A fun X=>?_;refine Xh 6 ?_;refine aF 7 fun K A=>?_;go_simp
 (go_at_call 284;refine Calls.mono (Jn _ d rg B i m z fr hm W WS.out cq.out VN.out afG.out (R.out.Wu (U.all.block _ M.out.1) (U.all.block _ M.out.2))) ?_;rintro e f ⟨F,rfl,dP,O,aX⟩;obtain⟨G,Zd,H⟩:=U.ground L.out M.out P.out aX O;have iG:=I (O.imp id fun h=>D U.size h);have Q:=I dP;have oc:=I (And.intro Zd H);clear U dP O aX Zd H;have U:=G.base)
 go_wp2_with fail;refine PK A fun X=>?_;refine UF ?_;go_wp2_with(first|(go_at_call 200;refine Calls.mono (AJ _ p ap q n _ k ⟨0,0,-1,(c+1)%16777216⟩ U.bB o l j Js.out) ?_;rintro e f ⟨rfl,C,N⟩;replace U:=U.arena C N;clear C N)|(go_at_call 201;refine Calls.mono (tw _ p ap q n _ k _ 0 U.bB o l J j am) ?_;rintro e f ⟨rfl,C,N⟩;replace U:=U.arena C N;clear C N)|(refine aq ?_)|(refine aT ?_;clear U;intro X8 w U S));go_ret;have Yq:=G.back U;exact⟨F,rfl,U.bB,Q.out.Wu (U.Wu.block _ Q.out.lt.1 oc.out.1) (U.Wu.block _ Q.out.lt.2 oc.out.2),iG.out,Yq.Wu⟩
end
section
open Go.RowKit Tryz
theorem Gz(w0:World)(S:Nat->Prop)(p:PO)(ap WC n:Nat)(V:Nat->Int)(d rg:Nat)(X v:Int)(fr:List Ext)(r:RJ)(x:Yr)(W:ar w0 ap WC n V)(o:cY w0 d rg X v fr)(l:aW w0 S r x)(bE:dx r)(hS: ∀b,b<w0.heap.size->S b->b≠WC/\b≠d/\b≠rg)(dK:ap≠d/\ap≠rg/\WC≠d/\WC≠rg)(hd:r.fin=false)(K:r.Xj=1)(UG:a9 p)(U4:8*p.s<=n)(nb:r.call.op≠3)(dv:1<=r.call.a/\r.call.a<=8192)(ft: ∀s:Nat,s<p.s->okW (V (8*s)))(dU: ∀j:Nat,j<p.s->(Wi V j).st≠0):
 Calls prog 185 #[ej p,.pointer (some ⟨ap,0,none⟩),.pointer (some ⟨d,0,none⟩),.agg (aY r x)] w0 fun e w'=> ∃x' G,e= .returned (.tuple #[.agg (aY (tell r 13 0) x'),.int .i64 0])/\ar w' ap WC n V/\cY w' d G X v fr/\(G=rg\/w0.heap.size<=G)/\aW w' (fun b=>(S b\/w0.heap.size<=b)/\b≠WC/\b≠d/\b≠G) (tell r 13 0) x'/\Z1 (fun b=>b≠WC/\b≠d/\b≠rg) w0 w':=by
 obtain⟨T,B,C,A,z,F,R,ZM,rfl⟩:=eW l;have U:=Bx.a0 w0;have Zn:=I W;have O:=I o;have t:=I o.lt;have y:=I l;have fE:=I K;have P:=I hd;have fb:=UG.s;replace dK:=I dK;have vD:(r.Xj !=1)=false:=by simp[K]
 have hop:(r.call.op==3)=false:=by simpa using nb
 clear W o l K hd nb;go_enter func185,ntmps185;go_upto_region 5 with(first|(refine g1 P ?_)|(refine aq ?_)|(refine aT ?_;clear U;intro X8 w U T7))
 obtain⟨f,H,U⟩: ∃f,f=_/\Bx w0 _ _ none f:=⟨_,rfl,U⟩
 have pY:=I H;rw[H]at U;go_wp2_with(first|(refine aq ?_)|(refine aT ?_;clear U;intro X8 w U T7));rw[<-H]at U;clear H;have eB:=I U;clear U;go_loopw [42] (fun i wr=> ∃k:Nat,k<=p.s.toNat/\i= .int .i64 k/\Bx w0 (fun _=>True) wr none f) (fun i _=>p.s.toNat-(intOf i).toNat)
 case atStart=>exact⟨0,J,rfl,eB.out⟩
 case round=>
  obtain⟨k,TS,rfl,U⟩:=hrel;clear eB;rw[pY.out]at U;by_cases bV:k<p.s.toNat
  ·have bW:(k:Int)<p.s:=by omega
   exact k2
  ·obtain rfl:k=p.s.toNat:=by omega
   have aeR:((p.s.toNat:Nat):Int)=p.s:=J;have Zh:decide (((p.s.toNat:Nat):Int)<p.s)=false:=by simp;omega
   go_wp2_with(first|(go_at_call 184;refine Calls.mono (hg _ _ r ⟨.slice T r.chain.length B,.slice C r.list.length A,.slice z r.said.length F,.slice R r.aC.said.length ZM⟩ _ _ (y.out.Wu (U.Wu.mono fun _ _ _=>trivial)) bE) ?_;rintro e EH ⟨v',rfl,L,N⟩;obtain⟨Q,M,rfl,-,-,-⟩:=id L;have hv:=U.eh L;clear L;have u:=U.below N;clear U N;have U:=u.base)|(refine aq ?_)|(refine aT ?_;clear U;intro X8 w U T7));refine aZ results185 rfl rfl ⟨_,U.b ag,rfl⟩ underlying198 rfl aM ?_;have q:=u.back U;have m:=(y.out.mono (S':=fun b=>(S b\/w0.heap.size<=b)/\b≠WC/\b≠d/\b≠rg) (fun b hb h=>⟨.inl h,hS b hb h⟩)).Wu (q.Wu.mono fun _ _ _=>trivial);have qO:=(U.carry hv fun b _ h=>h.2).mono (S':=fun b=>(S b\/w0.heap.size<=b)/\b≠WC/\b≠d/\b≠rg) fun b _ h=>⟨.inr h.1,by have:=ar.c9 Zn.out;have:=t.out;have:=h.1;omega,by have:=ar.c9 Zn.out;have:=t.out;have:=h.1;omega,by have:=ar.c9 Zn.out;have:=t.out;have:=h.1;omega⟩
   exact⟨⟨.slice T r.chain.length B,.slice C r.list.length A,.slice z r.said.length F,.slice Q r.said.length M⟩,rg,rfl,q.jZ Zn.out,O.out.Wu (q.all.block _ t.out.1) (q.all.block _ t.out.2),.inl rfl,⟨m.TQ,m.ls,m.Wh,qO⟩,q.Wu.mono fun _ _ _=>trivial⟩
end
end Go.Proofs.YtcimojgkeoecfaaGreat
