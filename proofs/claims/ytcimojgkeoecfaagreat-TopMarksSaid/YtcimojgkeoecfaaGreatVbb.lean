import Derived.Test.YtcimojgkeoecfaaGreatVba
set_option linter.all false
set_option maxHeartbeats 16000000
set_option maxRecDepth 100000
namespace Go.Proofs.YtcimojgkeoecfaaGreat
open Go.RowKit Tryz
section
theorem og{G:Prop}(h:G:=by
 rw[aP,aP];exact gx UD fun b hb=>by
  rcases UW b hb with q|q
  ·exact(lt _ hi b q).1
  ·omega):G:=h
theorem oh{G:Prop}(h:G:=by
 go_wp2_with(first|(refine aq ?_)|(refine Ws U 151 ?_;clear U;intro kP w U j8)|(refine aT ?_;clear U;intro X8 w U T7));exact kQ):G:=h
theorem abG{G:Prop}(h:G:=by
 show _=Ending.returned (.agg #[.int .i64 s.p.s,.int .i64 s.p.t,.int .i64 s.p.i,.int .i64 s.p.h,.slice (some ⟨v.U1,0,none⟩) 8 v.U6,.slice (some ⟨v.L8,0,none⟩) s.p.t.toNat v.VY,v.TK]);rw[YQ.out]):G:=h
theorem kQ{G:Prop}(h:G:=by
 refine cw results64 rfl rfl ⟨_,U.b ag,rfl⟩ underlying32 rfl (by kernel_rfl) ?_;refine⟨v,?_,xv.out _ (U.ro Pp.out ag) (fun h=>by have:=h.1;have:=h.2;omega)⟩;exact abG):G:=h
theorem u8_and7(x:Int)(h:0<=x/\x<=255):bits .and .u8 x 7=x %8:=by
 obtain⟨n,rfl⟩:=bn h.1;rw[show(7:Int)=((7:Nat):Int)from rfl,(bits_nat .u8 8 am wraps_u8 n 7 J J).1,show(7:Nat)=2^3-1 from rfl,cD];rfl
structure h9 where
 p:PO
 eI:Nat->List jc
 bj:Nat->List dM
 cp:List Int
def cU(s:h9)(e:Nat->Int):h9:=
 if e 0 %8<5 then
  if e 2<=11/\(s.bj (e 1 %s.p.t).toNat).length<64 then {s with bj:=put s.bj (e 1 %s.p.t).toNat (s.bj (e 1 %s.p.t).toNat++ [fJ e])}else s
 else if e 0 %8=5 then
  if e 2<=4/\(s.eI (e 1 %8).toNat).length<8 then {s with eI:=put s.eI (e 1 %8).toNat (s.eI (e 1 %8).toNat++ [dV e])}else s
 else if s.cp.length<4096 then {s with cp:=s.cp++ [numOf e]}else s
def oi(b:Nat->Int):h9:=⟨⟨1+b 0 %8,1+b 1 %4,8*(b 2 %64),8*(b 3 %128)⟩,fun _=> [],fun _=> [],[]⟩
def eT(b:Nat->Int):Nat->h9
 |0=>oi b
 |k+1=>cU (eT b k) fun i=>b (4+8*k+i)
def fe(f:Nat->Int)(n:Nat):Nat->Int:=fun i=>if i<n then f i else 0
def j9(f:Nat->Int)(n:Nat):h9:=eT (fe f n) ((n-4)/8)
theorem FT(s:h9)(e:Nat->Int):(cU s e).p=s.p:=by
 unfold cU;(repeat' split)<;>rfl
theorem y7(b:Nat->Int)(k:Nat):(eT b k).p=(oi b).p:=by
 induction k with
 |zero=>rfl
 |succ k a=>show(cU _ _).p=_;rw[FT,a]
theorem FU{b:Nat->Int}(hb:e0 b):a9 (oi b).p:=by
 have c:=hb 0;have h1:=hb 1;have a:=hb 2;have d:=hb 3;unfold oi;constructor<;>simp only<;>omega
structure hV(s:h9):Prop where
 p:a9 s.p
 f: ∀j,(s.eI j).length<=8/\∀o,o∈s.eI j->lv o
 c: ∀j,(s.bj j).length<=64/\∀c,c∈s.bj j->cG c
 k:s.cp.length<=4096/\∀x,x∈s.cp->0<=x/\x<=65535
theorem CV{e:Nat->Int}(a:e0 e)(b:e 2<=11):cG (fJ e):=by
 have h:=a 2;have j:=a 3;have i:=a 4;have f:=a 5;have g:=a 6;have d:=a 7;have c:0<=numOf e/\numOf e<=65535:=by unfold numOf;omega
 unfold fJ;constructor<;>simp only<;>(try split)<;>omega
theorem FV{e:Nat->Int}(a:e0 e)(b:e 2<=4):lv (dV e):=by
 have d:=a 2;have f:=a 4;have c:=a 5;unfold dV;rcases(by omega:e 2=0\/e 2=1\/e 2=2\/e 2=3\/e 2=4)with h|h|h|h|h<;>(constructor<;>simp only[h]<;>(first|omega|(refine⟨?_,?_,?_,?_⟩<;>simp<;>omega)))
theorem CW{s:h9}{e:Nat->Int}(h:hV s)(b:e0 e):hV (cU s e):=by
 unfold cU;split
 ·split
  ·rename_i h1 a;refine⟨h.p,h.f,fun j=>?_,h.k⟩;show(put (α:=List dM) _ _ _ j).length<=64/\∀c,c∈put (α:=List dM) _ _ _ j->cG c;unfold put;split
   ·refine⟨by simp;omega,fun c d=>?_⟩;rcases List.mem_append.1 d with q|q
    ·exact(h.c _).2 c q
    ·rw[List.mem_singleton.1 q];exact CV b a.1
   ·exact h.c j
  ·exact h
 ·split
  ·split
   ·rename_i h1 a;refine⟨h.p,fun j=>?_,h.c,h.k⟩;show(put (α:=List jc) _ _ _ j).length<=8/\∀c,c∈put (α:=List jc) _ _ _ j->lv c;unfold put;split
    ·refine⟨by simp;omega,fun c d=>?_⟩;rcases List.mem_append.1 d with q|q
     ·exact(h.f _).2 c q
     ·rw[List.mem_singleton.1 q];exact FV b a.1
    ·exact h.f j
   ·exact h
  ·split
   ·refine⟨h.p,h.f,h.c,by simp;omega,fun x g=>?_⟩;rcases List.mem_append.1 g with q|q
    ·exact h.k.2 x q
    ·rw[List.mem_singleton.1 q];have l:=b 4;have i:=b 5;unfold numOf;omega
   ·exact h
theorem su{b:Nat->Int}(hb:e0 b)(k:Nat):hV (eT b k):=by
 induction k with
 |zero=>exact⟨FU hb,fun _=>⟨by simp[eT,oi],fun o a=>by cases a⟩,fun _=>⟨by simp[eT,oi],fun o a=>by cases a⟩,by simp[eT,oi],fun o a=>by cases a⟩
 |succ k c=>exact CW c fun i=>hb _
def lx(l:List jc):List Value:=l.flatMap fun o=> [.int .u8 o.op,.int .i64 o.a,.int .i64 o.b]
def ly(l:List dM):List Value:=l.flatMap fun c=>(hP c).toList
theorem AV(l:List jc)(o:jc):lx (l++ [o])=lx l++ [.int .u8 o.op,.int .i64 o.a,.int .i64 o.b]:=by simp[lx]
theorem AW(l:List dM)(c:dM):ly (l++ [c])=ly l++(hP c).toList:=by simp[ly]
structure VV where
 U1:Nat
 L8:Nat
 U6:Nat
 VY:Nat
 Zg:List Value
 Ze:List Value
 U5:Nat->Value
 UT:Nat->Value
 TK:Value
abbrev gy(p:PO)(v:VV):List Value:= [.int .i64 p.s,.int .i64 p.t,.int .i64 p.i,.int .i64 p.h,.slice (some ⟨v.U1,0,none⟩) 8 v.U6,.slice (some ⟨v.L8,0,none⟩) p.t.toNat v.VY,v.TK]
structure a7(w:World)(B:Nat)(v:VV)(s:h9):Prop where
 Uw:ah w v.U1 95 ((List.range 8).map v.U5++v.Zg).toArray
 Us:ah w v.L8 47 ((List.range s.p.t.toNat).map v.UT++v.Ze).toArray
 U6:8<=v.U6/\v.U6<=maxLen
 VY:s.p.t.toNat<=v.VY/\v.VY<=maxLen
 fr: ∀j,j<8->w.ownsRow B 100 3 (v.U5 j) (s.eI j).length (lx (s.eI j))
 pr: ∀j,j<s.p.t.toNat->w.ownsRow B 42 7 (v.UT j) (s.bj j).length (ly (s.bj j))
 pi:w.ownsRow B 3 1 v.TK s.cp.length (h8 s.cp)
 fd: ∀i j b,i<8->j<8->i≠j->(v.U5 i).ownBlock=some b->(v.U5 j).ownBlock≠some b
 gC: ∀i j b,i<s.p.t.toNat->j<s.p.t.toNat->i≠j->(v.UT i).ownBlock=some b->(v.UT j).ownBlock≠some b
 ge:B<=v.U1/\B<=v.L8
structure hE(v:VV)(T b:Nat):Prop where
 U1:b≠v.U1
 L8:b≠v.L8
 U5: ∀j,j<8->(v.U5 j).ownBlock≠some b
 UT: ∀j,j<T->(v.UT j).ownBlock≠some b
 TK:v.TK.ownBlock≠some b
section
variable{w w':World}{B b:Nat}{v:VV}{s:h9}{e e':TypeId}{sz F n n':Nat}{x y:Value}{xs z:List Value}
theorem gx{B':Nat}(h:w.ownsRow B e sz x n xs)(hb: ∀j,x.ownBlock=some j->B'<=j):w.ownsRow B' e sz x n xs:=by
 refine⟨h.1,?_⟩;rcases h.2 with h|⟨g,cap,c,rfl,h1,a⟩
 ·exact .inl h
 ·exact .inr ⟨g,cap,c,rfl,hb g rfl,a⟩
theorem rE(h:w.ownsRow B e sz x n xs)(hb:x.ownBlock=some b): ∃cs,ah w b e cs:=by
 rcases h.2 with⟨rfl,_⟩|⟨g,cap,c,rfl,_,a,_⟩
 ·cases hb
 ·cases hb;exact⟨c,a⟩
theorem dW{t:TypeId}{cs:Array Value}(h:w.ownsRow B e sz x n xs)(hb:ah w b t cs)(d:e≠t):x.ownBlock≠some b:=fun c=>by
 obtain⟨cs',a⟩:=rE h c;exact ah.ne a hb d rfl
theorem kR(h:w.ownsRow B e sz x n xs)(k:w.ownsRow B e' F y n' z)(c:e≠e')(d:x.ownBlock=some b):y.ownBlock≠some b:=fun hy=>by
 obtain⟨g,h1⟩:=rE h d;obtain⟨f,a⟩:=rE k hy;exact ah.ne h1 a c rfl
theorem eU{T:Nat->Prop}(h:w.ownsRow B e sz x n xs)(k:Z1 T w w')(c: ∀b,x.ownBlock=some b->T b):w'.ownsRow B e sz x n xs:=
 fT h fun j a=>k.block j (h.lt j a).2 (c j a)
section
variable(h:a7 w B v s)(f:B<=w.heap.size)
include h f
theorem a7.Pq{j:Nat}(a:j<s.p.t.toNat){u:Value}{l:List dM}(k:Z1 (fun b=>b≠v.L8/\(v.UT j).ownBlock≠some b) w w')(hb:ah w' v.L8 47 ((List.range s.p.t.toNat).map (put v.UT j u)++v.Ze).toArray)(UD:w'.ownsRow 0 42 7 u l.length (ly l))(UW: ∀b,u.ownBlock=some b->(v.UT j).ownBlock=some b\/w.heap.size<=b):
 a7 w' B {v with UT:=put v.UT j u} {s with bj:=put s.bj j l}:=by
 have m:=h.Us;have lt:=fun i hi=>(h.pr i hi).lt;refine⟨(k.block _ h.Uw.lt ⟨ah.ne h.Uw m am,dW (h.pr j a) h.Uw am⟩).trans h.Uw,hb,h.U6,h.VY,fun i hi=>eU (h.fr i hi) k fun b hb=>⟨fun e=>dW (h.fr i hi) m am (by rw[<-e];exact hb),kR (h.fr i hi) (h.pr j a) am hb⟩,fun i hi=>?_,eU h.pi k fun b hb=>⟨fun e=>dW h.pi m am (by rw[<-e];exact hb),kR h.pi (h.pr j a) am hb⟩,h.fd,fun i i' b hi r o hb=>?_,h.ge⟩
 ·show w'.ownsRow B _ 7 (put v.UT j u i) (put s.bj j l i).length (ly (put s.bj j l i));by_cases c:i=j
  ·subst c;exact og
  ·rw[aw _ _ c,aw _ _ c];exact eU (h.pr i hi) k fun b hb=>⟨fun e=>dW (h.pr i hi) m am (by rw[<-e];exact hb),h.gC i j b hi a c hb⟩
 ·have g:(put v.UT j u i).ownBlock=some b:=hb;clear hb;show(put v.UT j u i').ownBlock≠some b;by_cases c:i=j
  ·subst c;rw[aP]at g;rw[aw _ _ (fun e=>o e.symm)];rcases UW b g with q|q
   ·exact h.gC i i' b hi r o q
   ·intro e;have:=(lt _ r b e).2;omega
  ·rw[aw _ _ c]at g;by_cases d:i'=j
   ·subst d;rw[aP];intro e;rcases UW b e with q|q
    ·exact h.gC i i' b hi r o g q
    ·have:=(lt _ hi b g).2;omega
   ·rw[aw _ _ d];exact h.gC i i' b hi r o g
theorem a7.Pr{j:Nat}(a:j<8){u:Value}{l:List jc}(k:Z1 (fun b=>b≠v.U1/\(v.U5 j).ownBlock≠some b) w w')(hb:ah w' v.U1 95 ((List.range 8).map (put v.U5 j u)++v.Zg).toArray)(UD:w'.ownsRow 0 100 3 u l.length (lx l))(UW: ∀b,u.ownBlock=some b->(v.U5 j).ownBlock=some b\/w.heap.size<=b):
 a7 w' B {v with U5:=put v.U5 j u} {s with eI:=put s.eI j l}:=by
 have m:=h.Uw;have lt:=fun i hi=>(h.fr i hi).lt;refine⟨hb,(k.block _ h.Us.lt ⟨ah.ne h.Us m am,dW (h.fr j a) h.Us am⟩).trans h.Us,h.U6,h.VY,fun i hi=>?_,fun i hi=>eU (h.pr i hi) k fun b hb=>⟨fun e=>dW (h.pr i hi) m am (by rw[<-e];exact hb),kR (h.pr i hi) (h.fr j a) am hb⟩,eU h.pi k fun b hb=>⟨fun e=>dW h.pi m am (by rw[<-e];exact hb),kR h.pi (h.fr j a) am hb⟩,fun i i' b hi p o hb=>?_,h.gC,h.ge⟩
 ·show w'.ownsRow B _ 3 (put v.U5 j u i) (put s.eI j l i).length (lx (put s.eI j l i));by_cases c:i=j
  ·subst c;exact og
  ·rw[aw _ _ c,aw _ _ c];exact eU (h.fr i hi) k fun b hb=>⟨fun e=>dW (h.fr i hi) m am (by rw[<-e];exact hb),h.fd i j b hi a c hb⟩
 ·have g:(put v.U5 j u i).ownBlock=some b:=hb;clear hb;show(put v.U5 j u i').ownBlock≠some b;by_cases c:i=j
  ·subst c;rw[aP]at g;rw[aw _ _ (fun e=>o e.symm)];rcases UW b g with q|q
   ·exact h.fd i i' b hi p o q
   ·intro e;have:=(lt _ p b e).2;omega
  ·rw[aw _ _ c]at g;by_cases d:i'=j
   ·subst d;rw[aP];intro e;rcases UW b e with q|q
    ·exact h.fd i i' b hi p o g q
    ·have:=(lt _ hi b g).2;omega
   ·rw[aw _ _ d];exact h.fd i i' b hi p o g
theorem a7.Ps{u:Value}{l:List Int}(k:Z1 (fun b=>v.TK.ownBlock≠some b) w w')(a:w'.ownsRow 0 3 1 u l.length (h8 l))(c: ∀b,u.ownBlock=some b->v.TK.ownBlock=some b\/w.heap.size<=b):
 a7 w' B {v with TK:=u} {s with cp:=l}:=
 ⟨(k.block _ h.Uw.lt (dW h.pi h.Uw am)).trans h.Uw,(k.block _ h.Us.lt (dW h.pi h.Us am)).trans h.Us,h.U6,h.VY,fun i hi=>eU (h.fr i hi) k fun b hb=>kR (h.fr i hi) h.pi am hb,fun i hi=>eU (h.pr i hi) k fun b hb=>kR (h.pr i hi) h.pi am hb,gx a fun b hb=>by
   rcases c b hb with q|q
   ·exact(h.pi.lt b q).1
   ·omega,h.fd,h.gC,h.ge⟩
end
theorem a7.out{t:TypeId}{cs:Array Value}(h:a7 w B v s)(hb:ah w b t cs)(h1:t≠95)(c:t≠47)(g:t≠100)(f:t≠42)(d:t≠3):hE v s.p.t.toNat b:=
 ⟨ah.ne hb h.Uw h1,ah.ne hb h.Us c,fun j a=>dW (h.fr j a) hb g.symm,fun j a=>dW (h.pr j a) hb f.symm,dW h.pi hb d.symm⟩
theorem a7.Pt(h:a7 w B v s)(hb:b<B):hE v s.p.t.toNat b:=
 ⟨by have:=h.ge.1;omega,by have:=h.ge.2;omega,fun j a e=>by have:=((h.fr j a).lt b e).1;omega,fun j a e=>by have:=((h.pr j a).lt b e).1;omega,fun e=>by have:=(h.pi.lt b e).1;omega⟩
theorem Bx.CY{w0:World}{L:List PL}(h:Bx w0 (fun _=>True) w none L)(j:a7 w w0.heap.size v s)(k:Z1 (hE v s.p.t.toNat) w w')(f: ∀x,x∈L->x.t≠95/\x.t≠47/\x.t≠100/\x.t≠42/\x.t≠3):Bx w0 (fun _=>True) w' none L:=
 h.kept k fun b _ c=>⟨fun x i e=>c (by
  obtain⟨h1,d,m,l,g⟩:=f x i
  rw[<-e];exact j.out (h.bC x i) h1 d m l g),.inl (Nat.le_of_not_lt fun hb=>c (j.Pt hb)),fun a e=>by cases e⟩
section
variable(h:a7 w B v s)
include h
theorem a7.below(k:Below w.heap.size w w'):a7 w' B v s:=
 ⟨h.Uw.below k h.Uw.lt,h.Us.below k h.Us.lt,h.U6,h.VY,fun i hi=>fT (h.fr i hi) fun j a=>k.block j ((h.fr i hi).lt j a).2,fun i hi=>fT (h.pr i hi) fun j a=>k.block j ((h.pr i hi).lt j a).2,fT h.pi fun j a=>k.block j (h.pi.lt j a).2,h.fd,h.gC,h.ge⟩
section
variable(d:B<=w.heap.size)
include d
theorem a7.KN{j:Nat}(a:j<s.p.t.toNat){g cap:Nat}{rest:List Value}{c:dM}(k:Z1 (fun b=>b≠v.L8/\(v.UT j).ownBlock≠some b) w w')(hb:ah w' v.L8 47 ((List.range s.p.t.toNat).map (put v.UT j (.slice (some ⟨g,0,none⟩) ((s.bj j).length+1) cap))++v.Ze).toArray)(i:ah w' g 42 ((ly (s.bj j)++(hP c).toList)++rest).toArray)(l:(v.UT j).ownBlock=some g\/w.heap.size<=g)
 (o:(s.bj j).length+1<=cap/\cap<=maxLen/\((ly (s.bj j)++(hP c).toList)++rest).length=cap*7):
 a7 w' B {v with UT:=put v.UT j (.slice (some ⟨g,0,none⟩) ((s.bj j).length+1) cap)} {s with bj:=put s.bj j (s.bj j++ [c])}/\Z1 (hE v s.p.t.toNat) w w':=by
 have f: ∀b,(Value.slice (some ⟨g,0,none⟩) ((s.bj j).length+1) cap).ownBlock=some b->(v.UT j).ownBlock=some b\/w.heap.size<=b:=fun b hb=>by
  have e:g=b:=by simpa [Value.ownBlock]using hb
  rw[<-e];exact l
 have q:(ly (s.bj j)++(hP c).toList).length=((s.bj j).length+1)*7:=by rw[ak,(h.pr j a).1];show _+7=_;omega
 refine⟨h.Pq d a k hb (by rw[AW,ak];exact jz i q o) f,k.mono fun b _ m=>⟨m.L8,m.UT j a⟩⟩
theorem a7.KO{j:Nat}(f:j<8){g cap:Nat}{rest:List Value}{c:jc}(k:Z1 (fun b=>b≠v.U1/\(v.U5 j).ownBlock≠some b) w w')(hb:ah w' v.U1 95 ((List.range 8).map (put v.U5 j (.slice (some ⟨g,0,none⟩) ((s.eI j).length+1) cap))++v.Zg).toArray)(l:ah w' g 100 ((lx (s.eI j)++ [Value.int .u8 c.op,Value.int .i64 c.a,Value.int .i64 c.b])++rest).toArray)(m:(v.U5 j).ownBlock=some g\/w.heap.size<=g)
 (q:(s.eI j).length+1<=cap/\cap<=maxLen/\((lx (s.eI j)++ [Value.int .u8 c.op,Value.int .i64 c.a,Value.int .i64 c.b])++rest).length=cap*3):
 a7 w' B {v with U5:=put v.U5 j (.slice (some ⟨g,0,none⟩) ((s.eI j).length+1) cap)} {s with eI:=put s.eI j (s.eI j++ [c])}/\Z1 (hE v s.p.t.toNat) w w':=by
 have i: ∀b,(Value.slice (some ⟨g,0,none⟩) ((s.eI j).length+1) cap).ownBlock=some b->(v.U5 j).ownBlock=some b\/w.heap.size<=b:=fun b hb=>by
  have e:g=b:=by simpa [Value.ownBlock]using hb
  rw[<-e];exact m
 have r:(lx (s.eI j)++ [Value.int .u8 c.op,Value.int .i64 c.a,Value.int .i64 c.b]).length=((s.eI j).length+1)*3:=by rw[ak,(h.fr j f).1];show _+3=_;omega
 refine⟨h.Pr d f k hb (by rw[AV,ak];exact jz l r q) i,k.mono fun b _ o=>⟨o.U1,o.U5 j f⟩⟩
theorem a7.KP{g cap:Nat}{rest:List Value}{c:Int}(k:Z1 (fun b=>True/\v.TK.ownBlock≠some b) w w')(f:ah w' g 3 ((h8 s.cp++ [Value.int .i64 c])++rest).toArray)(i:v.TK.ownBlock=some g\/w.heap.size<=g)
 (j:s.cp.length+1<=cap/\cap<=maxLen/\((h8 s.cp++ [Value.int .i64 c])++rest).length=cap*1):
 a7 w' B {v with TK:=(.slice (some ⟨g,0,none⟩) (s.cp.length+1) cap)} {s with cp:=s.cp++ [c]}/\Z1 (hE v s.p.t.toNat) w w':=by
 have a: ∀b,(Value.slice (some ⟨g,0,none⟩) (s.cp.length+1) cap).ownBlock=some b->v.TK.ownBlock=some b\/w.heap.size<=b:=fun b hb=>by
  have e:g=b:=by simpa [Value.ownBlock]using hb
  rw[<-e];exact i
 have m:(h8 s.cp++ [Value.int .i64 c]).length=(s.cp.length+1)*1:=by rw[ak,h.pi.1];show _+1=_;omega
 refine⟨h.Ps d (k.mono fun b _ l=>⟨trivial,l⟩) (by rw[show h8 (s.cp++ [c])=h8 s.cp++ [Value.int .i64 c]from by simp[h8],ak];exact jz f m j) a,k.mono fun b _ o=>⟨trivial,o.TK⟩⟩
end
end
theorem I9{f:Nat->Value}{n j:Nat}{u:Value}{r:List Value}(a:j<n):er ((List.range n).map f++r) j [u]=(List.range n).map (put f j u)++r:=by
 apply List.ext_getElem?;intro i;have d:((List.range n).map f).length=n:=aN;have h:((List.range n).map (put f j u)).length=n:=aN;unfold er;rw[cJ J,List.drop_append_of_le_length (by simp;omega)];by_cases h1:i<j
 ·rw[aJ,aA (by simp;omega),aA J,List.getElem?_take,Z h1,a3,a3,a1 J,bt,bt,aw _ _ J]
 ·by_cases c:i=j
  ·subst c;have e:((List.range n).map (put f i u)++r)[i]? =some u:=by rw[aA J,a3,a1 a,bt,aP]
   rw[e,aJ,ay (by simp;omega)];simp[Nat.min_eq_left (Nat.le_of_lt a)]
  ·rw[aJ,ay (by simp;omega)];have e:((List.range n).map f).take j=((List.range n).map f).take j:=rfl;rw[List.length_take,d,Nat.min_eq_left (Nat.le_of_lt a),ay (by simp;omega)];by_cases g:i<n
   ·rw[aA (by simp;omega),aA J,List.getElem?_drop,a3,a3,a1 (by simp;omega),a1 g,bt,bt,aw _ _ c];simp only[aI,bR];rw[show j+(0+1)+(i-j-(0+1))=i from J]
   ·rw[ay (by simp;omega),ay J,h];simp only[aI,bR,List.length_drop,d];rw[show i-j-(0+1)-(n-(j+(0+1)))=i-n from J]
theorem rF{f:Nat->Value}{n j:Nat}{r:List Value}(a:j<n):((List.range n).map f++r)[j]? =some (f j):=by
 rw[aA (by simp;exact a),a3,a1 a,bt]
variable{C:World}{S:Nat->Prop}{L L':List PL}{A:Program}{o:Oper}{a:Act}{K:Act->World->Prop}{Q:Exit->Act->World->Prop}{ops:Array Oper}
theorem vY(h:Bx C S w none L){f:Nat->Value}{m j g:Nat}{r:List Value}{u:Value}{t:TypeId}(d:j<m)(p: ∀w',Bx C S w' none L'->K (a.put o.dst undef) w'){c:TypeId}{x y:Operand}
 (i:Region.wanted o (yielded ops a.tmps)=true:=by rfl)(q:o.op= .store c x y:=by exact rfl)(k:a.eval x= .pointer (some ⟨g,j,none⟩):=by exact rfl)(hy:dt a y=some u:=by exact rfl)(hv:u.cells= [u].toArray:=by exact rfl)
 (l:Tr L g t ((List.range m).map f++r) ((List.range m).map (put f j u)++r) L':=by exact cf)(hi:(A.info? c).map (·.size)=some 1:=by kernel_rfl)(h1: [u].all (·.oneCell')=true:=by exact rfl):
 if Region.wanted o (yielded ops a.tmps)=true then Oper.wp A o a w K Q else K (a.put o.dst undef) w:=by
 rw[Z i];exact ev h c x y q g j u [u] k hy hv (by rw[I9 d];exact l) (by simp;omega) hi h1 p
end
end
section
def bX(s:h9):List (List jc):=(List.range 8).map s.eI
theorem gd(s:h9):(bX s).length=8:=by simp[bX]
theorem kT{s:h9}{i:Nat}{l:List jc}(h:(bX s)[i]? =some l):i<8/\l=s.eI i:=by
 unfold bX at h;rw[a3]at h;rcases Nat.lt_or_ge i 8 with q|q
 ·rw[a1 q]at h;exact⟨q,by simpa using h.symm⟩
 ·rw[aV (by simpa using q)]at h;cases h
theorem wA{α:Type}(sz:Nat)(b:0<sz)(g:α->List Value)(c: ∀a,(g a).length=sz)(l:List α):bx l.length sz (fun i=>(l[i]?.map g).getD [])=l.flatMap g:=by
 have f0: ∀G:Nat->List Value,bx 0 sz G= []:=fun G=>by unfold bx;simp
 induction l with
 |nil=>exact f0 _
 |cons a l e=>
  have d:bx 1 sz (fun _=>g a)=g a:=by
   have:=jM (n:=0) (F:=fun _=>g a) b (c a);rw[this,f0];rfl
  have h:=ui (m:=1) (n:=l.length) (F:=fun _=>g a) (G:=fun i=>(l[i]?.map g).getD []) (H:=fun i=>((a::l)[i]?.map g).getD []) b (fun i hi=>by rw[show i=0 from J];rfl) (fun i hi=>by rw[Nat.add_comm];rfl) (fun i hi=>by simp[hi,c]);rw[d,e]at h;rw[List.flatMap_cons,aI,Nat.add_comm];exact h.symm
theorem AY(l:List dM):ly l=bx l.length 7 (yZ l):=(wA 7 am (fun c=>(hP c).toList) (fun _=>rfl) l).symm
theorem AZ(l:List jc):lx l=bx l.length 3 (jQ l):=by
 rw[<-qF (F:=fun i=>(l[i]?.map fun o=> [Value.int .u8 o.op,.int .i64 o.a,.int .i64 o.b]).getD []) am fun i hi=>?_]
 ·exact(wA 3 am (fun o=> [Value.int .u8 o.op,.int .i64 o.a,.int .i64 o.b]) (fun _=>rfl) l).symm
 ·unfold jQ;rw[an hi];rfl
variable{w:World}{B:Nat}{v:VV}{s:h9}
theorem tz{g n c:Nat}{e:TypeId}{f:Nat->Value}{r:List Value}(hb:ah w g e ((List.range n).map f++r).toArray)(d:B<=g)(h:n<=c/\c<=maxLen):KC w (fun b=>B<=b) (.slice (some ⟨g,0,none⟩) n c) n 1 fun i=> [f i]:=
 ⟨_,c,rfl,h.1,h.2,fun _=>⟨g,0,rfl,d,hb.lt,fun i j u hi hu=>by
   have a:j=0:=by
    rcases j with _|j
    ·rfl
    ·simp at hu
   subst a;have hu:f i=u:=by simpa using hu
   rw[show 0+(i*1+0)=i from J,hb.cell,aE,rF hi,hu]⟩⟩
theorem a7.eF(h:a7 w B v s):eF w (fun b=>B<=b) (.slice (some ⟨v.U1,0,none⟩) 8 v.U6) (bX s) v.U5:=
 ⟨by rw[gd];exact tz h.Uw h.ge.1 h.U6,fun i l c=>by
   obtain⟨hi,rfl⟩:=kT c
   have:=h.fr i hi
   rw[AZ]at this
   exact KC.own this fun j a=>(pQ _ _ j a).1⟩
theorem a7.vO(h:a7 w B v s){i:Nat}(hi:i<s.p.t.toNat):vO w (fun b=>B<=b) (v.UT i) (s.bj i):=by
 have:=h.pr i hi;rw[AY]at this;exact KC.own this fun j a=>(wy _ j a).1
theorem a7.cF(h:a7 w B v s):cF w (fun b=>B<=b) v.TK s.cp:=by
 have:=h.pi;rw[<-uB]at this;exact KC.own this fun j a=>(gp _ _ j a).1
theorem wB(w0:World)(B n:Nat)(v:VV)(s:h9)(m:a7 w0 B v s)(ok:hV s)(j:8*(n:Int)=64*s.p.s+s.p.i+s.p.h):
 Calls prog 31 #[.agg (gy s.p v).toArray] w0 fun e w'=> ∃W:WB,e= .returned (.tuple #[.pointer (some ⟨W.O3,0,none⟩),.int .i64 0])/\df w' W s.p (bX s) n (l2 s.p s.bj)/\Below w0.heap.size w0 w'/\∀b,Ur W s.p.t.toNat b\/W.Yi b->w0.heap.size<=b:=by
 obtain⟨T,a⟩: ∃T,s.p.t.toNat=T:=⟨_,rfl⟩
 have x: ∀w',Below w0.heap.size w0 w'->Calls prog 65 #[ej s.p,.slice (some ⟨v.U1,0,none⟩) 8 v.U6,.slice (some ⟨v.L8,0,none⟩) T v.VY] w' fun e u=> ∃W:WB,e= .returned (.tuple #[.pointer (some ⟨W.O3,0,none⟩),.int .i64 0])/\df u W s.p (bX s) n (l2 s.p s.bj)/\Below w'.heap.size w' u/\∀b,Ur W s.p.t.toNat b\/W.Yi b->w'.heap.size<=b:=fun w' hb=>by
  rw[<-a];have h:=m.below hb;exact aco w' s.p (bX s) n s.bj (fun b=>B<=b) _ _ v.U5 v.UT ok.p j h.eF (by rw[gd];exact ai _) (fun l y=>by
   obtain⟨i,hi⟩:=bZ y;obtain⟨_,rfl⟩:=kT hi;exact ok.f i) (tz h.Us h.ge.2 h.VY) fun i hi=>⟨h.vO hi,(ok.c i).1⟩
 have C:=I x;have H: ∀(k:IntKind) (n:Int),(Value.int k n).oneCell'=true:=fun _ _=>rfl;have os: ∀A n c,(Value.slice A n c).oneCell'=true:=fun _ _ _=>rfl;have sw:v.TK.oneCell'=true:=by
  rcases m.pi.2 with⟨d,_⟩|⟨g,cap,L,d,_⟩<;>(rw[d];rfl)
 have U:=Bx.a0 w0;show Calls _ _ #[.agg #[.int .i64 s.p.s,.int .i64 s.p.t,.int .i64 s.p.i,.int .i64 s.p.h,.slice (some ⟨v.U1,0,none⟩) 8 v.U6,.slice (some ⟨v.L8,0,none⟩) s.p.t.toNat v.VY,v.TK]] _ _;rw[a];have z:=I a;clear m ok j x a;go_enter func31,ntmps31;go_wp2_with(first|(go_at_call 65;refine Calls.mono (C.out _ U.all) ?_;rintro e F ⟨W,rfl,o,N,r⟩;have q:=U.size;replace U:=U.below N;clear N)|(refine aq ?_)|(refine aT ?_;clear U;intro K w U G));go_ret2;exact⟨W,rfl,o,U.all,by rw[<-z.out];exact fun b hb=>D q (r b hb)⟩
end
theorem GC(w0:World)(S:Nat->Prop)(p:PO)(ap WC n:Nat)(V:Nat->Int)(d rg:Nat)(G o:Int)(fr:List Ext)(r:RJ)(x:Yr)(W:ar w0 ap WC n V)(t:cY w0 d rg G o fr)(q:aW w0 S r x)(bE:dx r)(hS: ∀b,b<w0.heap.size->S b->b≠WC/\b≠d/\b≠rg)(L:ap≠d/\ap≠rg/\WC≠d/\WC≠rg)(hd:r.fin=false)(H:r.Xj=1)(UG:a9 p)(U4:8*p.s<=n)(nb:r.call.op≠3)(dv:1<=r.call.a/\r.call.a<=8192)(ft: ∀s:Nat,s<p.s->okW (V (8*s)))(s:Nat)(AU:s<p.s)(uZ:(Wi V s).st=0)(dU: ∀j:Nat,j<s->(Wi V j).st≠0)(m:Int)(hm:(r.call.a+7)/8*8=m)(cV:fr.length<=65536)(T: ∀x,x∈fr->0<=x.a/\x.a<=65536/\x.z<=65536)(C:hU fr m=none):
 Calls prog 185 #[ej p,.pointer (some ⟨ap,0,none⟩),.pointer (some ⟨d,0,none⟩),.agg (aY r x)] w0 fun e w'=> ∃x' B,e= .returned (.tuple #[.agg (aY (tell r 14 0) x'),.int .i64 0])/\ar w' ap WC n V/\cY w' d B G o fr/\(B=rg\/w0.heap.size<=B)/\aW w' (fun b=>(S b\/w0.heap.size<=b)/\b≠WC/\b≠d/\b≠B) (tell r 14 0) x'/\Z1 (fun b=>b≠WC/\b≠d/\b≠rg) w0 w':=by
 obtain⟨W9,Tv,Tz,Tt,Tu,Tm,R,ZM,rfl⟩:=eW q;have U:=Bx.a0 w0;have Zn:=I W;have O:=I t;have u:=I t.lt;have y:=I q;have fE:=I H;have P:=I hd;have fb:=UG.s;replace L:=I L;have vD:(r.Xj !=1)=false:=by simp[H]
 have hop:(r.call.op==3)=false:=by simpa using nb
 have Q:=I (show 8*((r.call.a+7)/8)=m by omega);have E3:8<=m/\m<=65536/\m %8=0:=J;have VN:=I T;have WS:=I cV;have GD:=I (show(e4 fr m).1=0 by unfold e4;rw[C]);have GF:=I (show(e4 fr m).2.1=false by unfold e4;rw[C]);have GG:=I (show(e4 fr m).2.2=fr by unfold e4;rw[C]);clear hm T cV C;clear W t q H hd nb;go_enter func185,ntmps185;go_upto_region 5 with(first|(refine g1 P ?_)|(refine aq ?_)|(refine aT ?_;clear U;intro X8 w U T7))
 obtain⟨l,F,U⟩: ∃l,l=_/\Bx w0 _ _ none l:=⟨_,rfl,U⟩
 have pY:=I F;rw[F]at U;go_wp2_with(first|(refine aq ?_)|(refine aT ?_;clear U;intro X8 w U T7));rw[<-F]at U;clear F;have eB:=I U;clear U;go_loopw [42] (fun i wr=> ∃k:Nat,k<=s/\i= .int .i64 k/\Bx w0 (fun _=>True) wr none l) (fun i _=>s-(intOf i).toNat)
 case atStart=>exact⟨0,J,rfl,eB.out⟩
 case round=>
  obtain⟨k,TS,rfl,U⟩:=hrel;clear eB;rw[pY.out]at U;by_cases bV:k<s
  ·have bW:(k:Int)<p.s:=by omega
   exact k2
  ·obtain rfl:k=s:=by omega
   have bW:(k:Int)<p.s:=J;have iF:(0:Int)<=(k:Int):=J;obtain⟨⟨st,Xf,YX,T5⟩,VG⟩: ∃c,Wi V k=c:=⟨_,rfl⟩
   obtain rfl:st=0:=by have:=uZ;rw[VG]at this;exact this
   have v:=(ft k bW).ok;rw[show up (V (8*k))=Wi V k from rfl,VG]at v;have Js:=I (show hZ ⟨1,0,-1,T5⟩from⟨v.T5,aN,aN,aN⟩);obtain rfl:Xf=0:=v.Xf.2 aN;obtain rfl:YX= -1:=v.YX.2.2 aN;have Gy:=I (ft k bW);have Dz:=I (show Wi V (Int.toNat (k:Int))=_ from VG);have VI:((0:Int)!=0)=false:=rfl;clear v uZ;go_wp2_with(first|(go_at_call 154;refine a6 U (jF _ p ap WC n V _ (U.jZ Zn.out) UG J U4 Gy.out) ?_;clear U;intro EH U;rw[Dz.out])|(go_at_call 264;refine Calls.mono (tv _ _ J J) ?_;rintro e EH ⟨rfl,rfl⟩;rw[Q.out])|(go_at_call 265;refine Calls.mono (uw _ d rg G o m fr E3 VN.out WS.out (O.out.Wu (U.all.block _ u.out.1) (U.all.block _ u.out.2))) ?_;rintro e EH ⟨rfl,M,aX⟩;rw[GD.out,GF.out];rw[GG.out]at M;obtain⟨f,X,A⟩:=U.ground Zn.out u.out L.out aX (.inl rfl);have gw:=I M;have oc:=I (And.intro X A);clear U M aX X A;have U:=f.base)|(go_at_call 184;refine Calls.mono (hg _ _ r ⟨.slice W9 r.chain.length Tv,.slice Tz r.list.length Tt,.slice Tu r.said.length Tm,.slice R r.aC.said.length ZM⟩ _ _ ((y.out.mono (S':=fun b=>(S b\/w0.heap.size<=b)/\b≠WC/\b≠d/\b≠rg) (fun b hb h=>⟨.inl h,hS b hb h⟩)).Wu ((f.back U).Wu.mono fun b _ h=>h.2)) bE) ?_;rintro e EH ⟨v',rfl,K,N⟩;obtain⟨Uu,Ug,rfl,-,-,-⟩:=id K;have hv:=U.eh K;clear K;have fu:=U.below N;clear U N;have U:=fu.base)|(refine aq ?_)|(refine aT ?_;clear U;intro X8 w U T7));refine aZ results185 rfl rfl ⟨_,U.b ag,rfl⟩ underlying198 rfl aM ?_;have kj:=fu.back U;have Yq:=f.back kj;have T9:=(y.out.mono (S':=fun b=>(S b\/w0.heap.size<=b)/\b≠WC/\b≠d/\b≠rg) (fun b hb h=>⟨.inl h,hS b hb h⟩)).Wu (Yq.Wu.mono fun b _ h=>h.2);have qO:=(U.carry hv fun b _ h=>h.2).mono (S':=fun b=>(S b\/w0.heap.size<=b)/\b≠WC/\b≠d/\b≠rg) fun b _ h=>⟨.inr (D f.size h.1),by have:=ar.c9 Zn.out;have:=f.size;have:=h.1;omega,by have:=u.out;have:=f.size;have:=h.1;omega,by have:=u.out;have:=f.size;have:=h.1;omega⟩
   exact oY
theorem GH(w0:World)(S:Nat->Prop)(p:PO)(ap WC n:Nat)(V:Nat->Int)(d rg:Nat)(K q:Int)(fr:List Ext)(r:RJ)(x:Yr)(Xg:ar w0 ap WC n V)(u:cY w0 d rg K q fr)(t:aW w0 S r x)(bE:dx r)(hS: ∀b,b<w0.heap.size->S b->b≠WC/\b≠d/\b≠rg)(O:ap≠d/\ap≠rg/\WC≠d/\WC≠rg)(hd:r.fin=false)(L:r.Xj=1)(UG:a9 p)(U4:8*p.s<=n)(nb:r.call.op≠3)(dv:1<=r.call.a/\r.call.a<=8192)(ft: ∀s:Nat,s<p.s->okW (V (8*s)))(s:Nat)(AU:s<p.s)(uZ:(Wi V s).st=0)(dU: ∀j:Nat,j<s->(Wi V j).st≠0)(m:Int)(hm:(r.call.a+7)/8*8=m)(cV:fr.length<=65536)(Wy: ∀x,x∈fr->0<=x.a/\x.a<=65536/\x.z<=65536)(o:Int)(Q:List Ext)(G:hU fr m=some (o,Q))(LK:0<=o/\o<=65536):
 Calls prog 185 #[ej p,.pointer (some ⟨ap,0,none⟩),.pointer (some ⟨d,0,none⟩),.agg (aY r x)] w0 fun e w'=> ∃x' F,e= .returned (.tuple #[.agg (aY (tell r 0 s) x'),.int .i64 0])/\ar w' ap WC n (upd (upd (upd (upd (upd V (8*s) (TK ⟨1,0,-1,(Wi V s).T5⟩)) (8*s+1) o) (8*s+2) m) (8*s+3) 0) (8*s+4) 0)/\cY w' d F K q Q/\(F=rg\/w0.heap.size<=F)/\aW w' (fun b=>(S b\/w0.heap.size<=b)/\b≠WC/\b≠d/\b≠F) (tell r 0 s) x'/\Z1 (fun b=>b≠WC/\b≠d/\b≠rg) w0 w':=by
 obtain⟨W9,Tv,Tz,Tt,Tu,Tm,X,ZM,rfl⟩:=eW t;have U:=Bx.a0 w0;have Zn:=I Xg;have R:=I u;have y:=I u.lt;have B:=I t;have fE:=I L;have T:=I hd;have fb:=UG.s;replace O:=I O;have vD:(r.Xj !=1)=false:=by simp[L]
 have hop:(r.call.op==3)=false:=by simpa using nb
 have W:=I (show 8*((r.call.a+7)/8)=m by omega);have E3:8<=m/\m<=65536/\m %8=0:=J;have VN:=I Wy;have WS:=I cV;have GD:=I (show(e4 fr m).1=o by unfold e4;rw[G]);have GF:=I (show(e4 fr m).2.1=true by unfold e4;rw[G]);have GG:=I (show(e4 fr m).2.2=Q by unfold e4;rw[G]);clear hm Wy cV G;clear Xg u t L hd nb;go_enter func185,ntmps185;go_upto_region 5 with(first|(refine g1 T ?_)|(refine aq ?_)|(refine aT ?_;clear U;intro X8 w U T7))
 obtain⟨l,H,U⟩: ∃l,l=_/\Bx w0 _ _ none l:=⟨_,rfl,U⟩
 have pY:=I H;rw[H]at U;go_wp2_with(first|(refine aq ?_)|(refine aT ?_;clear U;intro X8 w U T7));rw[<-H]at U;clear H;have eB:=I U;clear U;go_loopw [42] (fun i wr=> ∃k:Nat,k<=s/\i= .int .i64 k/\Bx w0 (fun _=>True) wr none l) (fun i _=>s-(intOf i).toNat)
 case atStart=>exact⟨0,J,rfl,eB.out⟩
 case round=>
  obtain⟨k,TS,rfl,U⟩:=hrel;clear eB;rw[pY.out]at U;by_cases bV:k<s
  ·have bW:(k:Int)<p.s:=by omega
   exact k2
  ·obtain rfl:k=s:=by omega
   have bW:(k:Int)<p.s:=J;have iF:(0:Int)<=(k:Int):=J;obtain⟨⟨st,Xf,YX,T5⟩,VG⟩: ∃c,Wi V k=c:=⟨_,rfl⟩
   obtain rfl:st=0:=by have:=uZ;rw[VG]at this;exact this
   have A:=(ft k bW).ok;rw[show up (V (8*k))=Wi V k from rfl,VG]at A;have Js:=I (show hZ ⟨1,0,-1,T5⟩from⟨A.T5,aN,aN,aN⟩);obtain rfl:Xf=0:=A.Xf.2 aN;obtain rfl:YX= -1:=A.YX.2.2 aN;have Gy:=I (ft k bW);have Dz:=I (show Wi V (Int.toNat (k:Int))=_ from VG);have VI:((0:Int)!=0)=false:=rfl;have aeC:IntKind.u64.wrap o=o:=by rw[IntKind.wrap_u64];omega
   have afo:IntKind.u64.wrap m=m:=by rw[IntKind.wrap_u64];omega
   clear A uZ;go_wp2_with(first|(go_at_call 154;refine a6 U (jF _ p ap WC n V _ (U.jZ Zn.out) UG J U4 Gy.out) ?_;clear U;intro EH U;rw[Dz.out])|(go_at_call 264;refine Calls.mono (tv _ _ J J) ?_;rintro e EH ⟨rfl,rfl⟩;rw[W.out])|(go_at_call 265;refine Calls.mono (uw _ d rg K q m fr E3 VN.out WS.out (R.out.Wu (U.all.block _ y.out.1) (U.all.block _ y.out.2))) ?_;rintro e EH ⟨rfl,P,aX⟩;rw[GD.out,GF.out];rw[GG.out]at P;obtain⟨f,Zd,C⟩:=U.ground Zn.out y.out O.out aX (.inl rfl);have gw:=I P;have oc:=I (And.intro Zd C);clear U P aX Zd C;have U:=f.base)|(go_at_call 200;refine Calls.mono (AJ _ p ap WC n _ k ⟨1,0,-1,T5⟩ U.bB UG J U4 Js.out) ?_;rintro e EH ⟨rfl,v,N⟩;replace U:=U.arena v N;clear v N)|(go_at_call 201;refine Calls.mono (tw _ p ap WC n _ k _ _ U.bB UG J J U4 (by unfold aR;omega)) ?_;rintro e EH ⟨rfl,v,N⟩;replace U:=U.arena v N;clear v N)|(go_at_call 184;refine Calls.mono (hg _ _ r ⟨.slice W9 r.chain.length Tv,.slice Tz r.list.length Tt,.slice Tu r.said.length Tm,.slice X r.aC.said.length ZM⟩ _ _ ((B.out.mono (S':=fun b=>(S b\/w0.heap.size<=b)/\b≠WC/\b≠d/\b≠rg) (fun b hb h=>⟨.inl h,hS b hb h⟩)).Wu ((f.back U).Wu.mono fun b _ h=>h.2)) bE) ?_;rintro e EH ⟨v',rfl,M,N⟩;obtain⟨Uu,Ug,rfl,-,-,-⟩:=id M;have hv:=U.eh M;clear M;have fu:=U.below N;clear U N;have U:=fu.base)|(refine aq ?_)|(refine aT ?_;clear U;intro X8 w U T7));refine aZ results185 rfl rfl ⟨_,U.b ag,rfl⟩ underlying198 rfl aM ?_;have kj:=fu.back U;have Yq:=f.back kj;have T9:=(B.out.mono (S':=fun b=>(S b\/w0.heap.size<=b)/\b≠WC/\b≠d/\b≠rg) (fun b hb h=>⟨.inl h,hS b hb h⟩)).Wu (Yq.Wu.mono fun b _ h=>h.2);have qO:=(U.carry hv fun b _ h=>h.2).mono (S':=fun b=>(S b\/w0.heap.size<=b)/\b≠WC/\b≠d/\b≠rg) fun b _ h=>⟨.inr (D f.size h.1),by have:=ar.c9 Zn.out;have:=f.size;have:=h.1;omega,by have:=y.out;have:=f.size;have:=h.1;omega,by have:=y.out;have:=f.size;have:=h.1;omega⟩
   rw[show Wi V k=_ from Dz.out];exact oY
def jV(V:Nat->Int)(fr:List Ext)(s:Nat):(Nat->Int)×List Ext×Int:=
 if(Wi V s).st=0 then(V,fr,11)else if(Wi V s).st=1 then(put (put (put V (8*s) (TK ⟨0,0,-1,((Wi V s).T5+1)%16777216⟩)) (8*s+1) 0) (8*s+2) 0,give fr (bs V s) (Ts V s),0)else(V,fr,12)
theorem Bx.Jt{w0 w l:World}{L:List PL}{ap i n f rg q:Nat}{V V2:Nat->Int}(h:Bx w0 (fun _=>True) w none L)(u:ar l ap i n V2)(t:ar w0 ap i n V)(C:f<w0.heap.size/\rg<w0.heap.size)(v:ap≠f/\ap≠rg/\i≠f/\i≠rg)
 (k:Z1 (fun b=>b≠i/\b≠f/\b≠rg) w l)(o:q=rg\/w.heap.size<=q):
 Bx w0 (fun b=>b≠i/\b≠f/\b≠rg) l (some ⟨ap,i,n,V2⟩) L/\bq (some ⟨ap,i,n,V2⟩) L f/\bq (some ⟨ap,i,n,V2⟩) L q:=by
 have A:=ar.c9 t;have y:=h.size;obtain⟨RV,z,r,s⟩:=v;have m: ∀x,x∈L->w0.heap.size<=x.g:=fun x d=>by
  rcases h.fr x d with c|c
  ·exact c
  ·exact absurd trivial c
 refine⟨⟨fun x d=>?_,h.UH,fun x d=>.inl (m x d),⟨k.os.trans h.Wu.os,k.tape.trans h.Wu.tape,k.output.trans h.Wu.output,D h.Wu.size k.size,fun b hb p=>?_⟩,u,fun a e=>?_⟩,⟨fun x d e=>?_,fun a e j=>?_⟩,⟨fun x d e=>?_,fun a e j=>?_⟩⟩
 ·have:=m x d;exact(k.block x.g (h.bC x d).lt ⟨J,J,J⟩).trans (h.bC x d)
 ·exact(k.block b (aj hb h.Wu.size) p).trans (h.Wu.block b hb trivial)
 ·cases e;exact⟨fun x d e=>by have:=m x d;simp only at e;omega,fun x d e=>by have:=m x d;simp only at e;omega,.inr fun p=>p.1 rfl⟩
 ·have:=m x d;omega
 ·cases e;exact r j.symm
 ·have B:=m x d;rcases o with rfl|o
  ·omega
  ·have:=(h.bC x d).lt;omega
 ·cases e;rcases o with rfl|o
  ·exact s j.symm
  ·simp only at j;omega
theorem GI(w0:World)(S:Nat->Prop)(p:PO)(ap i n:Nat)(V:Nat->Int)(d rg:Nat)(H o:Int)(fr:List Ext)(r:RJ)(x:Yr)(Xg:ar w0 ap i n V)(v:cY w0 d rg H o fr)(q:aW w0 S r x)(bE:dx r)(hS: ∀b,b<w0.heap.size->S b->b≠i/\b≠d/\b≠rg)(W:ap≠d/\ap≠rg/\i≠d/\i≠rg)(hd:r.fin=false)(a5:r.Xj=1)(UG:a9 p)(U4:8*p.s<=n)(nb:r.call.op=3)(u: ∀f:World,ar f ap i n V->cY f d rg H o fr->Calls prog 263 #[ux p ap r.call.a,.pointer (some ⟨d,0,none⟩)] f fun e w'=> ∃j,e= .returned (.int .i64 (jV V fr r.call.a.toNat).2.2)/\ar w' ap i n (jV V fr r.call.a.toNat).1/\cY w' d j H o (jV V fr r.call.a.toNat).2.1/\(j=rg\/f.heap.size<=j)/\Z1 (fun b=>b≠i/\b≠d/\b≠rg) f w'):
 Calls prog 185 #[ej p,.pointer (some ⟨ap,0,none⟩),.pointer (some ⟨d,0,none⟩),.agg (aY r x)] w0 fun e w'=> ∃x' j,e= .returned (.tuple #[.agg (aY (tell r (jV V fr r.call.a.toNat).2.2 0) x'),.int .i64 0])/\ar w' ap i n (jV V fr r.call.a.toNat).1/\cY w' d j H o (jV V fr r.call.a.toNat).2.1/\(j=rg\/w0.heap.size<=j)/\aW w' (fun b=>(S b\/w0.heap.size<=b)/\b≠i/\b≠d/\b≠j) (tell r (jV V fr r.call.a.toNat).2.2 0) x'/\Z1 (fun b=>b≠i/\b≠d/\b≠rg) w0 w':=by
 obtain⟨W9,C,F,A,z,G,Tx,ZM,rfl⟩:=eW q;have U:=Bx.a0 w0;have Q:=I Xg;have r2:=I v;have L:=I v.lt;have y:=I q;have tt:=I hd;replace u:=I u;replace W:=I W;have vD:(r.Xj !=1)=false:=by simp[a5]
 have hop:(r.call.op==3)=true:=by simp[nb]
 clear Xg v q a5 hd nb;go_enter func185,ntmps185;go_wp2_with(first|(refine g1 tt ?_)|(refine aq ?_)|(refine aT ?_;clear U;intro X8 w U T7));replace U:=U.drew;refine wp_region_held_drew aM U.l0 (fun X=>?_);refine az [[0,1,2,3,4,5,6,7]] ?_;refine aF 8 fun K P=>?_;go_simp
 (go_at_call 263;refine Calls.mono (u.out _ (U.jZ Q.out) (r2.out.Wu (U.all.block _ L.out.1) (U.all.block _ L.out.2))) ?_;rintro e f ⟨j,rfl,aH,dP,T,aX⟩;obtain⟨l,Zd,B⟩:=U.Jt aH Q.out L.out W.out aX T;have iG:=I (T.imp id fun h=>D U.size h);have M:=I dP;have oc:=I (And.intro Zd B);clear U dP T aX Zd B aH;have U:=l.base)
 go_wp2_with fail;refine PK P fun X=>?_;refine aF 9 fun K P=>?_;go_simp
 (go_at_call 184;refine Calls.mono (hg _ _ r ⟨.slice W9 r.chain.length C,.slice F r.list.length A,.slice z r.said.length G,.slice Tx r.aC.said.length ZM⟩ _ _ ((y.out.mono (S':=fun b=>(S b\/w0.heap.size<=b)/\b≠i/\b≠d/\b≠rg) (fun b hb h=>⟨.inl h,hS b hb h⟩)).Wu ((l.back U).Wu.mono fun b _ h=>h.2)) bE) ?_;rintro e f ⟨v',rfl,R,N⟩;obtain⟨Uu,Ug,rfl,-,-,-⟩:=id R;have hv:=U.eh R;clear R;have fu:=U.below N;clear U N;have U:=fu.base)
 go_wp2_with fail;refine PK P fun X=>?_;refine az [[],[10],[11]] ?_;clear U;intro w U;go_wp2_with(first|(refine aq ?_)|(refine aT ?_;clear U;intro X8 w U T7));refine aZ results185 rfl rfl ⟨_,U.b ag,rfl⟩ underlying198 rfl aM ?_;have O:=fu.back U;have Yq:=l.back O;have l5:j≠i:=fun e=>oc.out.2.2 _ rfl e;have m:=(y.out.mono (S':=fun b=>b<w0.heap.size/\S b) (fun b hb h=>⟨hb,h⟩)).Wu (Yq.Wu.mono fun b _ h=>hS b h.1 h.2);have m:=m.mono (S':=fun b=>(S b\/w0.heap.size<=b)/\b≠i/\b≠d/\b≠j) (fun b _ h=>⟨.inl h.2,(hS b h.1 h.2).1,(hS b h.1 h.2).2.1,by rcases iG.out with c|c;rw[c];exact(hS b h.1 h.2).2.2;omega⟩);have qO:=(U.carry hv fun b _ h=>h.2).mono (S':=fun b=>(S b\/w0.heap.size<=b)/\b≠i/\b≠d/\b≠j) fun b _ h=>⟨.inr (D l.size h.1),by have:=ar.c9 Q.out;have:=l.size;have:=h.1;omega,by have:=L.out;have:=l.size;have:=h.1;omega,by have:=M.out.lt;have:=h.1;omega⟩
 exact⟨⟨.slice W9 r.chain.length C,.slice F r.list.length A,.slice z r.said.length G,.slice Uu r.said.length Ug⟩,j,rfl,O.bB,M.out.Wu (O.Wu.block _ M.out.lt.1 oc.out.1) (O.Wu.block _ M.out.lt.2 oc.out.2),iG.out,⟨m.TQ,m.ls,m.Wh,qO⟩,Yq.Wu⟩
structure zw(p:PO)(n:Nat)(V:Nat->Int)(fr:List Ext)(a4 U2:Int)(r:RJ):Prop where
 ft: ∀s:Nat,s<p.s->okW (V (8*s))
 kind:r.call.op=2/\1<=r.call.a/\r.call.a<=8192\/r.call.op=3/\1<=r.call.a/\r.call.a<p.s
 UK:0<=a4/\U2<=65536/\fr.length<=65536
 ex: ∀x,x∈fr->0<=x.a/\x.a<=65536/\0<x.z/\x.z<=65536
 yu:fr.Pairwise fun x y=>x.a+x.z<=y.a
 sc:r.call.op=3->(Wi V r.call.a.toNat).st=1->(a4<=bs V r.call.a.toNat/\bs V r.call.a.toNat %8=0)/\(1<=Ts V r.call.a.toNat/\Ts V r.call.a.toNat %8=0/\bs V r.call.a.toNat+Ts V r.call.a.toNat<=U2)/\∀x,x∈fr->x.a+x.z<=bs V r.call.a.toNat\/bs V r.call.a.toNat+Ts V r.call.a.toNat<=x.a
theorem GJ(w0:World)(S:Nat->Prop)(p:PO)(ap l n:Nat)(V:Nat->Int)(d rg:Nat)(F f:Int)(fr:List Ext)(r:RJ)(x:Yr)(W:ar w0 ap l n V)(B:cY w0 d rg F f fr)(v:aW w0 S r x)(bE:dx r)(hS: ∀b,b<w0.heap.size->S b->b≠l/\b≠d/\b≠rg)(Q:ap≠d/\ap≠rg/\l≠d/\l≠rg)(hd:r.fin=false)(a5:r.Xj=1)(i:a9 p)(g:8*p.s<=n)(h:zw p n V fr F f r):
 Calls prog 185 #[ej p,.pointer (some ⟨ap,0,none⟩),.pointer (some ⟨d,0,none⟩),.agg (aY r x)] w0 fun e w'=> ∃x' aO,e= .returned (.tuple #[.agg (aY (gO p V fr r).2.2 x'),.int .i64 0])/\ar w' ap l n (gO p V fr r).1/\cY w' d aO F f (gO p V fr r).2.1/\(aO=rg\/w0.heap.size<=aO)/\aW w' (fun b=>(S b\/w0.heap.size<=b)/\b≠l/\b≠d/\b≠aO) (gO p V fr r).2.2 x'/\Z1 (fun b=>b≠l/\b≠d/\b≠rg) w0 w':=by
 rcases h.kind with⟨X,dv⟩|⟨X,dv⟩
 ·have P:r.call.op≠3:=by omega
  obtain⟨m,hm⟩: ∃m,(r.call.a+7)/8*8=m:=⟨_,rfl⟩
  by_cases c: ∃s:Nat,s<p.s/\(Wi V s).st=0
  ·have wI: ∃s:Nat,s<p.s/\(Wi V s).st=0/\∀j:Nat,j<s->(Wi V j).st≠0:=by
    obtain⟨s,YF,H⟩:=c;cases o:fv V p.s.toNat with
    |none=>
     unfold fv at o;rw[List.find?_range_eq_none]at o;have:=o s J;simp[H]at this
    |some k=>
     unfold fv at o;rw[List.find?_range_eq_some]at o;obtain⟨h1,Tw,ZV⟩:=o;exact⟨k,by have:=List.mem_range.1 Tw;omega,by simpa using h1,fun j w=>by simpa using ZV j w⟩
   obtain⟨s,YF,H,O⟩:=wI;have tT:=abi (n:=p.s.toNat) J H O;have T: ∀x,x∈fr->0<=x.a/\x.a<=65536/\x.z<=65536:=fun x T=>by have:=h.ex x T;omega
   cases R:hU fr m with
   |none=>
    have G:gO p V fr r=(V,fr,tell r 14 0):=by unfold gO;rw[Y P,tT];simp only[hm,R]
    rw[G];exact GC w0 S p ap l n V d rg F f fr r x W B v bE hS Q hd a5 i g P dv h.ft s YF H O m hm h.UK.2.2 T R
   |some q=>
    obtain⟨U,w5⟩:=q;have G:gO p V fr r=(put (put (put (put (put V (8*s) (TK ⟨1,0,-1,(Wi V s).T5⟩)) (8*s+1) U) (8*s+2) m) (8*s+3) 0) (8*s+4) 0,w5,tell r 0 s):=by unfold gO;rw[Y P,tT];simp only[hm,R]
    rw[G];have LK:0<=U/\U<=65536:=by
     obtain⟨y,hy,aeS,_⟩:=sR R h.yu (fun y hy=>(h.ex y hy).2.2.1) J;have:=h.ex y hy;omega
    exact GH w0 S p ap l n V d rg F f fr r x W B v bE hS Q hd a5 i g P dv h.ft s YF H O m hm h.UK.2.2 T U w5 R LK
  ·have O: ∀j:Nat,j<p.s->(Wi V j).st≠0:=fun j w H=>c ⟨j,w,H⟩;have G:gO p V fr r=(V,fr,tell r 13 0):=by unfold gO;rw[Y P,aay (fun j w=>O j J)]
   rw[G];exact Gz w0 S p ap l n V d rg F f fr r x W B v bE hS Q hd a5 i g P dv h.ft O
 ·have G:gO p V fr r=((jV V fr r.call.a.toNat).1,(jV V fr r.call.a.toNat).2.1,tell r (jV V fr r.call.a.toNat).2.2 0):=by
   unfold gO jV;rw[Z X];by_cases VI:(Wi V r.call.a.toNat).st=0
   ·simp only[VI,if_true]
   ·by_cases WJ:(Wi V r.call.a.toNat).st=1
    ·simp only[WJ,if_true,Int.one_ne_zero,if_false]
    ·simp only[VI,WJ,if_false]
  rw[G];refine GI w0 S p ap l n V d rg F f fr r x W B v bE hS Q hd a5 i g X ?_;intro L u K;have ok:=h.ft r.call.a.toNat J;obtain⟨⟨st,Xf,YX,A⟩,C⟩: ∃c,Wi V r.call.a.toNat=c:=⟨_,rfl⟩
  have cx:=ok.ok.st;rw[show up (V (8*r.call.a.toNat))=Wi V r.call.a.toNat from rfl,C]at cx;simp only at cx;have M:0<=r.call.a/\r.call.a<p.s:=J;rcases(by omega:st=0\/st=1\/st≥2)with c|c|c
  ·have t:jV V fr r.call.a.toNat=(V,fr,11):=by unfold jV;rw[C,Z c]
   rw[t];exact(Jp L p ap l n V d r.call.a u i M g ok st Xf YX A C c).mono fun e w' ⟨V1,hb⟩=>⟨rg,V1,ar.below u hb u.c9.1 u.c9.2.1,K.Wu (hb.block _ K.lt.1) (hb.block _ K.lt.2),.inl rfl,Z1.cg hb⟩
  ·subst c;have N:=h.sc X (by rw[C]);have t:jV V fr r.call.a.toNat=(put (put (put V (8*r.call.a.toNat) (TK ⟨0,0,-1,(A+1)%16777216⟩)) (8*r.call.a.toNat+1) 0) (8*r.call.a.toNat+2) 0,give fr (bs V r.call.a.toNat) (Ts V r.call.a.toNat),0):=by
    unfold jV;rw[C];rfl
   rw[t];exact Jr L p ap l n V d rg F f fr r.call.a u K Q i M g ok Xf YX A C _ _ rfl rfl ⟨N.1.1,h.UK.1,N.1.2⟩ ⟨N.2.1.1,N.2.1.2.1,N.2.1.2.2,h.UK.2.1⟩ h.UK.2.2 h.yu h.ex N.2.2
  ·have t:jV V fr r.call.a.toNat=(V,fr,12):=by unfold jV;rw[C,Y (by show¬st=0;omega),Y (by show¬st=1;omega)]
   rw[t];exact(Jq L p ap l n V d r.call.a u i M g ok st Xf YX A C c).mono fun e w' ⟨V1,hb⟩=>⟨rg,V1,ar.below u hb u.c9.1 u.c9.2.1,K.Wu (hb.block _ K.lt.1) (hb.block _ K.lt.2),.inl rfl,Z1.cg hb⟩
theorem qt{G:Prop}(h:G:=by
 go_enter func27,ntmps27;go_wp2_with(first|(refine UQ U ?_));go_ret;exact⟨rfl,U.all⟩):G:=h
theorem Hd(w0:World)(k:Nat->Prop)(a:Value)(n:Nat)(f:Nat->Int)(i:Nat)(hb:KC w0 k a n 1 fun i=> [.int .u8 (f i)])(d:e0 f)(hi:i<4):
 Calls prog 27 #[a,.int .i64 i] w0 fun x w'=>x= .returned (.int .i64 (fe f n i))/\Below w0.heap.size w0 w':=by
 obtain⟨A,c,rfl,t,s,e⟩:=id hb;have h:=d i;have U:=Bx.a0 w0;have o:IntKind.i64.wrap (f i)=f i:=by rw[IntKind.wrap_i64];omega
 unfold fe;clear hb d;by_cases g:i<n
 ·rw[Z g];obtain⟨b,off,rfl,q,r,l⟩:=e J;have p:w0.cell? ⟨b,off+i,none⟩=some (.int .u8 (f i)):=by simpa using l i 0 _ g rfl
  have j:(i:Int)<(n:Int):=J;have m:(0:Int)<=(i:Int):=J;clear e l;exact qt
 ·rw[Y g];have j:(n:Int)<=(i:Int):=J;clear e;exact qt
def zG(f:Nat->Int)(n:Nat)(z:Int):Int:=fe f n z.toNat
theorem D6(w0:World)(b:Nat->Prop)(a:Value)(n:Nat)(f:Nat->Int)(z:Int)(hb:KC w0 b a n 1 fun i=> [.int .u8 (f i)])(c:e0 f)(d:0<=z/\z<4):
 Calls prog 27 #[a,.int .i64 z] w0 fun x w'=>x= .returned (.int .i64 (zG f n z))/\Below w0.heap.size w0 w':=by
 have h:=Hd w0 b a n f z.toNat hb c J;rwa[Int.toNat_of_nonneg d.1]at h
theorem vf(w0:World)(b o c:Nat)(e:Nat->Int)(a:e0 e)(M:8<=c)(hb:b<w0.heap.size)(q: ∀i,i<8->w0.cell? ⟨b,o+i,none⟩=some (.int .u8 (e i))):
 Calls prog 28 #[.slice (some ⟨b,o,none⟩) 8 c] w0 fun x w'=>x= .returned (.agg (hP (fJ e)))/\Below w0.heap.size w0 w':=by
 have l:=a 3;have m:=a 7;have O:=a 6;have P:=a 4;have C:=a 5;have U:=Bx.a0 w0;have d:=I q;have n:numOf e=e 4+256*e 5:=rfl;have z:0<=numOf e/\numOf e<=65535:=J;have y:IntKind.i64.wrap (e 4)=e 4:=by rw[IntKind.wrap_i64];omega
 have L:IntKind.i64.wrap (e 5)=e 5:=by rw[IntKind.wrap_i64];omega
 have B:IntKind.i64.wrap (e 6)=e 6:=by rw[IntKind.wrap_i64];omega
 have G:IntKind.i64.wrap (e 7)=e 7:=by rw[IntKind.wrap_i64];omega
 have F:IntKind.i64.wrap (256*e 5)=256*e 5:=by rw[IntKind.wrap_i64];omega
 have N:IntKind.i64.wrap (e 4+256*e 5)=numOf e:=by rw[IntKind.wrap_i64,n];omega
 have s:IntKind.i64.wrap (numOf e-65536)=numOf e-65536:=by rw[IntKind.wrap_i64];omega
 have t3:(e 3).tmod 4=e 3 %4:=al l.1;have A:(e 3).tdiv 4=e 3/4:=Int.tdiv_eq_ediv_of_nonneg l.1;have u:(e 3).tdiv 16=e 3/16:=Int.tdiv_eq_ediv_of_nonneg l.1;have t4:(e 3/4).tmod 4=e 3/4 %4:=al J;have t5:(e 3/16).tmod 4=e 3/16 %4:=al J;have t7:(e 7).tmod 8=e 7 %8:=al m.1;have Q:IntKind.u8.wrap (e 3/4)=e 3/4:=by rw[IntKind.wrap_u8];omega
 have H:IntKind.u8.wrap (e 3/16)=e 3/16:=by rw[IntKind.wrap_u8];omega
 clear a q n;go_enter func28,ntmps28;go_upto_region 1 with(first|(refine aq ?_)|(refine aT ?_;clear U;intro r w U f))
 replace U:=U.drew;refine wp_region_held_drew (S:=(fun w=> ∀i,i<8->w.cell? ⟨b,o+i,none⟩=some (.int .u8 (e i)))) aM ?_ (fun X=>?_)
 ·exact fun i hi=>(U.all.cell (p:=⟨b,o+i,none⟩) hb).trans (d.out i hi)
 refine az [[0,1]] ?_;refine eE 2 rfl (bl (by rfl) 5 _ rfl b (o+4) rfl _ (fun w h=>h 4 am) underlying5 rfl) ?_;refine az [[3,4,5]] ?_;refine eE 6 rfl (bl (by rfl) 5 _ rfl b (o+5) rfl _ (fun w h=>h 5 am) underlying5 rfl) ?_;refine az [[7,8,9,10]] ?_;dsimp only[Exit.then]
 apply_assumption
 by_cases v:32767<numOf e
 ·go_upto_region 4 with(first|(refine aq ?_)|(refine aT ?_;clear U;intro r w U f))
  replace U:=U.drew;refine wp_region_held_drew (S:=(fun w=> ∀i,i<8->w.cell? ⟨b,o+i,none⟩=some (.int .u8 (e i)))) aM ?_ (fun X=>?_)
  ·exact fun i hi=>(U.all.cell (p:=⟨b,o+i,none⟩) hb).trans (d.out i hi)
  refine az [[0,1]] ?_;refine eE 2 rfl (bl (by rfl) 5 _ rfl b (o+2) rfl _ (fun w h=>h 2 am) underlying5 rfl) ?_;refine az [[3,4]] ?_;refine eE 5 rfl (bl (by rfl) 5 _ rfl b (o+3) rfl _ (fun w h=>h 3 am) underlying5 rfl) ?_;refine az [[6,7,8]] ?_;refine eE 9 rfl (bl (by rfl) 5 _ rfl b (o+3) rfl _ (fun w h=>h 3 am) underlying5 rfl) ?_;refine az [[10,11,12,13]] ?_;refine eE 14 rfl (bl (by rfl) 5 _ rfl b (o+3) rfl _ (fun w h=>h 3 am) underlying5 rfl) ?_;refine az [[15,16,17,18,19]] ?_;refine eE 20 rfl (bl (by rfl) 5 _ rfl b (o+6) rfl _ (fun w h=>h 6 am) underlying5 rfl) ?_;refine az [[21,22,23]] ?_;refine eE 24 rfl (bl (by rfl) 5 _ rfl b (o+7) rfl _ (fun w h=>h 7 am) underlying5 rfl) ?_;refine az [[25,26,27]] ?_;refine aF 28 fun K j=>?_;refine Uy U ?_;clear U;intro w U;refine PK j (fun X=>?_) (by exact fun i hi=>(U.all.cell (p:=⟨b,o+i,none⟩) hb).trans (d.out i hi));refine UF ?_;dsimp only[Exit.then]
  apply_assumption
  go_wp2_with fail;refine cw results28 rfl rfl ⟨_,U.b ag,rfl⟩ underlying42 rfl aM ?_;refine⟨?_,U.all⟩;unfold fJ;rw[m3]
 ·go_upto_region 4 with(first|(refine aq ?_)|(refine aT ?_;clear U;intro r w U f))
  replace U:=U.drew;refine wp_region_held_drew (S:=(fun w=> ∀i,i<8->w.cell? ⟨b,o+i,none⟩=some (.int .u8 (e i)))) aM ?_ (fun X=>?_)
  ·exact fun i hi=>(U.all.cell (p:=⟨b,o+i,none⟩) hb).trans (d.out i hi)
  refine az [[0,1]] ?_;refine eE 2 rfl (bl (by rfl) 5 _ rfl b (o+2) rfl _ (fun w h=>h 2 am) underlying5 rfl) ?_;refine az [[3,4]] ?_;refine eE 5 rfl (bl (by rfl) 5 _ rfl b (o+3) rfl _ (fun w h=>h 3 am) underlying5 rfl) ?_;refine az [[6,7,8]] ?_;refine eE 9 rfl (bl (by rfl) 5 _ rfl b (o+3) rfl _ (fun w h=>h 3 am) underlying5 rfl) ?_;refine az [[10,11,12,13]] ?_;refine eE 14 rfl (bl (by rfl) 5 _ rfl b (o+3) rfl _ (fun w h=>h 3 am) underlying5 rfl) ?_;refine az [[15,16,17,18,19]] ?_;refine eE 20 rfl (bl (by rfl) 5 _ rfl b (o+6) rfl _ (fun w h=>h 6 am) underlying5 rfl) ?_;refine az [[21,22,23]] ?_;refine eE 24 rfl (bl (by rfl) 5 _ rfl b (o+7) rfl _ (fun w h=>h 7 am) underlying5 rfl) ?_;refine az [[25,26,27]] ?_;refine aF 28 fun K j=>?_;refine Uy U ?_;clear U;intro w U;refine PK j (fun X=>?_) (by exact fun i hi=>(U.all.cell (p:=⟨b,o+i,none⟩) hb).trans (d.out i hi));refine UF ?_;dsimp only[Exit.then]
  apply_assumption
  go_wp2_with fail;refine cw results28 rfl rfl ⟨_,U.b ag,rfl⟩ underlying42 rfl aM ?_;refine⟨?_,U.all⟩;unfold fJ;rw[aB]
theorem qu{G:Prop}(h:G:=by
 refine WE Z7 fun X=>?_;refine aF 6 fun K Z7=>?_;rw[Z (by rfl)];refine bK U 47 42 _ rfl _ ((hP (fJ e)).toList) rfl rfl (.agg #[.int .u8 0,.int .u8 0,.int .u8 0,.int .u8 0,.int .i64 0,.int .i64 0,.int .i64 0]) 7 32 fi ii rfl (by decide) (by decide) ?_;clear U;intro di w U dO;exact pj):G:=h
theorem pj{G:Prop}(h:G:=by
 refine WE Z7 fun X=>?_;refine aF 7 fun K Z7=>?_;rw[Z (by rfl)];have dI:=U.size;refine eX U U3.out (fun j OV=>(iZ.out j OV).2) _ _ 47 rfl (.agg #[.int .u8 0,.int .u8 0,.int .u8 0,.int .u8 0,.int .i64 0,.int .i64 0,.int .i64 0]) 32 fi ii rfl (by decide) rfl ⟨di,0,none⟩ 1 1 ((hP (fJ e)).toList) rfl rfl (by decide) (U.news ag) rfl (by unfold maxLen;omega) (by omega) ?_;clear U;intro g' cW lL w U e8 lm;replace e8:=e8.imp id (D dI);clear dI;refine WE Z7 fun X=>?_;refine Xh 8 ?_;refine aF 9 fun K Z7=>?_;refine vY U (f:=v.UT) (m:=T) (j:=t) (u:=.slice (some ⟨g',0,none⟩) (U0 t+1) cW) (by omega) ?_;clear U;intro w U;refine WE Z7 fun X=>?_;refine UF ?_;go_wp2_with(first|(refine aq ?_)|(refine Ws U 151 ?_;clear U;intro kP w U j8)|(refine aT ?_;clear U;intro X8 w U T7));refine cw results64 rfl rfl ⟨_,U.b ag,rfl⟩ underlying32 rfl (by kernel_rfl) ?_;refine⟨_,?_,qT.out _ _ _ _ _ U (U.b (g:=v.L8) ag) (U.b (g:=g') cX) e8 lm Tw YJ⟩;show _=Ending.returned (.agg #[.int .i64 s.p.s,.int .i64 s.p.t,.int .i64 s.p.i,.int .i64 s.p.h,.slice (some ⟨v.U1,0,none⟩) 8 v.U6,.slice (some ⟨v.L8,0,none⟩) s.p.t.toNat v.VY,v.TK]);rw[YQ.out]):G:=h
theorem JZ(w0:World)(B:Nat)(v:VV)(s:h9)(e:Nat->Int)(d:a7 w0 B v s)(P:hV s)(H:e0 e)(Yq:B<=w0.heap.size)(F:e 0 %8<5):
 Calls prog 64 #[.agg (gy s.p v).toArray,sW e] w0 fun x w'=> ∃v',x= .returned (.agg (gy s.p v').toArray)/\a7 w' B v' (cU s e)/\Z1 (hE v s.p.t.toNat) w0 w':=by
 have Vg:=P.p.t;obtain⟨T,l⟩: ∃T,s.p.t.toNat=T:=⟨_,rfl⟩
 have Yj:s.p.t=(T:Int):=J;have C:=H 1;have Wx:=H 0;obtain⟨t,z⟩: ∃t:Nat,(e 1 %s.p.t).toNat=t:=⟨_,rfl⟩
 obtain⟨q,VX⟩: ∃q:Nat,(e 1 %8).toNat=q:=⟨_,rfl⟩
 have o:t<s.p.t.toNat:=by rw[<-z];have:=cA (e 1) (by omega:0<s.p.t);have:=b5 (e 1) (by omega:s.p.t≠0);omega
 have ZD:q<8:=J;have yN:(e 1).tmod (T:Int)=(t:Int):=by rw[al C.1,<-Yj,<-z];exact(Int.toNat_of_nonneg (b5 _ J)).symm
 have W:e 1 %8=(q:Int):=J;have VL:IntKind.i64.wrap (t:Int)=(t:Int):=by rw[IntKind.wrap_i64];omega
 have W8: ¬T=0:=J;have Wv: ∀(k:IntKind) (n:Int),(Value.int k n).oneCell'=true:=fun _ _=>rfl;have os: ∀A n c,(Value.slice A n c).oneCell'=true:=fun _ _ _=>rfl;have sw:v.TK.oneCell'=true:=by
  rcases d.pi.2 with⟨a,_⟩|⟨g,cap,cS,a,_⟩<;>(rw[a];rfl)
 have z8:bits .and .u8 (e 1) 7=(q:Int):=by rw[u8_and7 _ C];exact W
 have xC:bits .and .u8 (e 0) 7=e 0 %8:=u8_and7 _ Wx;have Qu:IntKind.i64.wrap (e 1)=e 1:=by rw[IntKind.wrap_i64];omega
 have t0:(t:Int)<(T:Int):=J;have t1:(0:Int)<=(t:Int):=J;have Zh:(q:Int)<8:=J;have q1:(0:Int)<=(q:Int):=J;obtain⟨U0,N⟩: ∃U0:Nat->Nat,Hid (∀j,(s.bj j).length=U0 j):=⟨fun j=>(s.bj j).length,I fun j=>rfl⟩
 have y:=d.pr t o;rw[N.out]at y;obtain⟨A,c,r⟩: ∃A c,v.UT t= .slice A (U0 t) c:=by
  rcases y.2 with⟨a,R⟩|⟨g,cap,cS,a,_⟩
  ·exact⟨none,0,by rw[a,R]⟩
  ·exact⟨_,_,a⟩
 have U3:=I (gx (B':=0) y fun _ _=>aL _);have iZ:=I (fun j (OV:(v.UT t).ownBlock=some j)=>And.intro (y.lt j OV).2 (show j≠v.L8 from fun a=>dW y d.Us am (by rw[<-a];exact OV)));have O:=d.Us;rw[l]at O o;have M:=I (show((List.range T).map v.UT++v.Ze)[t]? =some (.slice A (U0 t) c)from by rw[rF o,r]);have ZR:=I d;have cq:=I P;have Yl:=I H;rw[r]at U3 iZ;have Nt:=I r;have Br:=I z;have TA:=I VX;have qT:=I (show∀(L:List PL) (g cap:Nat) (rest:List Value) (w':World),Bx w0 (fun b=>b≠v.L8/\(Value.slice A (U0 t) c).ownBlock≠some b) w' none L->ah w' v.L8 47 ((List.range T).map (put v.UT t (.slice (some ⟨g,0,none⟩) (U0 t+1) cap))++v.Ze).toArray->ah w' g 42 ((ly (s.bj t)++(hP (fJ e)).toList)++rest).toArray->((Value.slice A (U0 t) c).ownBlock=some g\/w0.heap.size<=g)->(U0 t+1<=cap/\cap<=maxLen/\((ly (s.bj t)++(hP (fJ e)).toList)++rest).length=cap*7)->e 2<=11->U0 t<64->
  a7 w' B {v with UT:=put v.UT t (.slice (some ⟨g,0,none⟩) (U0 t+1) cap)} (cU s e)/\Z1 (hE v T) w0 w' from fun L g cap rest w' h1 Tw ZV Ya G XX V=>by
  have Zb:=show cU s e= {s with bj:=put s.bj t (s.bj t++ [fJ e])} by unfold cU;rw[Z F,z,Z ⟨XX,by rw[N.out];exact V⟩]
  rw[Zb];rw[<-r]at h1 Ya;rw[<-N.out t]at Tw G⊢;rw[<-l]at Tw o;rw[<-l];exact a7.KN d Yq o (c:=fJ e) h1.Wu Tw ZV Ya G)
 have xv:=I (show∀w',Below w0.heap.size w0 w'->¬(e 2<=11/\U0 t<64)->a7 w' B v (cU s e)/\Z1 (hE v T) w0 w' from fun w' h1 Tw=>by
  rw[show cU s e=s by unfold cU;rw[Z F,z,N.out,Y Tw]];exact⟨d.below h1,Z1.cg h1⟩)
 have Pp:=I O;have U:=Bx.g8 O;show Calls _ _ #[.agg #[.int .i64 s.p.s,.int .i64 s.p.t,.int .i64 s.p.i,.int .i64 s.p.h,.slice (some ⟨v.U1,0,none⟩) 8 v.U6,.slice (some ⟨v.L8,0,none⟩) s.p.t.toNat v.VY,v.TK],_] _ _;rw[l];have YQ:=I l;clear d P H y O r z VX Yj l Vg;go_enter func64,ntmps64;go_upto_region 2 with(first|(refine aq ?_)|(refine Ws U 151 ?_;clear U;intro kP w U j8)|(refine aT ?_;clear U;intro X8 w U T7))
 replace U:=U.drew;refine b0 ?_;intro X;refine az [[0,1,2,3,4,5,6,7,8,9,10,11,12,13,14,15,16,17]] ?_;dsimp only[Exit.then]
 apply_assumption
 have Tv:=U.cell (g:=v.L8) (i:=t) ag M.out;by_cases Tw:e 2<=11
 ·by_cases YJ:U0 t<64
  ·have fx:(U0 t:Int)<64:=by omega
   go_upto_region 5 with(first|(refine aq ?_)|(refine Ws U 151 ?_;clear U;intro kP w U j8)|(refine aT ?_;clear U;intro X8 w U T7))
   clear Tv;replace U:=U.drew;refine wp_region_held_drew (S:=(c0 [⟨kP,151,[.int .u8 (e 0),.int .u8 (e 1),.int .u8 (e 2),.int .u8 (e 3),.int .u8 (e 4),.int .u8 (e 5),.int .u8 (e 6),.int .u8 (e 7)]⟩])) aM ?_ (fun X=>?_)
   ·exact U.bG aN
   refine az [[0,1,2,4]] ?_;refine Zj [3,5] ?_;refine ea (fun K Z7=>?_) ?_
   ·rw[Z (by rfl)];refine bU U 47 _ rfl v.L8 t rfl ag (.slice A (U0 t) c) M.out underlying47 rfl ?_;refine WE Z7 fun X=>?_;refine aF 5 fun K Z7=>?_;go_simp
    (go_at_call 114;refine a6 U (BQ _ e Yl.out) ?_;clear U;intro Q U)
    go_wp2_with fail;exact qu
   refine ei (fun K Z7=>?_);go_simp
   (go_at_call 114;refine a6 U (BQ _ e Yl.out) ?_;clear U;intro Q U)
   go_wp2_with fail;refine WE Z7 fun X=>?_;refine Zj [3,6] ?_;refine ea (fun K Z7=>?_) ?_
   ·rw[Z (by rfl)];refine bU U 47 _ rfl v.L8 t rfl ag (.slice A (U0 t) c) M.out underlying47 rfl ?_;exact qu
   refine ei (fun K Z7=>?_);rw[Z (by rfl)];refine bK U 47 42 _ rfl _ ((hP (fJ e)).toList) rfl rfl (.agg #[.int .u8 0,.int .u8 0,.int .u8 0,.int .u8 0,.int .i64 0,.int .i64 0,.int .i64 0]) 7 32 fi ii rfl am am ?_;clear U;intro di w U dO;refine WE Z7 fun X=>?_;refine aF 3 fun K Z7=>?_;rw[Z (by rfl)];refine bU U 47 _ rfl v.L8 t rfl ag (.slice A (U0 t) c) M.out underlying47 rfl ?_;exact pj
  ·have fx: ¬(U0 t:Int)<64:=by omega
   exact oh
 ·go_wp2_with(first|(refine aq ?_)|(refine Ws U 151 ?_;clear U;intro kP w U j8)|(refine aT ?_;clear U;intro X8 w U T7));exact kQ
end Go.Proofs.YtcimojgkeoecfaaGreat
