import Derived.Test.YtcimojgkeoecfaaGreatXba
set_option linter.all false
set_option maxHeartbeats 16000000
set_option maxRecDepth 100000
namespace Go.Proofs.YtcimojgkeoecfaaGreat
open Go.RowKit Tryz
section
theorem og{G:Prop}(h:G:=by
 rw[aP,aP];exact gx abk fun b hb=>by
  rcases afj b hb with q|q
  ·exact(lt _ hi b q).1
  ·omega):G:=h
theorem oh{G:Prop}(h:G:=by
 go_wp2_with(first|(refine aq ?_)|(refine Ws U 151 ?_;clear U;intro kP w U j8)|(refine aT ?_;clear U;intro X8 w U aay));exact kQ):G:=h
theorem uF{G:Prop}(h:G:=by
 show _=Ending.returned (.agg #[.int .i64 s.p.s,.int .i64 s.p.t,.int .i64 s.p.i,.int .i64 s.p.h,.slice (some ⟨v.aca,0,none⟩) 8 v.acR,.slice (some ⟨v.aff,0,none⟩) s.p.t.toNat v.VY,v.afa]);rw[YQ.out]):G:=h
theorem kQ{G:Prop}(h:G:=by
 refine cw results64 rfl rfl ⟨_,U.b ag,rfl⟩ underlying32 rfl (by kernel_rfl) ?_;refine⟨v,?_,xv.out _ (U.ro Pp.out ag) (fun h=>by have:=h.1;have:=h.2;omega)⟩;exact uF):G:=h
theorem u8_and7(x:Int)(h:0<=x/\x<=255):bits .and .u8 x 7=x %8:=by
 obtain⟨n,rfl⟩:=bn h.1;rw[show(7:Int)=((7:Nat):Int)from rfl,(bits_nat .u8 8 am wraps_u8 n 7 J J).1,show(7:Nat)=2^3-1 from rfl,cD];rfl
structure h9 where
 p:afy
 eI:Nat->List jc
 bj:Nat->List dM
 cp:List Int
def cU(s:h9)(e:Nat->Int):h9:=
 if e 0 %8<5 then
  if e 2<=11/\(s.bj (e 1 %s.p.t).toNat).length<64 then {s with bj:=put s.bj (e 1 %s.p.t).toNat (s.bj (e 1 %s.p.t).toNat++ [fJ e])}else s
 else if e 0 %8=5 then
  if e 2<=4/\(s.eI (e 1 %8).toNat).length<8 then {s with eI:=put s.eI (e 1 %8).toNat (s.eI (e 1 %8).toNat++ [dV e])}else s
 else if s.cp.length<4096 then {s with cp:=s.cp++ [numOf e]}else s
def oi(b:Nat->Int):h9:=⟨⟨1+b 0 %8,1+b 1 %4,8*(b 2 %64),8*(b 3 %128)⟩,fun _=> [],fun _=> [],[]⟩
def eT(b:Nat->Int):Nat->h9
 |0=>oi b
 |k+1=>cU (eT b k) fun i=>b (4+8*k+i)
def fe(f:Nat->Int)(n:Nat):Nat->Int:=fun i=>if i<n then f i else 0
def j9(f:Nat->Int)(n:Nat):h9:=eT (fe f n) ((n-4)/8)
theorem FT(s:h9)(e:Nat->Int):(cU s e).p=s.p:=by
 unfold cU;(repeat' split)<;>rfl
theorem y7(b:Nat->Int)(k:Nat):(eT b k).p=(oi b).p:=by
 induction k with
 |zero=>rfl
 |succ k aes=>show(cU _ _).p=_;rw[FT,aes]
theorem FU{b:Nat->Int}(hb:e0 b):a9 (oi b).p:=by
 have YM:=hb 0;have h1:=hb 1;have aaV:=hb 2;have ZV:=hb 3;unfold oi;constructor<;>simp only<;>omega
structure hV(s:h9):Prop where
 p:a9 s.p
 f: ∀j,(s.eI j).length<=8/\∀o,o∈s.eI j->lv o
 c: ∀j,(s.bj j).length<=64/\∀c,c∈s.bj j->cG c
 k:s.cp.length<=4096/\∀x,x∈s.cp->0<=x/\x<=65535
theorem CV{e:Nat->Int}(V1:e0 e)(aaV:e 2<=11):cG (fJ e):=by
 have YM:=V1 2;have ZV:=V1 3;have Ya:=V1 4;have afY:=V1 5;have XX:=V1 6;have adH:=V1 7;have abi:0<=numOf e/\numOf e<=65535:=by unfold numOf;omega
 unfold fJ;constructor<;>simp only<;>(try split)<;>omega
theorem FV{e:Nat->Int}(V1:e0 e)(aaV:e 2<=4):lv (dV e):=by
 have YM:=V1 2;have Ya:=V1 4;have afY:=V1 5;unfold dV;rcases(by omega:e 2=0\/e 2=1\/e 2=2\/e 2=3\/e 2=4)with h|h|h|h|h<;>(constructor<;>simp only[h]<;>(first|omega|(refine⟨?_,?_,?_,?_⟩<;>simp<;>omega)))
theorem CW{s:h9}{e:Nat->Int}(h:hV s)(V1:e0 e):hV (cU s e):=by
 unfold cU;split
 ·split
  ·rename_i h1 aaV;refine⟨h.p,h.f,fun j=>?_,h.k⟩;show(put (α:=List dM) _ _ _ j).length<=64/\∀c,c∈put (α:=List dM) _ _ _ j->cG c;unfold put;split
   ·refine⟨by simp;omega,fun c XP=>?_⟩;rcases List.mem_append.1 XP with q|q
    ·exact(h.c _).2 c q
    ·rw[List.mem_singleton.1 q];exact CV V1 aaV.1
   ·exact h.c j
  ·exact h
 ·split
  ·split
   ·rename_i h1 aaV;refine⟨h.p,fun j=>?_,h.c,h.k⟩;show(put (α:=List jc) _ _ _ j).length<=8/\∀c,c∈put (α:=List jc) _ _ _ j->lv c;unfold put;split
    ·refine⟨by simp;omega,fun c XP=>?_⟩;rcases List.mem_append.1 XP with q|q
     ·exact(h.f _).2 c q
     ·rw[List.mem_singleton.1 q];exact FV V1 aaV.1
    ·exact h.f j
   ·exact h
  ·split
   ·refine⟨h.p,h.f,h.c,by simp;omega,fun x Wy=>?_⟩;rcases List.mem_append.1 Wy with q|q
    ·exact h.k.2 x q
    ·rw[List.mem_singleton.1 q];have Ya:=V1 4;have afY:=V1 5;unfold numOf;omega
   ·exact h
theorem su{b:Nat->Int}(hb:e0 b)(k:Nat):hV (eT b k):=by
 induction k with
 |zero=>exact⟨FU hb,fun _=>⟨by simp[eT,oi],fun o ZQ=>by cases ZQ⟩,fun _=>⟨by simp[eT,oi],fun o ZQ=>by cases ZQ⟩,by simp[eT,oi],fun o ZQ=>by cases ZQ⟩
 |succ k aes=>exact CW aes fun i=>hb _
def lx(l:List jc):List Value:=l.flatMap fun o=> [.int .u8 o.op,.int .i64 o.a,.int .i64 o.b]
def ly(l:List dM):List Value:=l.flatMap fun c=>(hP c).toList
theorem AV(l:List jc)(o:jc):lx (l++ [o])=lx l++ [.int .u8 o.op,.int .i64 o.a,.int .i64 o.b]:=by simp[lx]
theorem AW(l:List dM)(c:dM):ly (l++ [c])=ly l++(hP c).toList:=by simp[ly]
structure abM where
 aca:Nat
 aff:Nat
 acR:Nat
 VY:Nat
 aaI:List Value
 aa4:List Value
 af9:Nat->Value
 aag:Nat->Value
 afa:Value
abbrev gy(p:afy)(v:abM):List Value:= [.int .i64 p.s,.int .i64 p.t,.int .i64 p.i,.int .i64 p.h,.slice (some ⟨v.aca,0,none⟩) 8 v.acR,.slice (some ⟨v.aff,0,none⟩) p.t.toNat v.VY,v.afa]
structure a7(w:World)(B:Nat)(v:abM)(s:h9):Prop where
 afR:ah w v.aca 95 ((List.range 8).map v.af9++v.aaI).toArray
 aft:ah w v.aff 47 ((List.range s.p.t.toNat).map v.aag++v.aa4).toArray
 acR:8<=v.acR/\v.acR<=maxLen
 VY:s.p.t.toNat<=v.VY/\v.VY<=maxLen
 fr: ∀j,j<8->w.ownsRow B 100 3 (v.af9 j) (s.eI j).length (lx (s.eI j))
 pr: ∀j,j<s.p.t.toNat->w.ownsRow B 42 7 (v.aag j) (s.bj j).length (ly (s.bj j))
 pi:w.ownsRow B 3 1 v.afa s.cp.length (h8 s.cp)
 fd: ∀i j b,i<8->j<8->i≠j->(v.af9 i).ownBlock=some b->(v.af9 j).ownBlock≠some b
 aa8: ∀i j b,i<s.p.t.toNat->j<s.p.t.toNat->i≠j->(v.aag i).ownBlock=some b->(v.aag j).ownBlock≠some b
 ge:B<=v.aca/\B<=v.aff
structure hE(v:abM)(T b:Nat):Prop where
 aca:b≠v.aca
 aff:b≠v.aff
 af9: ∀j,j<8->(v.af9 j).ownBlock≠some b
 aag: ∀j,j<T->(v.aag j).ownBlock≠some b
 afa:v.afa.ownBlock≠some b
section
variable{w w':World}{B b:Nat}{v:abM}{s:h9}{e e':TypeId}{sz Sr n n':Nat}{x y:Value}{xs abA:List Value}
theorem gx{B':Nat}(h:w.ownsRow B e sz x n xs)(hb: ∀j,x.ownBlock=some j->B'<=j):w.ownsRow B' e sz x n xs:=by
 refine⟨h.1,?_⟩;rcases h.2 with h|⟨g,cap,cS,rfl,h1,aaV⟩
 ·exact .inl h
 ·exact .inr ⟨g,cap,cS,rfl,hb g rfl,aaV⟩
theorem rE(h:w.ownsRow B e sz x n xs)(hb:x.ownBlock=some b): ∃cs,ah w b e cs:=by
 rcases h.2 with⟨rfl,_⟩|⟨g,cap,cS,rfl,_,aaV,_⟩
 ·cases hb
 ·cases hb;exact⟨cS,aaV⟩
theorem dW{t:TypeId}{cs:Array Value}(h:w.ownsRow B e sz x n xs)(hb:ah w b t cs)(abi:e≠t):x.ownBlock≠some b:=fun abF=>by
 obtain⟨cs',aaV⟩:=rE h abF;exact ah.ne aaV hb abi rfl
theorem kR(h:w.ownsRow B e sz x n xs)(k:w.ownsRow B e' Sr y n' abA)(abi:e≠e')(Wy:x.ownBlock=some b):y.ownBlock≠some b:=fun hy=>by
 obtain⟨WJ,h1⟩:=rE h Wy;obtain⟨adr,aaV⟩:=rE k hy;exact ah.ne h1 aaV abi rfl
theorem eU{T:Nat->Prop}(h:w.ownsRow B e sz x n xs)(k:Z1 T w w')(aen: ∀b,x.ownBlock=some b->T b):w'.ownsRow B e sz x n xs:=
 fT h fun j aeD=>k.block j (h.lt j aeD).2 (aen j aeD)
section
variable(h:a7 w B v s)(aeN:B<=w.heap.size)
include h aeN
theorem a7.Pq{j:Nat}(aeD:j<s.p.t.toNat){u:Value}{l:List dM}(k:Z1 (fun b=>b≠v.aff/\(v.aag j).ownBlock≠some b) w w')(hb:ah w' v.aff 47 ((List.range s.p.t.toNat).map (put v.aag j u)++v.aa4).toArray)(abk:w'.ownsRow 0 42 7 u l.length (ly l))(afj: ∀b,u.ownBlock=some b->(v.aag j).ownBlock=some b\/w.heap.size<=b):
 a7 w' B {v with aag:=put v.aag j u} {s with bj:=put s.bj j l}:=by
 have I8:=h.aft;have lt:=fun i hi=>(h.pr i hi).lt;refine⟨(k.block _ h.afR.lt ⟨ah.ne h.afR I8 am,dW (h.pr j aeD) h.afR am⟩).trans h.afR,hb,h.acR,h.VY,fun i hi=>eU (h.fr i hi) k fun b hb=>⟨fun e=>dW (h.fr i hi) I8 am (by rw[<-e];exact hb),kR (h.fr i hi) (h.pr j aeD) am hb⟩,fun i hi=>?_,eU h.pi k fun b hb=>⟨fun e=>dW h.pi I8 am (by rw[<-e];exact hb),kR h.pi (h.pr j aeD) am hb⟩,h.fd,fun i i' b hi lF bo hb=>?_,h.ge⟩
 ·show w'.ownsRow B _ 7 (put v.aag j u i) (put s.bj j l i).length (ly (put s.bj j l i));by_cases c:i=j
  ·subst c;exact og
  ·rw[aw _ _ c,aw _ _ c];exact eU (h.pr i hi) k fun b hb=>⟨fun e=>dW (h.pr i hi) I8 am (by rw[<-e];exact hb),h.aa8 i j b hi aeD c hb⟩
 ·have be:(put v.aag j u i).ownBlock=some b:=hb;clear hb;show(put v.aag j u i').ownBlock≠some b;by_cases c:i=j
  ·subst c;rw[aP]at be;rw[aw _ _ (fun e=>bo e.symm)];rcases afj b be with q|q
   ·exact h.aa8 i i' b hi lF bo q
   ·intro e;have:=(lt _ lF b e).2;omega
  ·rw[aw _ _ c]at be;by_cases d:i'=j
   ·subst d;rw[aP];intro e;rcases afj b e with q|q
    ·exact h.aa8 i i' b hi lF bo be q
    ·have:=(lt _ hi b be).2;omega
   ·rw[aw _ _ d];exact h.aa8 i i' b hi lF bo be
theorem a7.Pr{j:Nat}(aeD:j<8){u:Value}{l:List jc}(k:Z1 (fun b=>b≠v.aca/\(v.af9 j).ownBlock≠some b) w w')(hb:ah w' v.aca 95 ((List.range 8).map (put v.af9 j u)++v.aaI).toArray)(abk:w'.ownsRow 0 100 3 u l.length (lx l))(afj: ∀b,u.ownBlock=some b->(v.af9 j).ownBlock=some b\/w.heap.size<=b):
 a7 w' B {v with af9:=put v.af9 j u} {s with eI:=put s.eI j l}:=by
 have CX:=h.afR;have lt:=fun i hi=>(h.fr i hi).lt;refine⟨hb,(k.block _ h.aft.lt ⟨ah.ne h.aft CX am,dW (h.fr j aeD) h.aft am⟩).trans h.aft,h.acR,h.VY,fun i hi=>?_,fun i hi=>eU (h.pr i hi) k fun b hb=>⟨fun e=>dW (h.pr i hi) CX am (by rw[<-e];exact hb),kR (h.pr i hi) (h.fr j aeD) am hb⟩,eU h.pi k fun b hb=>⟨fun e=>dW h.pi CX am (by rw[<-e];exact hb),kR h.pi (h.fr j aeD) am hb⟩,fun i i' b hi lF bo hb=>?_,h.aa8,h.ge⟩
 ·show w'.ownsRow B _ 3 (put v.af9 j u i) (put s.eI j l i).length (lx (put s.eI j l i));by_cases c:i=j
  ·subst c;exact og
  ·rw[aw _ _ c,aw _ _ c];exact eU (h.fr i hi) k fun b hb=>⟨fun e=>dW (h.fr i hi) CX am (by rw[<-e];exact hb),h.fd i j b hi aeD c hb⟩
 ·have be:(put v.af9 j u i).ownBlock=some b:=hb;clear hb;show(put v.af9 j u i').ownBlock≠some b;by_cases c:i=j
  ·subst c;rw[aP]at be;rw[aw _ _ (fun e=>bo e.symm)];rcases afj b be with q|q
   ·exact h.fd i i' b hi lF bo q
   ·intro e;have:=(lt _ lF b e).2;omega
  ·rw[aw _ _ c]at be;by_cases d:i'=j
   ·subst d;rw[aP];intro e;rcases afj b e with q|q
    ·exact h.fd i i' b hi lF bo be q
    ·have:=(lt _ hi b be).2;omega
   ·rw[aw _ _ d];exact h.fd i i' b hi lF bo be
theorem a7.Ps{u:Value}{l:List Int}(k:Z1 (fun b=>v.afa.ownBlock≠some b) w w')(abk:w'.ownsRow 0 3 1 u l.length (h8 l))(afj: ∀b,u.ownBlock=some b->v.afa.ownBlock=some b\/w.heap.size<=b):
 a7 w' B {v with afa:=u} {s with cp:=l}:=
 ⟨(k.block _ h.afR.lt (dW h.pi h.afR am)).trans h.afR,(k.block _ h.aft.lt (dW h.pi h.aft am)).trans h.aft,h.acR,h.VY,fun i hi=>eU (h.fr i hi) k fun b hb=>kR (h.fr i hi) h.pi am hb,fun i hi=>eU (h.pr i hi) k fun b hb=>kR (h.pr i hi) h.pi am hb,gx abk fun b hb=>by
   rcases afj b hb with q|q
   ·exact(h.pi.lt b q).1
   ·omega,h.fd,h.aa8,h.ge⟩
end
theorem a7.out{t:TypeId}{cs:Array Value}(h:a7 w B v s)(hb:ah w b t cs)(h1:t≠95)(aaV:t≠47)(ZV:t≠100)(Ya:t≠42)(afY:t≠3):hE v s.p.t.toNat b:=
 ⟨ah.ne hb h.afR h1,ah.ne hb h.aft aaV,fun j aeD=>dW (h.fr j aeD) hb ZV.symm,fun j aeD=>dW (h.pr j aeD) hb Ya.symm,dW h.pi hb afY.symm⟩
theorem a7.Pt(h:a7 w B v s)(hb:b<B):hE v s.p.t.toNat b:=
 ⟨by have:=h.ge.1;omega,by have:=h.ge.2;omega,fun j aeD e=>by have:=((h.fr j aeD).lt b e).1;omega,fun j aeD e=>by have:=((h.pr j aeD).lt b e).1;omega,fun e=>by have:=(h.pi.lt b e).1;omega⟩
theorem aah.CY{w0:World}{L:List abN}(h:aah w0 (fun _=>True) w none L)(YF:a7 w w0.heap.size v s)(k:Z1 (hE v s.p.t.toNat) w w')(acY: ∀x,x∈L->x.t≠95/\x.t≠47/\x.t≠100/\x.t≠42/\x.t≠3):aah w0 (fun _=>True) w' none L:=
 h.kept k fun b _ abi=>⟨fun x Wy e=>abi (by
  obtain⟨h1,aaV,ZV,Ya,afY⟩:=acY x Wy
  rw[<-e];exact YF.out (h.bC x Wy) h1 aaV ZV Ya afY),.inl (Nat.le_of_not_lt fun hb=>abi (YF.Pt hb)),fun a e=>by cases e⟩
section
variable(h:a7 w B v s)
include h
theorem a7.below(k:Below w.heap.size w w'):a7 w' B v s:=
 ⟨h.afR.below k h.afR.lt,h.aft.below k h.aft.lt,h.acR,h.VY,fun i hi=>fT (h.fr i hi) fun j aeD=>k.block j ((h.fr i hi).lt j aeD).2,fun i hi=>fT (h.pr i hi) fun j aeD=>k.block j ((h.pr i hi).lt j aeD).2,fT h.pi fun j aeD=>k.block j (h.pi.lt j aeD).2,h.fd,h.aa8,h.ge⟩
section
variable(Yq:B<=w.heap.size)
include Yq
theorem a7.KN{j:Nat}(aeD:j<s.p.t.toNat){g cap:Nat}{rest:List Value}{c:dM}(k:Z1 (fun b=>b≠v.aff/\(v.aag j).ownBlock≠some b) w w')(hb:ah w' v.aff 47 ((List.range s.p.t.toNat).map (put v.aag j (.slice (some ⟨g,0,none⟩) ((s.bj j).length+1) cap))++v.aa4).toArray)(abk:ah w' g 42 ((ly (s.bj j)++(hP c).toList)++rest).toArray)(afj:(v.aag j).ownBlock=some g\/w.heap.size<=g)
 (XP:(s.bj j).length+1<=cap/\cap<=maxLen/\((ly (s.bj j)++(hP c).toList)++rest).length=cap*7):
 a7 w' B {v with aag:=put v.aag j (.slice (some ⟨g,0,none⟩) ((s.bj j).length+1) cap)} {s with bj:=put s.bj j (s.bj j++ [c])}/\Z1 (hE v s.p.t.toNat) w w':=by
 have ab7: ∀b,(Value.slice (some ⟨g,0,none⟩) ((s.bj j).length+1) cap).ownBlock=some b->(v.aag j).ownBlock=some b\/w.heap.size<=b:=fun b hb=>by
  have e:g=b:=by simpa [Value.ownBlock]using hb
  rw[<-e];exact afj
 have YJ:(ly (s.bj j)++(hP c).toList).length=((s.bj j).length+1)*7:=by rw[ak,(h.pr j aeD).1];show _+7=_;omega
 refine⟨h.Pq Yq aeD k hb (by rw[AW,ak];exact jz abk YJ XP) ab7,k.mono fun b _ ZQ=>⟨ZQ.aff,ZQ.aag j aeD⟩⟩
theorem a7.KO{j:Nat}(aeD:j<8){g cap:Nat}{rest:List Value}{c:jc}(k:Z1 (fun b=>b≠v.aca/\(v.af9 j).ownBlock≠some b) w w')(hb:ah w' v.aca 95 ((List.range 8).map (put v.af9 j (.slice (some ⟨g,0,none⟩) ((s.eI j).length+1) cap))++v.aaI).toArray)(abk:ah w' g 100 ((lx (s.eI j)++ [Value.int .u8 c.op,Value.int .i64 c.a,Value.int .i64 c.b])++rest).toArray)(afj:(v.af9 j).ownBlock=some g\/w.heap.size<=g)
 (XP:(s.eI j).length+1<=cap/\cap<=maxLen/\((lx (s.eI j)++ [Value.int .u8 c.op,Value.int .i64 c.a,Value.int .i64 c.b])++rest).length=cap*3):
 a7 w' B {v with af9:=put v.af9 j (.slice (some ⟨g,0,none⟩) ((s.eI j).length+1) cap)} {s with eI:=put s.eI j (s.eI j++ [c])}/\Z1 (hE v s.p.t.toNat) w w':=by
 have ab7: ∀b,(Value.slice (some ⟨g,0,none⟩) ((s.eI j).length+1) cap).ownBlock=some b->(v.af9 j).ownBlock=some b\/w.heap.size<=b:=fun b hb=>by
  have e:g=b:=by simpa [Value.ownBlock]using hb
  rw[<-e];exact afj
 have YJ:(lx (s.eI j)++ [Value.int .u8 c.op,Value.int .i64 c.a,Value.int .i64 c.b]).length=((s.eI j).length+1)*3:=by rw[ak,(h.fr j aeD).1];show _+3=_;omega
 refine⟨h.Pr Yq aeD k hb (by rw[AV,ak];exact jz abk YJ XP) ab7,k.mono fun b _ ZQ=>⟨ZQ.aca,ZQ.af9 j aeD⟩⟩
theorem a7.KP{g cap:Nat}{rest:List Value}{c:Int}(k:Z1 (fun b=>True/\v.afa.ownBlock≠some b) w w')(abk:ah w' g 3 ((h8 s.cp++ [Value.int .i64 c])++rest).toArray)(afj:v.afa.ownBlock=some g\/w.heap.size<=g)
 (XP:s.cp.length+1<=cap/\cap<=maxLen/\((h8 s.cp++ [Value.int .i64 c])++rest).length=cap*1):
 a7 w' B {v with afa:=(.slice (some ⟨g,0,none⟩) (s.cp.length+1) cap)} {s with cp:=s.cp++ [c]}/\Z1 (hE v s.p.t.toNat) w w':=by
 have ab7: ∀b,(Value.slice (some ⟨g,0,none⟩) (s.cp.length+1) cap).ownBlock=some b->v.afa.ownBlock=some b\/w.heap.size<=b:=fun b hb=>by
  have e:g=b:=by simpa [Value.ownBlock]using hb
  rw[<-e];exact afj
 have YJ:(h8 s.cp++ [Value.int .i64 c]).length=(s.cp.length+1)*1:=by rw[ak,h.pi.1];show _+1=_;omega
 refine⟨h.Ps Yq (k.mono fun b _ YF=>⟨trivial,YF⟩) (by rw[show h8 (s.cp++ [c])=h8 s.cp++ [Value.int .i64 c]from by simp[h8],ak];exact jz abk YJ XP) ab7,k.mono fun b _ ZQ=>⟨trivial,ZQ.afa⟩⟩
end
end
theorem I9{f:Nat->Value}{n j:Nat}{u:Value}{r:List Value}(aeD:j<n):er ((List.range n).map f++r) j [u]=(List.range n).map (put f j u)++r:=by
 apply List.ext_getElem?;intro i;have YJ:((List.range n).map f).length=n:=aN;have fx:((List.range n).map (put f j u)).length=n:=aN;unfold er;rw[cJ J,List.drop_append_of_le_length (by simp;omega)];by_cases h1:i<j
 ·rw[aJ,aA (by simp;omega),aA J,List.getElem?_take,Z h1,a3,a3,a1 J,bt,bt,aw _ _ J]
 ·by_cases aaV:i=j
  ·subst aaV;have e:((List.range n).map (put f i u)++r)[i]? =some u:=by rw[aA J,a3,a1 aeD,bt,aP]
   rw[e,aJ,ay (by simp;omega)];simp[Nat.min_eq_left (Nat.le_of_lt aeD)]
  ·rw[aJ,ay (by simp;omega)];have e:((List.range n).map f).take j=((List.range n).map f).take j:=rfl;rw[List.length_take,YJ,Nat.min_eq_left (Nat.le_of_lt aeD),ay (by simp;omega)];by_cases ZV:i<n
   ·rw[aA (by simp;omega),aA J,List.getElem?_drop,a3,a3,a1 (by simp;omega),a1 ZV,bt,bt,aw _ _ aaV];simp only[aI,bR];rw[show j+(0+1)+(i-j-(0+1))=i from J]
   ·rw[ay (by simp;omega),ay J,fx];simp only[aI,bR,List.length_drop,YJ];rw[show i-j-(0+1)-(n-(j+(0+1)))=i-n from J]
theorem rF{f:Nat->Value}{n j:Nat}{r:List Value}(aeD:j<n):((List.range n).map f++r)[j]? =some (f j):=by
 rw[aA (by simp;exact aeD),a3,a1 aeD,bt]
variable{b4:World}{S:Nat->Prop}{L L':List abN}{X9:Program}{Wv:Oper}{a:Act}{K:Act->World->Prop}{Q:Exit->Act->World->Prop}{ops:Array Oper}
theorem afA(h:aah b4 S w none L){f:Nat->Value}{m j g:Nat}{r:List Value}{u:Value}{t:TypeId}(aeD:j<m)(Z7: ∀w',aah b4 S w' none L'->K (a.put Wv.dst undef) w'){Yn:TypeId}{x y:Operand}
 (afl:Region.wanted Wv (yielded ops a.tmps)=true:=by rfl)(ZQ:Wv.op= .store Yn x y:=by exact rfl)(Wy:a.eval x= .pointer (some ⟨g,j,none⟩):=by exact rfl)(hy:dt a y=some u:=by exact rfl)(hv:u.cells= [u].toArray:=by exact rfl)
 (XJ:aco L g t ((List.range m).map f++r) ((List.range m).map (put f j u)++r) L':=by exact cf)(hi:(X9.info? Yn).map (·.size)=some 1:=by kernel_rfl)(h1: [u].all (·.oneCell')=true:=by exact rfl):
 if Region.wanted Wv (yielded ops a.tmps)=true then Oper.wp X9 Wv a w K Q else K (a.put Wv.dst undef) w:=by
 rw[Z afl];exact ev h Yn x y ZQ g j u [u] Wy hy hv (by rw[I9 aeD];exact XJ) (by simp;omega) hi h1 Z7
end
end
section
def bX(s:h9):List (List jc):=(List.range 8).map s.eI
theorem gd(s:h9):(bX s).length=8:=by simp[bX]
theorem kT{s:h9}{i:Nat}{l:List jc}(h:(bX s)[i]? =some l):i<8/\l=s.eI i:=by
 unfold bX at h;rw[a3]at h;rcases Nat.lt_or_ge i 8 with q|q
 ·rw[a1 q]at h;exact⟨q,by simpa using h.symm⟩
 ·rw[aV (by simpa using q)]at h;cases h
theorem wA{α:Type}(sz:Nat)(aeN:0<sz)(g:α->List Value)(afj: ∀a,(g a).length=sz)(l:List α):bx l.length sz (fun i=>(l[i]?.map g).getD [])=l.flatMap g:=by
 have f0: ∀G:Nat->List Value,bx 0 sz G= []:=fun G=>by unfold bx;simp
 induction l with
 |nil=>exact f0 _
 |cons a l aes=>
  have aal:bx 1 sz (fun _=>g a)=g a:=by
   have:=jM (n:=0) (F:=fun _=>g a) aeN (afj a);rw[this,f0];rfl
  have h:=ui (m:=1) (n:=l.length) (F:=fun _=>g a) (G:=fun i=>(l[i]?.map g).getD []) (H:=fun i=>((a::l)[i]?.map g).getD []) aeN (fun i hi=>by rw[show i=0 from J];rfl) (fun i hi=>by rw[Nat.add_comm];rfl) (fun i hi=>by simp[hi,afj]);rw[aal,aes]at h;rw[List.flatMap_cons,aI,Nat.add_comm];exact h.symm
theorem AY(l:List dM):ly l=bx l.length 7 (yZ l):=(wA 7 am (fun c=>(hP c).toList) (fun _=>rfl) l).symm
theorem AZ(l:List jc):lx l=bx l.length 3 (jQ l):=by
 rw[<-qF (F:=fun i=>(l[i]?.map fun o=> [Value.int .u8 o.op,.int .i64 o.a,.int .i64 o.b]).getD []) am fun i hi=>?_]
 ·exact(wA 3 am (fun o=> [Value.int .u8 o.op,.int .i64 o.a,.int .i64 o.b]) (fun _=>rfl) l).symm
 ·unfold jQ;rw[an hi];rfl
variable{w:World}{B:Nat}{v:abM}{s:h9}
theorem tz{g n c:Nat}{e:TypeId}{f:Nat->Value}{r:List Value}(hb:ah w g e ((List.range n).map f++r).toArray)(afj:B<=g)(XP:n<=c/\c<=maxLen):acr w (fun b=>B<=b) (.slice (some ⟨g,0,none⟩) n c) n 1 fun i=> [f i]:=
 ⟨_,c,rfl,XP.1,XP.2,fun _=>⟨g,0,rfl,afj,hb.lt,fun i j u hi hu=>by
   have aeD:j=0:=by
    rcases j with _|j
    ·rfl
    ·simp at hu
   subst aeD;have hu:f i=u:=by simpa using hu
   rw[show 0+(i*1+0)=i from J,hb.cell,aE,rF hi,hu]⟩⟩
theorem a7.eF(h:a7 w B v s):eF w (fun b=>B<=b) (.slice (some ⟨v.aca,0,none⟩) 8 v.acR) (bX s) v.af9:=
 ⟨by rw[gd];exact tz h.afR h.ge.1 h.acR,fun i l YJ=>by
   obtain⟨hi,rfl⟩:=kT YJ
   have:=h.fr i hi
   rw[AZ]at this
   exact acr.own this fun j aeD=>(pQ _ _ j aeD).1⟩
theorem a7.vO(h:a7 w B v s){i:Nat}(hi:i<s.p.t.toNat):vO w (fun b=>B<=b) (v.aag i) (s.bj i):=by
 have:=h.pr i hi;rw[AY]at this;exact acr.own this fun j aeD=>(wy _ j aeD).1
theorem a7.cF(h:a7 w B v s):cF w (fun b=>B<=b) v.afa s.cp:=by
 have:=h.pi;rw[<-uB]at this;exact acr.own this fun j aeD=>(gp _ _ j aeD).1
theorem wB(w0:World)(B n:Nat)(v:abM)(s:h9)(Yg:a7 w0 B v s)(ok:hV s)(abi:8*(n:Int)=64*s.p.s+s.p.i+s.p.h):
 Calls prog 31 #[.agg (gy s.p v).toArray] w0 fun e w'=> ∃W:WB,e= .returned (.tuple #[.pointer (some ⟨W.aeh,0,none⟩),.int .i64 0])/\df w' W s.p (bX s) n (l2 s.p s.bj)/\Below w0.heap.size w0 w'/\∀b,afi W s.p.t.toNat b\/W.Yi b->w0.heap.size<=b:=by
 obtain⟨T,aen⟩: ∃T,s.p.t.toNat=T:=⟨_,rfl⟩
 have mY: ∀w',Below w0.heap.size w0 w'->Calls prog 65 #[ej s.p,.slice (some ⟨v.aca,0,none⟩) 8 v.acR,.slice (some ⟨v.aff,0,none⟩) T v.VY] w' fun e du=> ∃W:WB,e= .returned (.tuple #[.pointer (some ⟨W.aeh,0,none⟩),.int .i64 0])/\df du W s.p (bX s) n (l2 s.p s.bj)/\Below w'.heap.size w' du/\∀b,afi W s.p.t.toNat b\/W.Yi b->w'.heap.size<=b:=fun w' hb=>by
  rw[<-aen];have h:=Yg.below hb;exact y8 w' s.p (bX s) n s.bj (fun b=>B<=b) _ _ v.af9 v.aag ok.p abi h.eF (by rw[gd];exact ai _) (fun l YJ=>by
   obtain⟨i,hi⟩:=bZ YJ;obtain⟨_,rfl⟩:=kT hi;exact ok.f i) (tz h.aft h.ge.2 h.VY) fun i hi=>⟨h.vO hi,(ok.c i).1⟩
 have ZG:=I mY;have Wv: ∀(k:IntKind) (n:Int),(Value.int k n).oneCell'=true:=fun _ _=>rfl;have os: ∀A n c,(Value.slice A n c).oneCell'=true:=fun _ _ _=>rfl;have sw:v.afa.oneCell'=true:=by
  rcases Yg.pi.2 with⟨abF,_⟩|⟨g,cap,cS,abF,_⟩<;>(rw[abF];rfl)
 have U:=aah.a0 w0;show Calls _ _ #[.agg #[.int .i64 s.p.s,.int .i64 s.p.t,.int .i64 s.p.i,.int .i64 s.p.h,.slice (some ⟨v.aca,0,none⟩) 8 v.acR,.slice (some ⟨v.aff,0,none⟩) s.p.t.toNat v.VY,v.afa]] _ _;rw[aen];have YQ:=I aen;clear Yg ok abi mY aen;go_enter func31,ntmps31;go_wp2_with(first|(go_at_call 65;refine Calls.mono (ZG.out _ U.all) ?_;rintro e aaM ⟨W,rfl,ae9,N,af7⟩;have aeN:=U.size;replace U:=U.below N;clear N)|(refine aq ?_)|(refine aT ?_;clear U;intro X8 w U aay));go_ret2;exact⟨W,rfl,ae9,U.all,by rw[<-YQ.out];exact fun b hb=>D aeN (af7 b hb)⟩
end
theorem GC(w0:World)(S:Nat->Prop)(p:afy)(ap WC n:Nat)(V:Nat->Int)(aff rg:Nat)(a4 aaY:Int)(fr:List Ext)(r:aax)(x:Yr)(Xg:ar w0 ap WC n V)(afj:cY w0 aff rg a4 aaY fr)(abk:aW w0 S r x)(bE:dx r)(hS: ∀b,b<w0.heap.size->S b->b≠WC/\b≠aff/\b≠rg)(dK:ap≠aff/\ap≠rg/\WC≠aff/\WC≠rg)(hd:r.fin=false)(a5:r.Xj=1)(aeJ:a9 p)(abi:8*p.s<=n)(nb:r.call.op≠3)(dv:1<=r.call.a/\r.call.a<=8192)(ft: ∀s:Nat,s<p.s->okW (V (8*s)))(s:Nat)(AU:s<p.s)(uZ:(Wi V s).st=0)(dU: ∀j:Nat,j<s->(Wi V j).st≠0)(m:Int)(hm:(r.call.a+7)/8*8=m)(cV:fr.length<=65536)(Wy: ∀x,x∈fr->0<=x.a/\x.a<=65536/\x.z<=65536)(fg:hU fr m=none):
 Calls prog 185 #[ej p,.pointer (some ⟨ap,0,none⟩),.pointer (some ⟨aff,0,none⟩),.agg (aY r x)] w0 fun e w'=> ∃x' aO,e= .returned (.tuple #[.agg (aY (tell r 14 0) x'),.int .i64 0])/\ar w' ap WC n V/\cY w' aff aO a4 aaY fr/\(aO=rg\/w0.heap.size<=aO)/\aW w' (fun b=>(S b\/w0.heap.size<=b)/\b≠WC/\b≠aff/\b≠aO) (tell r 14 0) x'/\Z1 (fun b=>b≠WC/\b≠aff/\b≠rg) w0 w':=by
 obtain⟨W9,adX,aeQ,acN,acG,aeb,af3,ZM,rfl⟩:=eW abk;have U:=aah.a0 w0;have Zn:=I Xg;have aaq:=I afj;have cH:=I afj.lt;have aby:=I abk;have fE:=I a5;have ach:=I hd;have fb:=aeJ.s;replace dK:=I dK;have aa1:(r.Xj !=1)=false:=by simp[a5]
 have hop:(r.call.op==3)=false:=by simpa using nb
 have aey:=I (show 8*((r.call.a+7)/8)=m by omega);have E3:8<=m/\m<=65536/\m %8=0:=J;have VN:=I Wy;have WS:=I cV;have GD:=I (show(e4 fr m).1=0 by unfold e4;rw[fg]);have GF:=I (show(e4 fr m).2.1=false by unfold e4;rw[fg]);have GG:=I (show(e4 fr m).2.2=fr by unfold e4;rw[fg]);clear hm Wy cV fg;clear Xg afj abk a5 hd nb;go_enter func185,ntmps185;go_upto_region 5 with(first|(refine g1 ach ?_)|(refine aq ?_)|(refine aT ?_;clear U;intro X8 w U aay))
 obtain⟨abK,rO,U⟩: ∃abK,abK=_/\aah w0 _ _ none abK:=⟨_,rfl,U⟩
 have pY:=I rO;rw[rO]at U;go_wp2_with(first|(refine aq ?_)|(refine aT ?_;clear U;intro X8 w U aay));rw[<-rO]at U;clear rO;have eB:=I U;clear U;go_loopw [42] (fun i wr=> ∃k:Nat,k<=s/\i= .int .i64 k/\aah w0 (fun _=>True) wr none abK) (fun i _=>s-(intOf i).toNat)
 case atStart=>exact⟨0,J,rfl,eB.out⟩
 case round=>
  obtain⟨k,ae3,rfl,U⟩:=hrel;clear eB;rw[pY.out]at U;by_cases bV:k<s
  ·have bW:(k:Int)<p.s:=by omega
   exact k2
  ·obtain rfl:k=s:=by omega
   have bW:(k:Int)<p.s:=J;have iF:(0:Int)<=(k:Int):=J;obtain⟨⟨st,Xf,YX,afB⟩,VG⟩: ∃c,Wi V k=c:=⟨_,rfl⟩
   obtain rfl:st=0:=by have:=uZ;rw[VG]at this;exact this
   have o0:=(ft k bW).ok;rw[show up (V (8*k))=Wi V k from rfl,VG]at o0;have Js:=I (show hZ ⟨1,0,-1,afB⟩from⟨o0.afB,aN,aN,aN⟩);obtain rfl:Xf=0:=o0.Xf.2 aN;obtain rfl:YX= -1:=o0.YX.2.2 aN;have Gy:=I (ft k bW);have Dz:=I (show Wi V (Int.toNat (k:Int))=_ from VG);have VI:((0:Int)!=0)=false:=rfl;clear o0 uZ;go_wp2_with(first|(go_at_call 154;refine a6 U (jF _ p ap WC n V _ (U.jZ Zn.out) aeJ J abi Gy.out) ?_;clear U;intro aaM U;rw[Dz.out])|(go_at_call 264;refine Calls.mono (tv _ _ J J) ?_;rintro e aaM ⟨rfl,rfl⟩;rw[aey.out])|(go_at_call 265;refine Calls.mono (uw _ aff rg a4 aaY m fr E3 VN.out WS.out (aaq.out.Wu (U.all.block _ cH.out.1) (U.all.block _ cH.out.2))) ?_;rintro e aaM ⟨rfl,dP,aX⟩;rw[GD.out,GF.out];rw[GG.out]at dP;obtain⟨aaH,Zd,adQ⟩:=U.ground Zn.out cH.out dK.out aX (.inl rfl);have gw:=I dP;have oc:=I (And.intro Zd adQ);clear U dP aX Zd adQ;have U:=aaH.base)|(go_at_call 184;refine Calls.mono (hg _ _ r ⟨.slice W9 r.chain.length adX,.slice aeQ r.list.length acN,.slice acG r.said.length aeb,.slice af3 r.aC.said.length ZM⟩ _ _ ((aby.out.mono (S':=fun b=>(S b\/w0.heap.size<=b)/\b≠WC/\b≠aff/\b≠rg) (fun b hb h=>⟨.inl h,hS b hb h⟩)).Wu ((aaH.back U).Wu.mono fun b _ h=>h.2)) bE) ?_;rintro e aaM ⟨v',rfl,bD,N⟩;obtain⟨aeU,aaP,rfl,-,-,-⟩:=id bD;have hv:=U.eh bD;clear bD;have fu:=U.below N;clear U N;have U:=fu.base)|(refine aq ?_)|(refine aT ?_;clear U;intro X8 w U aay));refine aZ results185 rfl rfl ⟨_,U.b ag,rfl⟩ underlying198 rfl aM ?_;have kj:=fu.back U;have Yq:=aaH.back kj;have adS:=(aby.out.mono (S':=fun b=>(S b\/w0.heap.size<=b)/\b≠WC/\b≠aff/\b≠rg) (fun b hb h=>⟨.inl h,hS b hb h⟩)).Wu (Yq.Wu.mono fun b _ h=>h.2);have qO:=(U.carry hv fun b _ h=>h.2).mono (S':=fun b=>(S b\/w0.heap.size<=b)/\b≠WC/\b≠aff/\b≠rg) fun b _ h=>⟨.inr (D aaH.size h.1),by have:=ar.c9 Zn.out;have:=aaH.size;have:=h.1;omega,by have:=cH.out;have:=aaH.size;have:=h.1;omega,by have:=cH.out;have:=aaH.size;have:=h.1;omega⟩
   exact oY
theorem GH(w0:World)(S:Nat->Prop)(p:afy)(ap WC n:Nat)(V:Nat->Int)(aff rg:Nat)(a4 aaY:Int)(fr:List Ext)(r:aax)(x:Yr)(Xg:ar w0 ap WC n V)(afj:cY w0 aff rg a4 aaY fr)(abk:aW w0 S r x)(bE:dx r)(hS: ∀b,b<w0.heap.size->S b->b≠WC/\b≠aff/\b≠rg)(dK:ap≠aff/\ap≠rg/\WC≠aff/\WC≠rg)(hd:r.fin=false)(a5:r.Xj=1)(aeJ:a9 p)(abi:8*p.s<=n)(nb:r.call.op≠3)(dv:1<=r.call.a/\r.call.a<=8192)(ft: ∀s:Nat,s<p.s->okW (V (8*s)))(s:Nat)(AU:s<p.s)(uZ:(Wi V s).st=0)(dU: ∀j:Nat,j<s->(Wi V j).st≠0)(m:Int)(hm:(r.call.a+7)/8*8=m)(cV:fr.length<=65536)(Wy: ∀x,x∈fr->0<=x.a/\x.a<=65536/\x.z<=65536)(X0:Int)(w5:List Ext)(fg:hU fr m=some (X0,w5))(LK:0<=X0/\X0<=65536):
 Calls prog 185 #[ej p,.pointer (some ⟨ap,0,none⟩),.pointer (some ⟨aff,0,none⟩),.agg (aY r x)] w0 fun e w'=> ∃x' aO,e= .returned (.tuple #[.agg (aY (tell r 0 s) x'),.int .i64 0])/\ar w' ap WC n (upd (upd (upd (upd (upd V (8*s) (afa ⟨1,0,-1,(Wi V s).afB⟩)) (8*s+1) X0) (8*s+2) m) (8*s+3) 0) (8*s+4) 0)/\cY w' aff aO a4 aaY w5/\(aO=rg\/w0.heap.size<=aO)/\aW w' (fun b=>(S b\/w0.heap.size<=b)/\b≠WC/\b≠aff/\b≠aO) (tell r 0 s) x'/\Z1 (fun b=>b≠WC/\b≠aff/\b≠rg) w0 w':=by
 obtain⟨W9,adX,aeQ,acN,acG,aeb,af3,ZM,rfl⟩:=eW abk;have U:=aah.a0 w0;have Zn:=I Xg;have aaq:=I afj;have cH:=I afj.lt;have aby:=I abk;have fE:=I a5;have ach:=I hd;have fb:=aeJ.s;replace dK:=I dK;have aa1:(r.Xj !=1)=false:=by simp[a5]
 have hop:(r.call.op==3)=false:=by simpa using nb
 have aey:=I (show 8*((r.call.a+7)/8)=m by omega);have E3:8<=m/\m<=65536/\m %8=0:=J;have VN:=I Wy;have WS:=I cV;have GD:=I (show(e4 fr m).1=X0 by unfold e4;rw[fg]);have GF:=I (show(e4 fr m).2.1=true by unfold e4;rw[fg]);have GG:=I (show(e4 fr m).2.2=w5 by unfold e4;rw[fg]);clear hm Wy cV fg;clear Xg afj abk a5 hd nb;go_enter func185,ntmps185;go_upto_region 5 with(first|(refine g1 ach ?_)|(refine aq ?_)|(refine aT ?_;clear U;intro X8 w U aay))
 obtain⟨abK,rO,U⟩: ∃abK,abK=_/\aah w0 _ _ none abK:=⟨_,rfl,U⟩
 have pY:=I rO;rw[rO]at U;go_wp2_with(first|(refine aq ?_)|(refine aT ?_;clear U;intro X8 w U aay));rw[<-rO]at U;clear rO;have eB:=I U;clear U;go_loopw [42] (fun i wr=> ∃k:Nat,k<=s/\i= .int .i64 k/\aah w0 (fun _=>True) wr none abK) (fun i _=>s-(intOf i).toNat)
 case atStart=>exact⟨0,J,rfl,eB.out⟩
 case round=>
  obtain⟨k,ae3,rfl,U⟩:=hrel;clear eB;rw[pY.out]at U;by_cases bV:k<s
  ·have bW:(k:Int)<p.s:=by omega
   exact k2
  ·obtain rfl:k=s:=by omega
   have bW:(k:Int)<p.s:=J;have iF:(0:Int)<=(k:Int):=J;obtain⟨⟨st,Xf,YX,afB⟩,VG⟩: ∃c,Wi V k=c:=⟨_,rfl⟩
   obtain rfl:st=0:=by have:=uZ;rw[VG]at this;exact this
   have o0:=(ft k bW).ok;rw[show up (V (8*k))=Wi V k from rfl,VG]at o0;have Js:=I (show hZ ⟨1,0,-1,afB⟩from⟨o0.afB,aN,aN,aN⟩);obtain rfl:Xf=0:=o0.Xf.2 aN;obtain rfl:YX= -1:=o0.YX.2.2 aN;have Gy:=I (ft k bW);have Dz:=I (show Wi V (Int.toNat (k:Int))=_ from VG);have VI:((0:Int)!=0)=false:=rfl;have aeC:IntKind.u64.wrap X0=X0:=by rw[IntKind.wrap_u64];omega
   have Y3:IntKind.u64.wrap m=m:=by rw[IntKind.wrap_u64];omega
   clear o0 uZ;go_wp2_with(first|(go_at_call 154;refine a6 U (jF _ p ap WC n V _ (U.jZ Zn.out) aeJ J abi Gy.out) ?_;clear U;intro aaM U;rw[Dz.out])|(go_at_call 264;refine Calls.mono (tv _ _ J J) ?_;rintro e aaM ⟨rfl,rfl⟩;rw[aey.out])|(go_at_call 265;refine Calls.mono (uw _ aff rg a4 aaY m fr E3 VN.out WS.out (aaq.out.Wu (U.all.block _ cH.out.1) (U.all.block _ cH.out.2))) ?_;rintro e aaM ⟨rfl,dP,aX⟩;rw[GD.out,GF.out];rw[GG.out]at dP;obtain⟨aaH,Zd,adQ⟩:=U.ground Zn.out cH.out dK.out aX (.inl rfl);have gw:=I dP;have oc:=I (And.intro Zd adQ);clear U dP aX Zd adQ;have U:=aaH.base)|(go_at_call 200;refine Calls.mono (AJ _ p ap WC n _ k ⟨1,0,-1,afB⟩ U.bB aeJ J abi Js.out) ?_;rintro e aaM ⟨rfl,aH,N⟩;replace U:=U.arena aH N;clear aH N)|(go_at_call 201;refine Calls.mono (tw _ p ap WC n _ k _ _ U.bB aeJ J J abi (by unfold aR;omega)) ?_;rintro e aaM ⟨rfl,aH,N⟩;replace U:=U.arena aH N;clear aH N)|(go_at_call 184;refine Calls.mono (hg _ _ r ⟨.slice W9 r.chain.length adX,.slice aeQ r.list.length acN,.slice acG r.said.length aeb,.slice af3 r.aC.said.length ZM⟩ _ _ ((aby.out.mono (S':=fun b=>(S b\/w0.heap.size<=b)/\b≠WC/\b≠aff/\b≠rg) (fun b hb h=>⟨.inl h,hS b hb h⟩)).Wu ((aaH.back U).Wu.mono fun b _ h=>h.2)) bE) ?_;rintro e aaM ⟨v',rfl,bD,N⟩;obtain⟨aeU,aaP,rfl,-,-,-⟩:=id bD;have hv:=U.eh bD;clear bD;have fu:=U.below N;clear U N;have U:=fu.base)|(refine aq ?_)|(refine aT ?_;clear U;intro X8 w U aay));refine aZ results185 rfl rfl ⟨_,U.b ag,rfl⟩ underlying198 rfl aM ?_;have kj:=fu.back U;have Yq:=aaH.back kj;have adS:=(aby.out.mono (S':=fun b=>(S b\/w0.heap.size<=b)/\b≠WC/\b≠aff/\b≠rg) (fun b hb h=>⟨.inl h,hS b hb h⟩)).Wu (Yq.Wu.mono fun b _ h=>h.2);have qO:=(U.carry hv fun b _ h=>h.2).mono (S':=fun b=>(S b\/w0.heap.size<=b)/\b≠WC/\b≠aff/\b≠rg) fun b _ h=>⟨.inr (D aaH.size h.1),by have:=ar.c9 Zn.out;have:=aaH.size;have:=h.1;omega,by have:=cH.out;have:=aaH.size;have:=h.1;omega,by have:=cH.out;have:=aaH.size;have:=h.1;omega⟩
   rw[show Wi V k=_ from Dz.out];exact oY
def jV(V:Nat->Int)(fr:List Ext)(s:Nat):(Nat->Int)×List Ext×Int:=
 if(Wi V s).st=0 then(V,fr,11)else if(Wi V s).st=1 then(put (put (put V (8*s) (afa ⟨0,0,-1,((Wi V s).afB+1)%16777216⟩)) (8*s+1) 0) (8*s+2) 0,give fr (bs V s) (agh V s),0)else(V,fr,12)
theorem aah.Jt{w0 w aaM:World}{L:List abN}{ap WC n aff rg aO:Nat}{V V2:Nat->Int}(h:aah w0 (fun _=>True) w none L)(aH:ar aaM ap WC n V2)(Xg:ar w0 ap WC n V)(bV:aff<w0.heap.size/\rg<w0.heap.size)(dK:ap≠aff/\ap≠rg/\WC≠aff/\WC≠rg)
 (k:Z1 (fun b=>b≠WC/\b≠aff/\b≠rg) w aaM)(cT:aO=rg\/w.heap.size<=aO):
 aah w0 (fun b=>b≠WC/\b≠aff/\b≠rg) aaM (some ⟨ap,WC,n,V2⟩) L/\bq (some ⟨ap,WC,n,V2⟩) L aff/\bq (some ⟨ap,WC,n,V2⟩) L aO:=by
 have YJ:=ar.c9 Xg;have aaV:=h.size;obtain⟨aeB,Wa,abh,agc⟩:=dK;have hY: ∀x,x∈L->w0.heap.size<=x.g:=fun x Wy=>by
  rcases h.fr x Wy with c|c
  ·exact c
  ·exact absurd trivial c
 refine⟨⟨fun x Wy=>?_,h.aed,fun x Wy=>.inl (hY x Wy),⟨k.os.trans h.Wu.os,k.tape.trans h.Wu.tape,k.output.trans h.Wu.output,D h.Wu.size k.size,fun b hb YF=>?_⟩,aH,fun a e=>?_⟩,⟨fun x Wy e=>?_,fun a e abF=>?_⟩,⟨fun x Wy e=>?_,fun a e abF=>?_⟩⟩
 ·have:=hY x Wy;exact(k.block x.g (h.bC x Wy).lt ⟨J,J,J⟩).trans (h.bC x Wy)
 ·exact(k.block b (aj hb h.Wu.size) YF).trans (h.Wu.block b hb trivial)
 ·cases e;exact⟨fun x Wy e=>by have:=hY x Wy;simp only at e;omega,fun x Wy e=>by have:=hY x Wy;simp only at e;omega,.inr fun YF=>YF.1 rfl⟩
 ·have:=hY x Wy;omega
 ·cases e;exact abh abF.symm
 ·have ZV:=hY x Wy;rcases cT with rfl|cT
  ·omega
  ·have:=(h.bC x Wy).lt;omega
 ·cases e;rcases cT with rfl|cT
  ·exact agc abF.symm
  ·simp only at abF;omega
theorem GI(w0:World)(S:Nat->Prop)(p:afy)(ap WC n:Nat)(V:Nat->Int)(aff rg:Nat)(a4 aaY:Int)(fr:List Ext)(r:aax)(x:Yr)(Xg:ar w0 ap WC n V)(afj:cY w0 aff rg a4 aaY fr)(abk:aW w0 S r x)(bE:dx r)(hS: ∀b,b<w0.heap.size->S b->b≠WC/\b≠aff/\b≠rg)(dK:ap≠aff/\ap≠rg/\WC≠aff/\WC≠rg)(hd:r.fin=false)(a5:r.Xj=1)(aeJ:a9 p)(abi:8*p.s<=n)(nb:r.call.op=3)(afG: ∀aaM:World,ar aaM ap WC n V->cY aaM aff rg a4 aaY fr->Calls prog 263 #[ux p ap r.call.a,.pointer (some ⟨aff,0,none⟩)] aaM fun e w'=> ∃aO,e= .returned (.int .i64 (jV V fr r.call.a.toNat).2.2)/\ar w' ap WC n (jV V fr r.call.a.toNat).1/\cY w' aff aO a4 aaY (jV V fr r.call.a.toNat).2.1/\(aO=rg\/aaM.heap.size<=aO)/\Z1 (fun b=>b≠WC/\b≠aff/\b≠rg) aaM w'):
 Calls prog 185 #[ej p,.pointer (some ⟨ap,0,none⟩),.pointer (some ⟨aff,0,none⟩),.agg (aY r x)] w0 fun e w'=> ∃x' aO,e= .returned (.tuple #[.agg (aY (tell r (jV V fr r.call.a.toNat).2.2 0) x'),.int .i64 0])/\ar w' ap WC n (jV V fr r.call.a.toNat).1/\cY w' aff aO a4 aaY (jV V fr r.call.a.toNat).2.1/\(aO=rg\/w0.heap.size<=aO)/\aW w' (fun b=>(S b\/w0.heap.size<=b)/\b≠WC/\b≠aff/\b≠aO) (tell r (jV V fr r.call.a.toNat).2.2 0) x'/\Z1 (fun b=>b≠WC/\b≠aff/\b≠rg) w0 w':=by
 obtain⟨W9,adX,aeQ,acN,acG,aeb,af3,ZM,rfl⟩:=eW abk;have U:=aah.a0 w0;have Zn:=I Xg;have aaq:=I afj;have cH:=I afj.lt;have aby:=I abk;have ach:=I hd;replace afG:=I afG;replace dK:=I dK;have aa1:(r.Xj !=1)=false:=by simp[a5]
 have hop:(r.call.op==3)=true:=by simp[nb]
 clear Xg afj abk a5 hd nb;go_enter func185,ntmps185;go_wp2_with(first|(refine g1 ach ?_)|(refine aq ?_)|(refine aT ?_;clear U;intro X8 w U aay));replace U:=U.drew;refine wp_region_held_drew aM U.l0 (fun X=>?_);refine az [[0,1,2,3,4,5,6,7]] ?_;refine aF 8 fun K Z7=>?_;go_simp
 (go_at_call 263;refine Calls.mono (afG.out _ (U.jZ Zn.out) (aaq.out.Wu (U.all.block _ cH.out.1) (U.all.block _ cH.out.2))) ?_;rintro e aaM ⟨aO,rfl,aH,dP,cT,aX⟩;obtain⟨aaH,Zd,adQ⟩:=U.Jt aH Zn.out cH.out dK.out aX cT;have iG:=I (cT.imp id fun h=>D U.size h);have gw:=I dP;have oc:=I (And.intro Zd adQ);clear U dP cT aX Zd adQ aH;have U:=aaH.base)
 go_wp2_with fail;refine abR Z7 fun X=>?_;refine aF 9 fun K Z7=>?_;go_simp
 (go_at_call 184;refine Calls.mono (hg _ _ r ⟨.slice W9 r.chain.length adX,.slice aeQ r.list.length acN,.slice acG r.said.length aeb,.slice af3 r.aC.said.length ZM⟩ _ _ ((aby.out.mono (S':=fun b=>(S b\/w0.heap.size<=b)/\b≠WC/\b≠aff/\b≠rg) (fun b hb h=>⟨.inl h,hS b hb h⟩)).Wu ((aaH.back U).Wu.mono fun b _ h=>h.2)) bE) ?_;rintro e aaM ⟨v',rfl,bD,N⟩;obtain⟨aeU,aaP,rfl,-,-,-⟩:=id bD;have hv:=U.eh bD;clear bD;have fu:=U.below N;clear U N;have U:=fu.base)
 go_wp2_with fail;refine abR Z7 fun X=>?_;refine az [[],[10],[11]] ?_;clear U;intro w U;go_wp2_with(first|(refine aq ?_)|(refine aT ?_;clear U;intro X8 w U aay));refine aZ results185 rfl rfl ⟨_,U.b ag,rfl⟩ underlying198 rfl aM ?_;have kj:=fu.back U;have Yq:=aaH.back kj;have l5:aO≠WC:=fun e=>oc.out.2.2 _ rfl e;have adS:=(aby.out.mono (S':=fun b=>b<w0.heap.size/\S b) (fun b hb h=>⟨hb,h⟩)).Wu (Yq.Wu.mono fun b _ h=>hS b h.1 h.2);have adS:=adS.mono (S':=fun b=>(S b\/w0.heap.size<=b)/\b≠WC/\b≠aff/\b≠aO) (fun b _ h=>⟨.inl h.2,(hS b h.1 h.2).1,(hS b h.1 h.2).2.1,by rcases iG.out with c|c;rw[c];exact(hS b h.1 h.2).2.2;omega⟩);have qO:=(U.carry hv fun b _ h=>h.2).mono (S':=fun b=>(S b\/w0.heap.size<=b)/\b≠WC/\b≠aff/\b≠aO) fun b _ h=>⟨.inr (D aaH.size h.1),by have:=ar.c9 Zn.out;have:=aaH.size;have:=h.1;omega,by have:=cH.out;have:=aaH.size;have:=h.1;omega,by have:=gw.out.lt;have:=h.1;omega⟩
 exact⟨⟨.slice W9 r.chain.length adX,.slice aeQ r.list.length acN,.slice acG r.said.length aeb,.slice aeU r.said.length aaP⟩,aO,rfl,kj.bB,gw.out.Wu (kj.Wu.block _ gw.out.lt.1 oc.out.1) (kj.Wu.block _ gw.out.lt.2 oc.out.2),iG.out,⟨adS.ads,adS.ls,adS.Wh,qO⟩,Yq.Wu⟩
structure zw(p:afy)(n:Nat)(V:Nat->Int)(fr:List Ext)(a4 aaY:Int)(r:aax):Prop where
 ft: ∀s:Nat,s<p.s->okW (V (8*s))
 kind:r.call.op=2/\1<=r.call.a/\r.call.a<=8192\/r.call.op=3/\1<=r.call.a/\r.call.a<p.s
 aas:0<=a4/\aaY<=65536/\fr.length<=65536
 ex: ∀x,x∈fr->0<=x.a/\x.a<=65536/\0<x.z/\x.z<=65536
 acC:fr.Pairwise fun x y=>x.a+x.z<=y.a
 sc:r.call.op=3->(Wi V r.call.a.toNat).st=1->(a4<=bs V r.call.a.toNat/\bs V r.call.a.toNat %8=0)/\(1<=agh V r.call.a.toNat/\agh V r.call.a.toNat %8=0/\bs V r.call.a.toNat+agh V r.call.a.toNat<=aaY)/\∀x,x∈fr->x.a+x.z<=bs V r.call.a.toNat\/bs V r.call.a.toNat+agh V r.call.a.toNat<=x.a
theorem GJ(w0:World)(S:Nat->Prop)(p:afy)(ap WC n:Nat)(V:Nat->Int)(aff rg:Nat)(a4 aaY:Int)(fr:List Ext)(r:aax)(x:Yr)(Xg:ar w0 ap WC n V)(afj:cY w0 aff rg a4 aaY fr)(abk:aW w0 S r x)(bE:dx r)(hS: ∀b,b<w0.heap.size->S b->b≠WC/\b≠aff/\b≠rg)(dK:ap≠aff/\ap≠rg/\WC≠aff/\WC≠rg)(hd:r.fin=false)(a5:r.Xj=1)(aeJ:a9 p)(abi:8*p.s<=n)(h:zw p n V fr a4 aaY r):
 Calls prog 185 #[ej p,.pointer (some ⟨ap,0,none⟩),.pointer (some ⟨aff,0,none⟩),.agg (aY r x)] w0 fun e w'=> ∃x' aO,e= .returned (.tuple #[.agg (aY (gO p V fr r).2.2 x'),.int .i64 0])/\ar w' ap WC n (gO p V fr r).1/\cY w' aff aO a4 aaY (gO p V fr r).2.1/\(aO=rg\/w0.heap.size<=aO)/\aW w' (fun b=>(S b\/w0.heap.size<=b)/\b≠WC/\b≠aff/\b≠aO) (gO p V fr r).2.2 x'/\Z1 (fun b=>b≠WC/\b≠aff/\b≠rg) w0 w':=by
 rcases h.kind with⟨ZQ,dv⟩|⟨ZQ,dv⟩
 ·have nb:r.call.op≠3:=by omega
  obtain⟨m,hm⟩: ∃m,(r.call.a+7)/8*8=m:=⟨_,rfl⟩
  by_cases c: ∃s:Nat,s<p.s/\(Wi V s).st=0
  ·have wI: ∃s:Nat,s<p.s/\(Wi V s).st=0/\∀j:Nat,j<s->(Wi V j).st≠0:=by
    obtain⟨s,YF,YM⟩:=c;cases acA:fv V p.s.toNat with
    |none=>
     unfold fv at acA;rw[List.find?_range_eq_none]at acA;have:=acA s J;simp[YM]at this
    |some k=>
     unfold fv at acA;rw[List.find?_range_eq_some]at acA;obtain⟨h1,aaV,ZV⟩:=acA;exact⟨k,by have:=List.mem_range.1 aaV;omega,by simpa using h1,fun j aeD=>by simpa using ZV j aeD⟩
   obtain⟨s,YF,YM,dU⟩:=wI;have tT:=vM (n:=p.s.toNat) J YM dU;have Wy: ∀x,x∈fr->0<=x.a/\x.a<=65536/\x.z<=65536:=fun x Wy=>by have:=h.ex x Wy;omega
   cases fg:hU fr m with
   |none=>
    have Wx:gO p V fr r=(V,fr,tell r 14 0):=by unfold gO;rw[Y nb,tT];simp only[hm,fg]
    rw[Wx];exact GC w0 S p ap WC n V aff rg a4 aaY fr r x Xg afj abk bE hS dK hd a5 aeJ abi nb dv h.ft s YF YM dU m hm h.aas.2.2 Wy fg
   |some q=>
    obtain⟨X0,w5⟩:=q;have Wx:gO p V fr r=(put (put (put (put (put V (8*s) (afa ⟨1,0,-1,(Wi V s).afB⟩)) (8*s+1) X0) (8*s+2) m) (8*s+3) 0) (8*s+4) 0,w5,tell r 0 s):=by unfold gO;rw[Y nb,tT];simp only[hm,fg]
    rw[Wx];have LK:0<=X0/\X0<=65536:=by
     obtain⟨y,hy,UH,_⟩:=sR fg h.acC (fun y hy=>(h.ex y hy).2.2.1) J;have:=h.ex y hy;omega
    exact GH w0 S p ap WC n V aff rg a4 aaY fr r x Xg afj abk bE hS dK hd a5 aeJ abi nb dv h.ft s YF YM dU m hm h.aas.2.2 Wy X0 w5 fg LK
  ·have dU: ∀j:Nat,j<p.s->(Wi V j).st≠0:=fun j aeD YM=>c ⟨j,aeD,YM⟩;have Wx:gO p V fr r=(V,fr,tell r 13 0):=by unfold gO;rw[Y nb,sn (fun j aeD=>dU j J)]
   rw[Wx];exact Gz w0 S p ap WC n V aff rg a4 aaY fr r x Xg afj abk bE hS dK hd a5 aeJ abi nb dv h.ft dU
 ·have Wx:gO p V fr r=((jV V fr r.call.a.toNat).1,(jV V fr r.call.a.toNat).2.1,tell r (jV V fr r.call.a.toNat).2.2 0):=by
   unfold gO jV;rw[Z ZQ];by_cases VI:(Wi V r.call.a.toNat).st=0
   ·simp only[VI,if_true]
   ·by_cases WJ:(Wi V r.call.a.toNat).st=1
    ·simp only[WJ,if_true,Int.one_ne_zero,if_false]
    ·simp only[VI,WJ,if_false]
  rw[Wx];refine GI w0 S p ap WC n V aff rg a4 aaY fr r x Xg afj abk bE hS dK hd a5 aeJ abi ZQ ?_;intro aaM aH dP;have ok:=h.ft r.call.a.toNat J;obtain⟨⟨st,Xf,YX,afB⟩,XP⟩: ∃c,Wi V r.call.a.toNat=c:=⟨_,rfl⟩
  have cx:=ok.ok.st;rw[show up (V (8*r.call.a.toNat))=Wi V r.call.a.toNat from rfl,XP]at cx;simp only at cx;have ae3:0<=r.call.a/\r.call.a<p.s:=J;rcases(by omega:st=0\/st=1\/st≥2)with c|c|c
  ·have aal:jV V fr r.call.a.toNat=(V,fr,11):=by unfold jV;rw[XP,Z c]
   rw[aal];exact(Jp aaM p ap WC n V aff r.call.a aH aeJ ae3 abi ok st Xf YX afB XP c).mono fun e w' ⟨V1,hb⟩=>⟨rg,V1,ar.below aH hb aH.c9.1 aH.c9.2.1,dP.Wu (hb.block _ dP.lt.1) (hb.block _ dP.lt.2),.inl rfl,Z1.cg hb⟩
  ·subst c;have DC:=h.sc ZQ (by rw[XP]);have aal:jV V fr r.call.a.toNat=(put (put (put V (8*r.call.a.toNat) (afa ⟨0,0,-1,(afB+1)%16777216⟩)) (8*r.call.a.toNat+1) 0) (8*r.call.a.toNat+2) 0,give fr (bs V r.call.a.toNat) (agh V r.call.a.toNat),0):=by
    unfold jV;rw[XP];rfl
   rw[aal];exact Jr aaM p ap WC n V aff rg a4 aaY fr r.call.a aH dP dK aeJ ae3 abi ok Xf YX afB XP _ _ rfl rfl ⟨DC.1.1,h.aas.1,DC.1.2⟩ ⟨DC.2.1.1,DC.2.1.2.1,DC.2.1.2.2,h.aas.2.1⟩ h.aas.2.2 h.acC h.ex DC.2.2
  ·have aal:jV V fr r.call.a.toNat=(V,fr,12):=by unfold jV;rw[XP,Y (by show¬st=0;omega),Y (by show¬st=1;omega)]
   rw[aal];exact(Jq aaM p ap WC n V aff r.call.a aH aeJ ae3 abi ok st Xf YX afB XP c).mono fun e w' ⟨V1,hb⟩=>⟨rg,V1,ar.below aH hb aH.c9.1 aH.c9.2.1,dP.Wu (hb.block _ dP.lt.1) (hb.block _ dP.lt.2),.inl rfl,Z1.cg hb⟩
theorem qt{G:Prop}(h:G:=by
 go_enter func27,ntmps27;go_wp2_with(first|(refine aaO U ?_));go_ret;exact⟨rfl,U.all⟩):G:=h
theorem Hd(w0:World)(ado:Nat->Prop)(aak:Value)(n:Nat)(f:Nat->Int)(i:Nat)(hb:acr w0 ado aak n 1 fun i=> [.int .u8 (f i)])(acA:e0 f)(hi:i<4):
 Calls prog 27 #[aak,.int .i64 i] w0 fun x w'=>x= .returned (.int .i64 (fe f n i))/\Below w0.heap.size w0 w':=by
 obtain⟨A,c,rfl,eR,c7,bT⟩:=id hb;have h:=acA i;have U:=aah.a0 w0;have WJ:IntKind.i64.wrap (f i)=f i:=by rw[IntKind.wrap_i64];omega
 unfold fe;clear hb acA;by_cases fZ:i<n
 ·rw[Z fZ];obtain⟨b,off,rfl,YF,YJ,XP⟩:=bT J;have Wy:w0.cell? ⟨b,off+i,none⟩=some (.int .u8 (f i)):=by simpa using XP i 0 _ fZ rfl
  have aaX:(i:Int)<(n:Int):=J;have afQ:(0:Int)<=(i:Int):=J;clear bT XP;exact qt
 ·rw[Y fZ];have aaX:(n:Int)<=(i:Int):=J;clear bT;exact qt
def zG(f:Nat->Int)(n:Nat)(z:Int):Int:=fe f n z.toNat
theorem D6(w0:World)(ado:Nat->Prop)(aak:Value)(n:Nat)(f:Nat->Int)(z:Int)(hb:acr w0 ado aak n 1 fun i=> [.int .u8 (f i)])(acA:e0 f)(aeN:0<=z/\z<4):
 Calls prog 27 #[aak,.int .i64 z] w0 fun x w'=>x= .returned (.int .i64 (zG f n z))/\Below w0.heap.size w0 w':=by
 have h:=Hd w0 ado aak n f z.toNat hb acA J;rwa[Int.toNat_of_nonneg aeN.1]at h
theorem vf(w0:World)(b o c:Nat)(e:Nat->Int)(V1:e0 e)(XP:8<=c)(hb:b<w0.heap.size)(Wy: ∀i,i<8->w0.cell? ⟨b,o+i,none⟩=some (.int .u8 (e i))):
 Calls prog 28 #[.slice (some ⟨b,o,none⟩) 8 c] w0 fun x w'=>x= .returned (.agg (hP (fJ e)))/\Below w0.heap.size w0 w':=by
 have ZV:=V1 3;have adH:=V1 7;have XX:=V1 6;have Ya:=V1 4;have afY:=V1 5;have U:=aah.a0 w0;have VN:=I Wy;have V5:numOf e=e 4+256*e 5:=rfl;have acT:0<=numOf e/\numOf e<=65535:=J;have acJ:IntKind.i64.wrap (e 4)=e 4:=by rw[IntKind.wrap_i64];omega
 have Wo:IntKind.i64.wrap (e 5)=e 5:=by rw[IntKind.wrap_i64];omega
 have ae5:IntKind.i64.wrap (e 6)=e 6:=by rw[IntKind.wrap_i64];omega
 have VV:IntKind.i64.wrap (e 7)=e 7:=by rw[IntKind.wrap_i64];omega
 have VD:IntKind.i64.wrap (256*e 5)=256*e 5:=by rw[IntKind.wrap_i64];omega
 have XQ:IntKind.i64.wrap (e 4+256*e 5)=numOf e:=by rw[IntKind.wrap_i64,V5];omega
 have ab5:IntKind.i64.wrap (numOf e-65536)=numOf e-65536:=by rw[IntKind.wrap_i64];omega
 have t3:(e 3).tmod 4=e 3 %4:=al ZV.1;have ada:(e 3).tdiv 4=e 3/4:=Int.tdiv_eq_ediv_of_nonneg ZV.1;have ab8:(e 3).tdiv 16=e 3/16:=Int.tdiv_eq_ediv_of_nonneg ZV.1;have t4:(e 3/4).tmod 4=e 3/4 %4:=al J;have t5:(e 3/16).tmod 4=e 3/16 %4:=al J;have t7:(e 7).tmod 8=e 7 %8:=al adH.1;have Zp:IntKind.u8.wrap (e 3/4)=e 3/4:=by rw[IntKind.wrap_u8];omega
 have Wc:IntKind.u8.wrap (e 3/16)=e 3/16:=by rw[IntKind.wrap_u8];omega
 clear V1 Wy V5;go_enter func28,ntmps28;go_upto_region 1 with(first|(refine aq ?_)|(refine aT ?_;clear U;intro X8 w U aay))
 replace U:=U.drew;refine wp_region_held_drew (S:=(fun w=> ∀i,i<8->w.cell? ⟨b,o+i,none⟩=some (.int .u8 (e i)))) aM ?_ (fun X=>?_)
 ·exact fun i hi=>(U.all.cell (p:=⟨b,o+i,none⟩) hb).trans (VN.out i hi)
 refine az [[0,1]] ?_;refine eE 2 rfl (bl (by rfl) 5 _ rfl b (o+4) rfl _ (fun w h=>h 4 am) underlying5 rfl) ?_;refine az [[3,4,5]] ?_;refine eE 6 rfl (bl (by rfl) 5 _ rfl b (o+5) rfl _ (fun w h=>h 5 am) underlying5 rfl) ?_;refine az [[7,8,9,10]] ?_;dsimp only[Exit.then]
 apply_assumption
 by_cases abi:32767<numOf e
 ·go_upto_region 4 with(first|(refine aq ?_)|(refine aT ?_;clear U;intro X8 w U aay))
  replace U:=U.drew;refine wp_region_held_drew (S:=(fun w=> ∀i,i<8->w.cell? ⟨b,o+i,none⟩=some (.int .u8 (e i)))) aM ?_ (fun X=>?_)
  ·exact fun i hi=>(U.all.cell (p:=⟨b,o+i,none⟩) hb).trans (VN.out i hi)
  refine az [[0,1]] ?_;refine eE 2 rfl (bl (by rfl) 5 _ rfl b (o+2) rfl _ (fun w h=>h 2 am) underlying5 rfl) ?_;refine az [[3,4]] ?_;refine eE 5 rfl (bl (by rfl) 5 _ rfl b (o+3) rfl _ (fun w h=>h 3 am) underlying5 rfl) ?_;refine az [[6,7,8]] ?_;refine eE 9 rfl (bl (by rfl) 5 _ rfl b (o+3) rfl _ (fun w h=>h 3 am) underlying5 rfl) ?_;refine az [[10,11,12,13]] ?_;refine eE 14 rfl (bl (by rfl) 5 _ rfl b (o+3) rfl _ (fun w h=>h 3 am) underlying5 rfl) ?_;refine az [[15,16,17,18,19]] ?_;refine eE 20 rfl (bl (by rfl) 5 _ rfl b (o+6) rfl _ (fun w h=>h 6 am) underlying5 rfl) ?_;refine az [[21,22,23]] ?_;refine eE 24 rfl (bl (by rfl) 5 _ rfl b (o+7) rfl _ (fun w h=>h 7 am) underlying5 rfl) ?_;refine az [[25,26,27]] ?_;refine aF 28 fun K Z7=>?_;refine aaU U ?_;clear U;intro w U;refine abR Z7 (fun X=>?_) (by exact fun i hi=>(U.all.cell (p:=⟨b,o+i,none⟩) hb).trans (VN.out i hi));refine adB ?_;dsimp only[Exit.then]
  apply_assumption
  go_wp2_with fail;refine cw results28 rfl rfl ⟨_,U.b ag,rfl⟩ underlying42 rfl aM ?_;refine⟨?_,U.all⟩;unfold fJ;rw[m3]
 ·go_upto_region 4 with(first|(refine aq ?_)|(refine aT ?_;clear U;intro X8 w U aay))
  replace U:=U.drew;refine wp_region_held_drew (S:=(fun w=> ∀i,i<8->w.cell? ⟨b,o+i,none⟩=some (.int .u8 (e i)))) aM ?_ (fun X=>?_)
  ·exact fun i hi=>(U.all.cell (p:=⟨b,o+i,none⟩) hb).trans (VN.out i hi)
  refine az [[0,1]] ?_;refine eE 2 rfl (bl (by rfl) 5 _ rfl b (o+2) rfl _ (fun w h=>h 2 am) underlying5 rfl) ?_;refine az [[3,4]] ?_;refine eE 5 rfl (bl (by rfl) 5 _ rfl b (o+3) rfl _ (fun w h=>h 3 am) underlying5 rfl) ?_;refine az [[6,7,8]] ?_;refine eE 9 rfl (bl (by rfl) 5 _ rfl b (o+3) rfl _ (fun w h=>h 3 am) underlying5 rfl) ?_;refine az [[10,11,12,13]] ?_;refine eE 14 rfl (bl (by rfl) 5 _ rfl b (o+3) rfl _ (fun w h=>h 3 am) underlying5 rfl) ?_;refine az [[15,16,17,18,19]] ?_;refine eE 20 rfl (bl (by rfl) 5 _ rfl b (o+6) rfl _ (fun w h=>h 6 am) underlying5 rfl) ?_;refine az [[21,22,23]] ?_;refine eE 24 rfl (bl (by rfl) 5 _ rfl b (o+7) rfl _ (fun w h=>h 7 am) underlying5 rfl) ?_;refine az [[25,26,27]] ?_;refine aF 28 fun K Z7=>?_;refine aaU U ?_;clear U;intro w U;refine abR Z7 (fun X=>?_) (by exact fun i hi=>(U.all.cell (p:=⟨b,o+i,none⟩) hb).trans (VN.out i hi));refine adB ?_;dsimp only[Exit.then]
  apply_assumption
  go_wp2_with fail;refine cw results28 rfl rfl ⟨_,U.b ag,rfl⟩ underlying42 rfl aM ?_;refine⟨?_,U.all⟩;unfold fJ;rw[aB]
theorem qu{G:Prop}(h:G:=by
 refine WE Z7 fun X=>?_;refine aF 6 fun K Z7=>?_;rw[Z (by rfl)];refine bK U 47 42 _ rfl _ ((hP (fJ e)).toList) rfl rfl (.agg #[.int .u8 0,.int .u8 0,.int .u8 0,.int .u8 0,.int .i64 0,.int .i64 0,.int .i64 0]) 7 32 fi ii rfl (by decide) (by decide) ?_;clear U;intro di w U dO;exact pj):G:=h
theorem pj{G:Prop}(h:G:=by
 refine WE Z7 fun X=>?_;refine aF 7 fun K Z7=>?_;rw[Z (by rfl)];have dI:=U.size;refine eX U aby.out (fun j aeD=>(iZ.out j aeD).2) _ _ 47 rfl (.agg #[.int .u8 0,.int .u8 0,.int .u8 0,.int .u8 0,.int .i64 0,.int .i64 0,.int .i64 0]) 32 fi ii rfl (by decide) rfl ⟨di,0,none⟩ 1 1 ((hP (fJ e)).toList) rfl rfl (by decide) (U.news ag) rfl (by unfold maxLen;omega) (by omega) ?_;clear U;intro g' cW lL w U e8 lm;replace e8:=e8.imp id (D dI);clear dI;refine WE Z7 fun X=>?_;refine Xh 8 ?_;refine aF 9 fun K Z7=>?_;refine afA U (f:=v.aag) (m:=T) (j:=t) (u:=.slice (some ⟨g',0,none⟩) (ab1 t+1) cW) (by omega) ?_;clear U;intro w U;refine WE Z7 fun X=>?_;refine adB ?_;go_wp2_with(first|(refine aq ?_)|(refine Ws U 151 ?_;clear U;intro kP w U j8)|(refine aT ?_;clear U;intro X8 w U aay));refine cw results64 rfl rfl ⟨_,U.b ag,rfl⟩ underlying32 rfl (by kernel_rfl) ?_;refine⟨_,?_,qT.out _ _ _ _ _ U (U.b (g:=v.aff) ag) (U.b (g:=g') cX) e8 lm aaV YJ⟩;show _=Ending.returned (.agg #[.int .i64 s.p.s,.int .i64 s.p.t,.int .i64 s.p.i,.int .i64 s.p.h,.slice (some ⟨v.aca,0,none⟩) 8 v.acR,.slice (some ⟨v.aff,0,none⟩) s.p.t.toNat v.VY,v.afa]);rw[YQ.out]):G:=h
theorem JZ(w0:World)(B:Nat)(v:abM)(s:h9)(e:Nat->Int)(aeJ:a7 w0 B v s)(YF:hV s)(V1:e0 e)(Yq:B<=w0.heap.size)(ae3:e 0 %8<5):
 Calls prog 64 #[.agg (gy s.p v).toArray,sW e] w0 fun x w'=> ∃v',x= .returned (.agg (gy s.p v').toArray)/\a7 w' B v' (cU s e)/\Z1 (hE v s.p.t.toNat) w0 w':=by
 have afq:=YF.p.t;obtain⟨T,aen⟩: ∃T,s.p.t.toNat=T:=⟨_,rfl⟩
 have Yj:s.p.t=(T:Int):=J;have aal:=V1 1;have Wx:=V1 0;obtain⟨t,ia⟩: ∃t:Nat,(e 1 %s.p.t).toNat=t:=⟨_,rfl⟩
 obtain⟨q,VX⟩: ∃q:Nat,(e 1 %8).toNat=q:=⟨_,rfl⟩
 have aeT:t<s.p.t.toNat:=by rw[<-ia];have:=cA (e 1) (by omega:0<s.p.t);have:=b5 (e 1) (by omega:s.p.t≠0);omega
 have ZD:q<8:=J;have aar:(e 1).tmod (T:Int)=(t:Int):=by rw[al aal.1,<-Yj,<-ia];exact(Int.toNat_of_nonneg (b5 _ J)).symm
 have adN:e 1 %8=(q:Int):=J;have VL:IntKind.i64.wrap (t:Int)=(t:Int):=by rw[IntKind.wrap_i64];omega
 have W8: ¬T=0:=J;have Wv: ∀(k:IntKind) (n:Int),(Value.int k n).oneCell'=true:=fun _ _=>rfl;have os: ∀A n c,(Value.slice A n c).oneCell'=true:=fun _ _ _=>rfl;have sw:v.afa.oneCell'=true:=by
  rcases aeJ.pi.2 with⟨abF,_⟩|⟨g,cap,cS,abF,_⟩<;>(rw[abF];rfl)
 have adw:bits .and .u8 (e 1) 7=(q:Int):=by rw[u8_and7 _ aal];exact adN
 have afg:bits .and .u8 (e 0) 7=e 0 %8:=u8_and7 _ Wx;have Qu:IntKind.i64.wrap (e 1)=e 1:=by rw[IntKind.wrap_i64];omega
 have t0:(t:Int)<(T:Int):=J;have t1:(0:Int)<=(t:Int):=J;have Zh:(q:Int)<8:=J;have q1:(0:Int)<=(q:Int):=J;obtain⟨ab1,fH⟩: ∃ab1:Nat->Nat,Hid (∀j,(s.bj j).length=ab1 j):=⟨fun j=>(s.bj j).length,I fun j=>rfl⟩
 have bT:=aeJ.pr t aeT;rw[fH.out]at bT;obtain⟨A,c,aef⟩: ∃A c,v.aag t= .slice A (ab1 t) c:=by
  rcases bT.2 with⟨abF,acL⟩|⟨g,cap,cS,abF,_⟩
  ·exact⟨none,0,by rw[abF,acL]⟩
  ·exact⟨_,_,abF⟩
 have aby:=I (gx (B':=0) bT fun _ _=>aL _);have iZ:=I (fun j (aeD:(v.aag t).ownBlock=some j)=>And.intro (bT.lt j aeD).2 (show j≠v.aff from fun abF=>dW bT aeJ.aft am (by rw[<-abF];exact aeD)));have nd:=aeJ.aft;rw[aen]at nd aeT;have YT:=I (show((List.range T).map v.aag++v.aa4)[t]? =some (.slice A (ab1 t) c)from by rw[rF aeT,aef]);have ZR:=I aeJ;have aeO:=I YF;have Yl:=I V1;rw[aef]at aby iZ;have Nt:=I aef;have Br:=I ia;have TA:=I VX;have qT:=I (show∀(L:List abN) (g cap:Nat) (rest:List Value) (w':World),aah w0 (fun b=>b≠v.aff/\(Value.slice A (ab1 t) c).ownBlock≠some b) w' none L->ah w' v.aff 47 ((List.range T).map (put v.aag t (.slice (some ⟨g,0,none⟩) (ab1 t+1) cap))++v.aa4).toArray->ah w' g 42 ((ly (s.bj t)++(hP (fJ e)).toList)++rest).toArray->((Value.slice A (ab1 t) c).ownBlock=some g\/w0.heap.size<=g)->(ab1 t+1<=cap/\cap<=maxLen/\((ly (s.bj t)++(hP (fJ e)).toList)++rest).length=cap*7)->e 2<=11->ab1 t<64->
  a7 w' B {v with aag:=put v.aag t (.slice (some ⟨g,0,none⟩) (ab1 t+1) cap)} (cU s e)/\Z1 (hE v T) w0 w' from fun L g cap rest w' h1 aaV ZV Ya afY XX adH=>by
  have Zb:=show cU s e= {s with bj:=put s.bj t (s.bj t++ [fJ e])} by unfold cU;rw[Z ae3,ia,Z ⟨XX,by rw[fH.out];exact adH⟩]
  rw[Zb];rw[<-aef]at h1 Ya;rw[<-fH.out t]at aaV afY⊢;rw[<-aen]at aaV aeT;rw[<-aen];exact a7.KN aeJ Yq aeT (c:=fJ e) h1.Wu aaV ZV Ya afY)
 have xv:=I (show∀w',Below w0.heap.size w0 w'->¬(e 2<=11/\ab1 t<64)->a7 w' B v (cU s e)/\Z1 (hE v T) w0 w' from fun w' h1 aaV=>by
  rw[show cU s e=s by unfold cU;rw[Z ae3,ia,fH.out,Y aaV]];exact⟨aeJ.below h1,Z1.cg h1⟩)
 have Pp:=I nd;have U:=aah.g8 nd;show Calls _ _ #[.agg #[.int .i64 s.p.s,.int .i64 s.p.t,.int .i64 s.p.i,.int .i64 s.p.h,.slice (some ⟨v.aca,0,none⟩) 8 v.acR,.slice (some ⟨v.aff,0,none⟩) s.p.t.toNat v.VY,v.afa],_] _ _;rw[aen];have YQ:=I aen;clear aeJ YF V1 bT nd aef ia VX Yj aen afq;go_enter func64,ntmps64;go_upto_region 2 with(first|(refine aq ?_)|(refine Ws U 151 ?_;clear U;intro kP w U j8)|(refine aT ?_;clear U;intro X8 w U aay))
 replace U:=U.drew;refine b0 ?_;intro X;refine az [[0,1,2,3,4,5,6,7,8,9,10,11,12,13,14,15,16,17]] ?_;dsimp only[Exit.then]
 apply_assumption
 have adX:=U.cell (g:=v.aff) (i:=t) ag YT.out;by_cases aaV:e 2<=11
 ·by_cases YJ:ab1 t<64
  ·have fx:(ab1 t:Int)<64:=by omega
   go_upto_region 5 with(first|(refine aq ?_)|(refine Ws U 151 ?_;clear U;intro kP w U j8)|(refine aT ?_;clear U;intro X8 w U aay))
   clear adX;replace U:=U.drew;refine wp_region_held_drew (S:=(c0 [⟨kP,151,[.int .u8 (e 0),.int .u8 (e 1),.int .u8 (e 2),.int .u8 (e 3),.int .u8 (e 4),.int .u8 (e 5),.int .u8 (e 6),.int .u8 (e 7)]⟩])) aM ?_ (fun X=>?_)
   ·exact U.bG aN
   refine az [[0,1,2,4]] ?_;refine Zj [3,5] ?_;refine ea (fun K Z7=>?_) ?_
   ·rw[Z (by rfl)];refine bU U 47 _ rfl v.aff t rfl ag (.slice A (ab1 t) c) YT.out underlying47 rfl ?_;refine WE Z7 fun X=>?_;refine aF 5 fun K Z7=>?_;go_simp
    (go_at_call 114;refine a6 U (BQ _ e Yl.out) ?_;clear U;intro aaM U)
    go_wp2_with fail;exact qu
   refine ei (fun K Z7=>?_);go_simp
   (go_at_call 114;refine a6 U (BQ _ e Yl.out) ?_;clear U;intro aaM U)
   go_wp2_with fail;refine WE Z7 fun X=>?_;refine Zj [3,6] ?_;refine ea (fun K Z7=>?_) ?_
   ·rw[Z (by rfl)];refine bU U 47 _ rfl v.aff t rfl ag (.slice A (ab1 t) c) YT.out underlying47 rfl ?_;exact qu
   refine ei (fun K Z7=>?_);rw[Z (by rfl)];refine bK U 47 42 _ rfl _ ((hP (fJ e)).toList) rfl rfl (.agg #[.int .u8 0,.int .u8 0,.int .u8 0,.int .u8 0,.int .i64 0,.int .i64 0,.int .i64 0]) 7 32 fi ii rfl am am ?_;clear U;intro di w U dO;refine WE Z7 fun X=>?_;refine aF 3 fun K Z7=>?_;rw[Z (by rfl)];refine bU U 47 _ rfl v.aff t rfl ag (.slice A (ab1 t) c) YT.out underlying47 rfl ?_;exact pj
  ·have fx: ¬(ab1 t:Int)<64:=by omega
   exact oh
 ·go_wp2_with(first|(refine aq ?_)|(refine Ws U 151 ?_;clear U;intro kP w U j8)|(refine aT ?_;clear U;intro X8 w U aay));exact kQ
end Go.Proofs.YtcimojgkeoecfaaGreat
