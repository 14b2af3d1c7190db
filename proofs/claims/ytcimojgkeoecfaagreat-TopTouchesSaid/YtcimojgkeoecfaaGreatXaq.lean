import Derived.Test.YtcimojgkeoecfaaGreatXap
import Derived.Maps.AppendAt
import Derived.Great.BuildSlice
import Derived.Lib.AppendZeros
set_option linter.all false
set_option maxHeartbeats 16000000
set_option maxRecDepth 100000
namespace Go.Proofs.YtcimojgkeoecfaaGreat
section
open Go.RowKit
variable{w0 aaM w w':World}{S:Nat->Prop}{A W9:Option XS}{L L' L1:List abN}
theorem qa{G:Prop}(h:G:=by
 rcases afY with afY|afY
 ·exact te.fresh j (afY▸aeD)
 ·rw[afY]at aeD;injection aeD with aeD
  have:=(Yq.hO (b:=j) (by omega)).2;refine⟨this,fun a Xg vD=>?_⟩;subst Xg;have:=ar.c9 (w:=w) Yq.VB;omega):G:=h
theorem nF{G:Prop}(h:G:=by
 rcases adS.own.2 with⟨rfl,rfl⟩|⟨g,cap,cS,rfl,_,_,ZV,_⟩
 ·exact⟨_,_,rfl,ai _⟩
 ·exact⟨_,_,rfl,ZV⟩):G:=h
def l1:Option XS->Option (Nat×Nat):=Option.map fun a=>(a.p,a.g)
theorem ar.j3{w w':World}{p g n:Nat}{F:Nat->Int}(h:ar w p g n F)(aeJ:w'.heap[p]? =w.heap[p]?)(afj:w'.heap[g]? =w.heap[g]?):ar w' p g n F:=by
 obtain⟨f,Xg,acA⟩:=h;exact⟨f,⟨aeJ.trans Xg.head,afj.trans Xg.row,Xg.ne,Xg.cE,Xg.fits⟩,acA⟩
theorem aah.grown(h:aah w0 S w A L){r:Option Nat}(afj:w.grownBy w' r)(abk: ∀j,r=some j->w0.heap.size<=j/\bq A L j/\∀a,A=some a->j≠a.p):aah w0 S w' A L:=by
 have bo: ∀k,r≠some k->k<w.heap.size->w'.heap[k]? =w.heap[k]? :=fun k ae3 YJ=>afj.block k YJ fun e=>ae3 e.symm;refine⟨fun x Wy=>?_,h.aed,h.fr,⟨afj.os.trans h.Wu.os,afj.tape.trans h.Wu.tape,afj.output.trans h.Wu.output,D h.Wu.size afj.size,fun k ae3 YF=>?_⟩,?_,h.WN⟩
 ·exact(bo x.g (fun e=>(abk _ e).2.1.1 x Wy rfl) (h.bC x Wy).lt).trans (h.bC x Wy)
 ·exact(bo k (fun e=>by have:=(abk _ e).1;omega) (aj ae3 h.Wu.size)).trans (h.Wu.block k ae3 YF)
 ·cases A with
  |none=>exact trivial
  |some a=>
   have YJ:=ar.c9 (w:=w) h.VB;exact ar.j3 h.VB (bo a.p (fun e=>(abk _ e).2.2 a rfl rfl) YJ.1) (bo a.g (fun e=>(abk _ e).2.1.2 a rfl rfl) YJ.2.1)
structure aaQ(w0 w:World)(A:Option XS)(L:List abN)(e:TypeId)(sz:Nat)(v:Value)(n:Nat)(xs:List Value):Prop where
 own:w.ownsRow w0.heap.size e sz v n xs
 fresh: ∀j,v.ownBlock=some j->bq A L j/\∀a,A=some a->j≠a.p
variable{e:TypeId}{sz n:Nat}{v:Value}{xs:List Value}
theorem aaQ.nil(w0 w:World)(A:Option XS)(L:List abN)(e:TypeId)(sz:Nat):aaQ w0 w A L e sz (.slice none 0 0) 0 []:=
 ⟨World.ownsRow_nil _ _ _ _,fun j h=>by simp[Value.ownBlock]at h⟩
theorem fT{w w':World}{B:Nat}(h:w.ownsRow B e sz v n xs)(hb: ∀j,v.ownBlock=some j->w'.heap[j]? =w.heap[j]?):w'.ownsRow B e sz v n xs:=by
 refine⟨h.1,?_⟩;rcases h.2 with h|⟨g,cap,cS,rfl,h1,aaV,ZV⟩
 ·exact .inl h
 ·exact .inr ⟨g,cap,cS,rfl,h1,(hb g rfl).trans aaV,ZV⟩
theorem aaQ.lt(h:aaQ w0 w A L e sz v n xs): ∀j,v.ownBlock=some j->w0.heap.size<=j/\j<w.heap.size:=h.own.lt
theorem aaQ.on(h:aaQ w0 aaM W9 L1 e sz v n xs)(aaH:aah w0 S aaM W9 L1)(U:aah aaM (bq W9 L1) w A L)(adu:l1 A=l1 W9):aaQ w0 w A L e sz v n xs:=by
 refine⟨fT h.own fun j aeD=>U.Wu.block j (h.lt j aeD).2 (h.fresh j aeD).1,fun j aeD=>?_⟩;have YJ:=(h.lt j aeD).2;have ae3:=(h.fresh j aeD).1;refine⟨⟨fun x Wy Lv=>?_,fun a Xg vD=>?_⟩,fun a Xg vD=>?_⟩
 ·subst Lv;rcases U.fr x Wy with ZV|ZV
  ·omega
  ·exact ZV ae3
 ·subst vD;rcases(U.WN a Xg).2.2 with ZV|ZV
  ·omega
  ·exact ZV ae3
 ·subst Xg;cases W9 with
  |none=>cases adu
  |some YN=>
   simp only[l1,bt,Option.some.injEq,Prod.mk.injEq]at adu;exact(h.fresh j aeD).2 YN rfl (vD.trans adu.1)
theorem aaQ.made(aaH:aah w0 S w A L)(hb:Below w.heap.size w aaM)(own:aaM.ownsRow w.heap.size e sz v n xs):aaQ w0 aaM A L e sz v n xs:=by
 refine⟨?_,fun j aeD=>?_⟩
 ·refine⟨own.1,?_⟩;rcases own.2 with h|⟨g,cap,cS,rfl,h1,aaV⟩
  ·exact .inl h
  ·exact .inr ⟨g,cap,cS,rfl,D aaH.size h1,aaV⟩
 ·have:=(own.lt j aeD).1;refine⟨(aaH.hO this).2,fun a Xg vD=>?_⟩;subst Xg;have:=ar.c9 (w:=w) aaH.VB;omega
theorem aaQ.sl{F:Nat->List Value}(h:aaQ w0 w A L e sz v n (bx n sz F))(hF: ∀i,i<n->(F i).length=sz):acr w (fun b=>w0.heap.size<=b/\bq A L b) v n sz F:=by
 rcases h.own.2 with⟨rfl,rfl⟩|⟨g,cap,cS,rfl,h1,aaV,ZV,Ya,afY,XX⟩
 ·exact acr.nil _ _ _ _
 ·refine⟨_,cap,rfl,ZV,Ya,fun abi=>⟨g,0,rfl,⟨h1,(h.fresh g rfl).1⟩,(Array.getElem?_eq_some_iff.1 aaV).1,fun i j u hi hu=>?_⟩⟩;exact nj
theorem aaQ.form(h:aaQ w0 w A L e sz v n xs): ∃A' c,v= .slice A' n c:=by
 rcases h.own.2 with⟨rfl,rfl⟩|⟨g,cap,cS,rfl,_⟩
 ·exact⟨_,_,rfl⟩
 ·exact⟨_,_,rfl⟩
theorem aaQ.Ai{m:Nat}(h:aaQ w0 w A L e sz v (0+m) xs): ∃A' c,v= .slice A' m c:=by
 obtain⟨A',c,h⟩:=h.form;exact⟨A',c,by rw[h,ax]⟩
theorem jM{n sz:Nat}{F:Nat->List Value}(aeN:0<sz)(hF:(F n).length=sz):bx (n+1) sz F=bx n sz F++F n:=by
 apply List.ext_getElem?;intro j;unfold bx;rw[a3,List.getElem?_append];simp only[bJ,List.length_range];by_cases c:j<n*sz
 ·rw[Z c,a3,a1 c,a1 (by rw[Nat.add_mul];omega)]
 ·rw[Y c];by_cases d:j<(n+1)*sz
  ·rw[a1 d];have hd:j-n*sz<sz:=by rw[Nat.add_mul]at d;omega
   have aal:j/sz=n:=by
    apply Nat.div_eq_of_lt_le
    ·omega
    ·exact d
   have abF:j %sz=j-n*sz:=by
    have:=Nat.div_add_mod j sz;rw[aal,Nat.mul_comm]at this;omega
   rw[bt,aal,abF,ae,an J];simp
  ·rw[aV (by simp;omega),aV (by rw[Nat.add_mul]at d;omega)];rfl
theorem qF{n sz:Nat}{F G:Nat->List Value}(aeN:0<sz)(h: ∀i,i<n->F i=G i):bx n sz F=bx n sz G:=by
 unfold bx;apply List.map_congr_left;intro j aeD;rw[h (j/sz) ((Nat.div_lt_iff_lt_mul aeN).2 (List.mem_range.1 aeD))]
variable{P:Program}{o:Oper}{a:Act}{K:Act->World->Prop}{Q:Exit->Act->World->Prop}{ops:Array Oper}{rest:List Oper}
section
variable(aaH:aah w0 S aaM W9 L1)(U:aah aaM (bq W9 L1) w A L)(adS:aaQ w0 aaM W9 L1 e sz v n xs)(adu:l1 A=l1 W9)
include aaH U adS adu
theorem gG(s x:Operand)(t:TypeId)(ZQ:o.op= .call {callee:=.builtin .append,args:= #[s,x],argTypes:= #[t,t]})
 (z:Value)(bytes:Nat)(afq:P.underlying t=some (.slice e))(cC:(P.info? e).map (fun i=>(i.zero,i.size,i.bytes))=some (some z,sz,bytes))(qG:z.cells.size=sz)(dI:0<sz)
 (YF:a.eval s=v)(afF:Addr)(m c:Nat)(news:List Value)(Wy:a.eval x= .slice (some afF) m c)(YJ:news.length=m*sz)(kz: ∀j u,news[j]? =some u->w.cell? (afF.add j)=some u)(h1:news.all (·.oneCell')=true)(qH:n+m<=maxLen)(gR:(n+m)*bytes<=140737488355328)
 (Z7: ∀v' w',aah w0 S w' A L->aaQ w0 w' A L e sz v' (n+m) (xs++news)->K (a.put o.dst v') w'):Oper.wp P o a w K Q:=by
 obtain⟨i,hi,aeN,lG,jt⟩:=info_parts cC;have te:=adS.on aaH U adu;have Yq:=aaH.back U;obtain⟨v',w',abk,aaV,ZV,Ya,afY⟩:=run_append_own_at (P:=P) w w0.heap.size t o.type e i z sz bytes afq hi aeN lG jt qG dI v n xs te.own afF m c news YJ kz (fun u hu=>List.all_eq_true.1 h1 u hu) qH gR Yq.size;unfold Oper.wp execOp;simp only[ZQ,resolve,invoke,builtin,Sem.run_bind,Sem.run_pure,Result.andThen_ok,b8,aS,ck,YF,Wy,abk];have VW:=Yq.grown ZV fun j aeD=>⟨(te.lt j aeD).1,te.fresh j aeD⟩
 refine Z7 v' w' VW ⟨aaV,fun j aeD=>?_⟩;exact qa
theorem j4(dj:o.guard=none)(s x:Operand)(t:TypeId)(ZQ:o.op= .call {callee:=.builtin .append,args:= #[s,x],argTypes:= #[t,t]})
 (z:Value)(bytes:Nat)(afq:P.underlying t=some (.slice e))(cC:(P.info? e).map (fun i=>(i.zero,i.size,i.bytes))=some (some z,sz,bytes))(qG:z.cells.size=sz)(dI:0<sz)
 (YF:a.eval s=v)(afF:Addr)(m c:Nat)(news:List Value)(Wy:a.eval x= .slice (some afF) m c)(YJ:news.length=m*sz)(kz: ∀j u,news[j]? =some u->w.cell? (afF.add j)=some u)(h1:news.all (·.oneCell')=true)(qH:n+m<=maxLen)(gR:(n+m)*bytes<=140737488355328)
 (Z7: ∀v' w',aah w0 S w' A L->aaQ w0 w' A L e sz v' (n+m) (xs++news)->wpList P ops Q rest (a.put o.dst v') w'):wpList P ops Q (o::rest) a w:=
 wpList_plain dj fun K k=>gG aaH U adS adu s x t ZQ z bytes afq cC qG dI YF afF m c news Wy YJ kz h1 qH gR fun v' w' h1 aaV=>k _ _ (Z7 v' w' h1 aaV)
end
section
variable(h:aah w0 S w A L)
include h
theorem aah.news{g:Nat}{t:TypeId}{cs:List Value}(hi:In L g t cs): ∀j u,cs[j]? =some u->w.cell? ((⟨g,0,none⟩:Addr).add j)=some u:=by
 intro j u hu;rw[iL,ax,(h.b hi).cell,aE];exact hu
theorem qI(t e:TypeId)(len:Nat)(parts:Array (Nat×Operand))(ZQ:o.op= .buildSlice t len parts)(ds:List Value)(z:Value)(sz bytes:Nat)
 (hu:P.underlying t=some (.slice e))(cC:(P.info? e).map (fun i=>(i.zero,i.size,i.bytes))=some (some z,sz,bytes))(BJ:len*sz<=2^24)(v7:0<len*sz)
 (acA:Instr.fill (fun i=>some (i*sz,sz)) ((Array.range (len*sz)).map (z.cells[· %z.cells.size]!)) (parts.map fun(i,x)=>(i,a.eval x)).toList=some ds.toArray)
 (Z7: ∀g w',aah w0 S w' A (⟨g,e,ds⟩::L)->w0.heap.size<=g->K (a.put o.dst (.slice (some ⟨g,0,none⟩) len len)) w'):Oper.wp P o a w K Q:=by
 obtain⟨i,hi,aeN,lG,jt⟩:=info_parts cC;subst lG;exact wp_buildSlice t e len parts ZQ ds.toArray i z hu hi aeN J J acA (Z7 _ _ (h.new e ds) h.size)
theorem ud(dj:o.guard=none)(t e:TypeId)(len:Nat)(parts:Array (Nat×Operand))(ZQ:o.op= .buildSlice t len parts)(ds:List Value)(z:Value)(sz bytes:Nat)
 (hu:P.underlying t=some (.slice e))(cC:(P.info? e).map (fun i=>(i.zero,i.size,i.bytes))=some (some z,sz,bytes))(BJ:len*sz<=2^24)(v7:0<len*sz)
 (acA:Instr.fill (fun i=>some (i*sz,sz)) ((Array.range (len*sz)).map (z.cells[· %z.cells.size]!)) (parts.map fun(i,x)=>(i,a.eval x)).toList=some ds.toArray)
 (Z7: ∀g w',aah w0 S w' A (⟨g,e,ds⟩::L)->w0.heap.size<=g->wpList P ops Q rest (a.put o.dst (.slice (some ⟨g,0,none⟩) len len)) w'):wpList P ops Q (o::rest) a w:=
 wpList_plain dj fun K k=>qI h t e len parts ZQ ds z sz bytes hu cC BJ v7 acA fun g w' s afj=>k _ _ (Z7 g w' s afj)
end
def bN(k:IntKind)(n:Nat)(f:Nat->Int):List Value:=(List.range n).map fun i=>.int k (f i)
theorem eG(k:IntKind)(n:Nat)(f:Nat->Int):(bN k n f).length=n:=by simp[bN]
theorem gX{k:IntKind}{n:Nat}{f:Nat->Int}{j:Nat}(h:j<n):(bN k n f)[j]? =some (.int k (f j)):=by
 unfold bN;rw[a3,a1 h];rfl
theorem yk{k:IntKind}{n:Nat}{f:Nat->Int}{j:Nat}{v:Int}(h:j<n):er (bN k n f) j [.int k v]=bN k n (upd f j v):=by
 have YJ:(bN k n f).length=n:=eG _ _ _;apply List.ext_getElem?;intro i;unfold er;rw[aJ];by_cases c:i<j
 ·rw[aA (by simp;omega),List.getElem?_take_of_lt c,gX J,gX J];unfold upd;rw[aB]
 ·rw[ay (by simp;omega)];simp only[List.length_take,YJ,Nat.min_eq_left (Nat.le_of_lt h)];by_cases d:i=j
  ·subst d;simp only[Nat.sub_self,List.singleton_append,List.getElem?_cons_zero];rw[gX h];unfold upd;rw[Z rfl]
  ·rw[List.singleton_append,show i-j=(i-j-1)+1 from J,cz,List.getElem?_drop];simp only[dh];by_cases q:i<n
   ·rw[show j+1+(i-j-1)=i from J,gX q,gX q];unfold upd;rw[Y d]
   ·rw[aV (by rw[YJ];omega),aV (by rw[eG];omega)]
theorem rc{k:IntKind}{n:Nat}{f g:Nat->Int}(h: ∀i,i<n->f i=g i):bN k n f=bN k n g:=by
 unfold bN;apply List.map_congr_left;intro i hi;rw[h i (List.mem_range.1 hi)]
theorem nG(k:IntKind)(n:Nat)(f:Nat->Int):(bN k n f).all (·.oneCell')=true:=by
 rw[List.all_eq_true];intro v hv;unfold bN at hv;obtain⟨i,_,rfl⟩:=List.mem_map.1 hv;rfl
theorem ue(k:IntKind)(n:Nat):madeCells #[.int k 0] n=(bN k n fun _=>0).toArray:=by
 unfold madeCells bN;apply Array.ext';simp;intro a _;rw[Nat.mod_one];rfl
section
variable(h:aah w0 S w A L)
include h
theorem g5(dj:o.guard=none)(l c:Operand)(t:TypeId)(ZQ:o.op=Op.makeSlice t l c)(e:TypeId)(k:IntKind)(bytes:Nat)(afq:P.underlying t=some (.slice e))
 (cC:(P.info? e).map (fun i=>(i.zero,i.size,i.bytes))=some (some (.int k 0),1,bytes))(n:Nat)(YJ:a.eval l= .int .i64 n)(XP:a.eval c= .int .i64 n)(abi:n<=65536)(jt:bytes<=8)
 (Z7: ∀g w',aah w0 S w' A (⟨g,e,bN k n fun _=>0⟩::L)->w0.heap.size<=g->wpList P ops Q rest (a.put o.dst (.slice (some ⟨g,0,none⟩) n n)) w'):wpList P ops Q (o::rest) a w:=by
 refine wpList_plain dj fun K k'=>?_;have hb:bytes*n<=281474976710656:=D (Nat.mul_le_mul jt abi) am;have nC:=run_make_row' (P:=P) t e (.int k 0) bytes afq cC rfl .i64 .i64 n hb J w;have aaV:=Z7 _ _ (h.new e (bN k n fun _=>0)) h.size;have ZV:=k' _ _ aaV;unfold Oper.wp execOp;simp only[ZQ,YJ,XP,Sem.run_bind,nC,ue];simpa [go_sem]using ZV
theorem vE(dj:o.guard=none)(Yn:TypeId)(x:Operand)(ZQ:o.op= .load Yn x)(g off:Nat)(Wy:a.eval x= .pointer (some ⟨g,off,none⟩)){t:TypeId}{k:IntKind}{n:Nat}{f:Nat->Int}(hi:In L g t (bN k n f))(abi:off<n)
 {d:TypeDesc}(hu:P.underlying Yn=some d)(abk:d.isRow=false)(Z7:wpList P ops Q rest (a.put o.dst (.int k (f off))) w):wpList P ops Q (o::rest) a w:=
 fm h dj Yn x ZQ g off Wy hi _ (gX abi) hu abk Z7
theorem mA(Yn:TypeId)(x y:Operand)(ZQ:o.op= .store Yn x y)(g off:Nat)(k:IntKind)(v:Int)(Wy:a.eval x= .pointer (some ⟨g,off,none⟩))(hy:dt a y=some (.int k v)){t:TypeId}{n:Nat}{f:Nat->Int}
 (XJ:aco L g t (bN k n f) (bN k n (upd f off v)) L')(abi:off<n)(hi:(P.info? Yn).map (·.size)=some 1)(Z7: ∀w',aah w0 S w' A L'->K (a.put o.dst undef) w'):Oper.wp P o a w K Q:=
 ev h Yn x y ZQ g off _ [.int k v] Wy hy rfl (by rw[yk abi];exact XJ) (by rw[eG];exact abi) hi rfl Z7
theorem uf(dj:o.guard=none)(Yn:TypeId)(x y:Operand)(ZQ:o.op= .store Yn x y)(g off:Nat)(k:IntKind)(v:Int)(Wy:a.eval x= .pointer (some ⟨g,off,none⟩))(hy:dt a y=some (.int k v)){t:TypeId}{n:Nat}{f:Nat->Int}
 (XJ:aco L g t (bN k n f) (bN k n (upd f off v)) L')(abi:off<n)(hi:(P.info? Yn).map (·.size)=some 1)(Z7: ∀w',aah w0 S w' A L'->wpList P ops Q rest (a.put o.dst undef) w'):wpList P ops Q (o::rest) a w:=
 wpList_plain dj fun K k'=>mA h Yn x y ZQ g off k v Wy hy XJ abi hi fun w' s=>k' _ _ (Z7 w' s)
end
theorem aaQ.yl{l:List Int}{x:Int}(h:aaQ w0 w A L e 1 v (l.length+1) (bx l.length 1 (hq l)++ [.int .i64 x])):cF w (fun b=>w0.heap.size<=b/\bq A L b) v (l++ [x]):=by
 have aal:bx (l.length+1) 1 (hq (l++ [x]))=bx l.length 1 (hq l)++ [.int .i64 x]:=by
  rw[jM (sz:=1) am rfl];congr 1
  ·refine qF am fun i hi=>?_;unfold hq;rw[ae,ae,aA hi]
  ·unfold hq;rw[ae,ay (ai _)];simp
 rw[<-aal]at h;have:=h.sl (F:=hq (l++ [x])) fun i _=>rfl;unfold cF;rw[ak];exact this
theorem Cw: ∀(ds:List Value) (k:Nat) (cs:List Value),k+ds.length<=cs.length->
 (ds.zipIdx k).foldl (fun(c:Array Value) (x:Value×Nat)=>c.setIfInBounds x.2 x.1) cs.toArray=(cs.take k++ds++cs.drop (k+ds.length)).toArray:=by
 intro ds;induction ds with
 |nil=>intro k cs h;simp
 |cons d ds aes=>
  intro k cs h;rw[List.zipIdx_cons,dy];simp only[List.setIfInBounds_toArray];rw[aes (k+1) (cs.set k d) (by simp at h⊢;omega)];congr 1;simp at h;have aal:(cs.set k d).take (k+1)=cs.take k++ [d]:=by
   rw[List.take_add_one,List.take_set_of_le (ai _),List.getElem?_set_self J];rfl
  rw[aal,List.drop_set_of_lt J];simp;congr 1;omega
theorem Cx(z v:Value)(sz:Nat)(ds:List Value)(hv:v.cells=ds.toArray)(YF:ds.length=sz):
 Instr.fill (fun i=>some (i*sz,sz)) ((Array.range (1*sz)).map (z.cells[· %z.cells.size]!)) [(0,v)]=some ds.toArray:=by
 have h1:((Array.range (1*sz)).map (z.cells[· %z.cells.size]!)).size=sz:=aN;unfold Instr.fill;simp only[Nat.zero_mul,hv,List.size_toArray,YF,ne_eq,not_true_eq_false,decide_false,Bool.false_or,ax,h1];rw[Y aN];unfold Instr.fill;obtain⟨cs,kA⟩: ∃cs:List Value,(Array.range (1*sz)).map (z.cells[· %z.cells.size]!)=cs.toArray:=⟨_,(Array.toArray_toList).symm⟩
 have YJ:cs.length=sz:=by rw[kA]at h1;simpa using h1
 rw[kA];have:=Cw ds 0 cs J;simp only[List.take_zero,au,ax]at this;rw[cl J,br]at this;rw[<-Array.foldl_toList];simp only[Array.toList_zipIdx];rw[this]
section
variable(h:aah w0 S w A L)
include h
theorem bK(t e:TypeId)(x:Operand)(ZQ:o.op= .buildSlice t 1 #[(0,x)])(v:Value)(ds:List Value)(Wy:dt a x=some v)(hv:v.cells=ds.toArray)(z:Value)(sz bytes:Nat)
 (hu:P.underlying t=some (.slice e))(cC:(P.info? e).map (fun i=>(i.zero,i.size,i.bytes))=some (some z,sz,bytes))(YF:ds.length=sz)(v7:0<sz)(dI:sz<=1000)
 (Z7: ∀g w',aah w0 S w' A (⟨g,e,ds⟩::L)->w0.heap.size<=g->K (a.put o.dst (.slice (some ⟨g,0,none⟩) 1 1)) w'):Oper.wp P o a w K Q:=
 qI h t e 1 _ ZQ ds z sz bytes hu cC J J (by simp only[b8,aS,ck,gF Wy];exact Cx z v sz ds hv YF) Z7
theorem dE(dj:o.guard=none)(t e:TypeId)(x:Operand)(ZQ:o.op= .buildSlice t 1 #[(0,x)])(v:Value)(ds:List Value)(Wy:dt a x=some v)(hv:v.cells=ds.toArray)(z:Value)(sz bytes:Nat)
 (hu:P.underlying t=some (.slice e))(cC:(P.info? e).map (fun i=>(i.zero,i.size,i.bytes))=some (some z,sz,bytes))(YF:ds.length=sz)(v7:0<sz)(dI:sz<=1000)
 (Z7: ∀g w',aah w0 S w' A (⟨g,e,ds⟩::L)->w0.heap.size<=g->wpList P ops Q rest (a.put o.dst (.slice (some ⟨g,0,none⟩) 1 1)) w'):wpList P ops Q (o::rest) a w:=
 wpList_plain dj fun K k=>bK h t e x ZQ v ds Wy hv z sz bytes hu cC YF v7 dI fun g w' s afj=>k _ _ (Z7 g w' s afj)
theorem mB(t e:TypeId)(x y:Operand)(ZQ:o.op= .buildSlice t 2 #[(0,x),(1,y)])(v u:Value)(Wy:dt a x=some v)(hy:dt a y=some u)(hv:v.cells= #[v])(Lw:u.cells= #[u])(z:Value)(bytes:Nat)
 (hu:P.underlying t=some (.slice e))(cC:(P.info? e).map (fun i=>(i.zero,i.size,i.bytes))=some (some z,1,bytes))
 (Z7: ∀g w',aah w0 S w' A (⟨g,e,[v,u]⟩::L)->w0.heap.size<=g->K (a.put o.dst (.slice (some ⟨g,0,none⟩) 2 2)) w'):Oper.wp P o a w K Q:=
 qI h t e 2 _ ZQ [v,u] z 1 bytes hu cC J J (by
  simp only[b8,aS,ck,gF Wy,gF hy]
  have abF:(Array.range 2).map (z.cells[· %z.cells.size]!)= #[z.cells[0 %z.cells.size]!,z.cells[1 %z.cells.size]!]:=by rw[show Array.range 2= #[0,1]from am,b8];rfl
  simp[Instr.fill,hv,Lw,abF]) Z7
theorem kB(dj:o.guard=none)(t e:TypeId)(x y:Operand)(ZQ:o.op= .buildSlice t 2 #[(0,x),(1,y)])(v u:Value)(Wy:dt a x=some v)(hy:dt a y=some u)(hv:v.cells= #[v])(Lw:u.cells= #[u])(z:Value)(bytes:Nat)
 (hu:P.underlying t=some (.slice e))(cC:(P.info? e).map (fun i=>(i.zero,i.size,i.bytes))=some (some z,1,bytes))
 (Z7: ∀g w',aah w0 S w' A (⟨g,e,[v,u]⟩::L)->w0.heap.size<=g->wpList P ops Q rest (a.put o.dst (.slice (some ⟨g,0,none⟩) 2 2)) w'):wpList P ops Q (o::rest) a w:=
 wpList_plain dj fun K k=>mB h t e x y ZQ v u Wy hy hv Lw z bytes hu cC fun g w' s afj=>k _ _ (Z7 g w' s afj)
end
theorem r9{k:IntKind}{n:Nat}{f:Nat->Int}{rest:List Value}{j:Nat}(h:j<n):(bN k n f++rest)[j]? =some (.int k (f j)):=by
 rw[aA (by rw[eG];exact h),gX h]
theorem Cy{k:IntKind}{n:Nat}{f:Nat->Int}{rest:List Value}{j:Nat}{v:Int}(h:j<n):er (bN k n f++rest) j [.int k v]=bN k n (upd f j v)++rest:=by
 have YJ:(bN k n f).length=n:=eG _ _ _;rw[<-yk h];unfold er;rw[cJ J,List.drop_append_of_le_length (by simp;omega)];simp
theorem Cz(h:aah w0 S w A L)(Yn:TypeId)(x:Operand)(ZQ:o.op= .load Yn x)(g off:Nat)(Wy:a.eval x= .pointer (some ⟨g,off,none⟩)){t:TypeId}{k:IntKind}{n:Nat}{f:Nat->Int}{aei:List Value}(hi:In L g t (bN k n f++aei))(abi:off<n)
 {d:TypeDesc}(hu:P.underlying Yn=some d)(abk:d.isRow=false)(Z7:K (a.put o.dst (.int k (f off))) w):Oper.wp P o a w K Q:=
 bU h Yn x ZQ g off Wy hi _ (r9 abi) hu abk Z7
theorem ug(h:aah w0 S w A L)(Yn:TypeId)(x y:Operand)(ZQ:o.op= .store Yn x y)(g off:Nat)(k:IntKind)(v:Int)(Wy:a.eval x= .pointer (some ⟨g,off,none⟩))(hy:dt a y=some (.int k v)){t:TypeId}{n:Nat}{f:Nat->Int}{aei:List Value}
 (XJ:aco L g t (bN k n f++aei) (bN k n (upd f off v)++aei) L')(abi:off<n)(hi:(P.info? Yn).map (·.size)=some 1)(Z7: ∀w',aah w0 S w' A L'->K (a.put o.dst undef) w'):Oper.wp P o a w K Q:=
 ev h Yn x y ZQ g off _ [.int k v] Wy hy rfl (by rw[Cy abi];exact XJ) (by rw[ak,eG];simp;omega) hi rfl Z7
theorem c0.RH{L:List abN}{g:Nat}{t:TypeId}{k:IntKind}{n:Nat}{f:Nat->Int}{aei:List Value}(hi:In L g t (bN k n f++aei)){x:Nat}(Wy:x<n): ∀w,c0 L w->w.cell? ⟨g,x,none⟩=some (.int k (f x)):=fun w h=>by
 rw[(h _ hi.mem).cell,aE];exact r9 Wy
theorem aah.bG(h:aah w0 S w A L){L2:List abN}(YF: ∀x,x∈L2->x∈L):c0 L2 w:=fun x Wy=>h.bC x (YF x Wy)
theorem aah.two{g Y6:Nat}{t t2:TypeId}{cs Ip:List Value}(hb:ah w g t cs.toArray)(be:ah w Y6 t2 Ip.toArray)(abi:g≠Y6):aah w (fun b=>b≠g/\b≠Y6) w none [⟨g,t,cs⟩,⟨Y6,t2,Ip⟩]:=by
 have YM:aah w (fun b=>b≠g/\b≠Y6) w none []:=aah.start (A:=none) _ w trivial fun a e=>(by cases e)
 have h1:=YM.jY be (je.nil _) (.inr fun k=>k.2 rfl) fun a e=>(by cases e)
 exact h1.jY hb ((je.nil _).cons (fun e=>abi e.symm)) (.inr fun k=>k.1 rfl) fun a e=>(by cases e)
theorem aah.Aj(h:aah w0 S w A L){g:Nat}{t:TypeId}{cs:List Value}(hi:In L g t cs)(n:Nat){k:IntKind}(f:Nat->Int)(XP: ∀i,i<n->cs[i]? =some (.int k (f i)))(abi:n<=maxLen):acr w (fun b=>b=g) (.slice (some ⟨g,0,none⟩) n n) n 1 (fun i=> [.int k (f i)]):=
 ⟨_,_,rfl,ai _,abi,fun _=>⟨g,0,rfl,rfl,(h.b hi).lt,fun i j u lF hu=>by
   have aeD:j=0:=by
    have:=(List.getElem?_eq_some_iff.1 hu).1;simp at this;omega
   subst aeD;simp at hu;rw[Nat.mul_one,cZ,ax,(h.b hi).cell,aE,XP i lF,hu]⟩⟩
theorem aaQ.nn{k:IntKind}{f:Nat->Int}{n:Nat}(h:aaQ w0 w A L e 1 v n (bN k n f))(U:aah w0 S w A L):v= .slice none 0 0/\n=0\/∃g cap aei,v= .slice (some ⟨g,0,none⟩) n cap/\n<=cap/\cap<=maxLen/\w0.heap.size<=g/\aah w0 S w A (⟨g,e,bN k n f++aei⟩::L):=by
 rcases h.own.2 with⟨rfl,rfl⟩|⟨g,cap,cS,rfl,h1,aaV,ZV,Ya,afY,XX⟩
 ·exact .inl ⟨rfl,rfl⟩
 ·refine .inr ⟨g,cap,cS.toList.drop n,rfl,ZV,Ya,h1,?_⟩;have aal:bN k n f++cS.toList.drop n=cS.toList:=by
   rw[Nat.mul_one]at XX;rw[<-XX];exact b9 _ _
  have acA:=h.fresh g rfl;refine U.jY (by rw[aal];exact aaV) acA.1.1 (.inl h1) fun a Xg=>⟨acA.2 a Xg,acA.1.2 a Xg⟩
theorem gY(aaH:aah w0 S aaM W9 L1)(U:aah aaM (bq W9 L1) w A L)(adS:aaQ w0 aaM W9 L1 e sz v n xs)(iR:v≠ .slice none 0 0)(adu:l1 A=l1 W9)(dj:o.guard=none)(s x:Operand)(t:TypeId)(ZQ:o.op= .call {callee:=.builtin .append,args:= #[s,x],argTypes:= #[t,t]})
 (z:Value)(bytes:Nat)(afq:P.underlying t=some (.slice e))(cC:(P.info? e).map (fun i=>(i.zero,i.size,i.bytes))=some (some z,sz,bytes))(qG:z.cells.size=sz)(dI:0<sz)
 (YF:a.eval s=v)(afF:Addr)(m c:Nat)(news:List Value)(Wy:a.eval x= .slice (some afF) m c)(YJ:news.length=m*sz)(kz: ∀j u,news[j]? =some u->w.cell? (afF.add j)=some u)(h1:news.all (·.oneCell')=true)(qH:n+m<=maxLen)(gR:(n+m)*bytes<=140737488355328)
 (Z7: ∀v' w',aah w0 S w' A L->aaQ w0 w' A L e sz v' (n+m) (xs++news)->v'≠ .slice none 0 0->wpList P ops Q rest (a.put o.dst v') w'):wpList P ops Q (o::rest) a w:=by
 refine wpList_plain dj fun K k=>?_;obtain⟨i,hi,aeN,lG,jt⟩:=info_parts cC;have te:=adS.on aaH U adu;have Yq:=aaH.back U;obtain⟨v',w',abk,aaV,ZV,Ya,afY⟩:=run_append_own_at (P:=P) w w0.heap.size t o.type e i z sz bytes afq hi aeN lG jt qG dI v n xs te.own afF m c news YJ kz (fun u hu=>List.all_eq_true.1 h1 u hu) qH gR Yq.size;unfold Oper.wp execOp;simp only[ZQ,resolve,invoke,builtin,Sem.run_bind,Sem.run_pure,Result.andThen_ok,b8,aS,ck,YF,Wy,abk];have VW:=Yq.grown ZV fun j aeD=>⟨(te.lt j aeD).1,te.fresh j aeD⟩
 refine k _ _ (Z7 v' w' VW ⟨aaV,fun j aeD=>?_⟩ fun hv=>iR (Ya.1 hv).1);exact qa
theorem hr(h:aah w0 S w A L)(dj:o.guard=none)(t e:TypeId)(ZQ:o.op= .buildSlice t 0 #[])(sz:Nat)(hu:P.underlying t=some (.slice e))(cC:(P.info? e).map (·.size)=some sz)
 (Z7: ∀g w',aah w0 S w' A L->aaQ w0 w' A L e sz (.slice (some ⟨g,0,none⟩) 0 0) 0 []->wpList P ops Q rest (a.put o.dst (.slice (some ⟨g,0,none⟩) 0 0)) w'):wpList P ops Q (o::rest) a w:=by
 refine wpList_plain dj fun K k=>?_;obtain⟨i,hi,YF⟩:=Option.map_eq_some_iff.1 cC;have hb:Below w.heap.size w (w.alloc (.cells #[] e)):=(Below.refl _ _).alloc (ai _) _;have aaV:=Z7 w.heap.size _ (h.below hb) (aaQ.made h hb (World.ownsRow_made w #[] 0 (ai _) (aL _) aN));have ZV:=k _ _ aaV;unfold Oper.wp execOp;simp only[ZQ,Instr.buildSlice];simpa [go_sem,run_underlying hu,sizeOf,typeInfo,hi,Instr.fill,newRow]using ZV
theorem aaQ.ym{k:IntKind}{f:Nat->Int}{n:Nat}(h:aaQ w0 w A L e 1 v n (bN k n f))(U:aah w0 S w A L)(abi:v≠ .slice none 0 0): ∃g cap aei,v= .slice (some ⟨g,0,none⟩) n cap/\n<=cap/\cap<=maxLen/\w0.heap.size<=g/\aah w0 S w A (⟨g,e,bN k n f++aei⟩::L):=by
 rcases h.nn U with⟨h1,_⟩|h1
 ·exact absurd h1 abi
 ·exact h1
theorem aah.RI(h:aah w0 S w A L){g:Nat}{t:TypeId}{k:IntKind}{n cap:Nat}{f:Nat->Int}{aei:List Value}(hi:In L g t (bN k n f++aei))(abi:n<=cap)(XP:cap<=maxLen):acr w (fun b=>b=g) (.slice (some ⟨g,0,none⟩) n cap) n 1 (fun i=> [.int k (f i)]):=
 ⟨_,_,rfl,abi,XP,fun _=>⟨g,0,rfl,rfl,(h.b hi).lt,fun i j u lF hu=>by
   have aeD:j=0:=by
    have:=(List.getElem?_eq_some_iff.1 hu).1;simp at this;omega
   subst aeD;simp at hu;rw[Nat.mul_one,cZ,ax,(h.b hi).cell,aE,r9 lF,hu]⟩⟩
theorem aah.swap{x y:abN}(h:aah w0 S w A (x::y::L)):aah w0 S w A (y::x::L):=
 h.drop (fun z aeN=>by simp only[ad]at aeN⊢;rcases aeN with h|h|h<;>simp[h]) (by
  have:=h.aed
  simp only[aS,bS,ad,not_or]at this⊢
  exact⟨⟨fun e=>this.1.1 e.symm,this.2.1⟩,this.1.2,this.2.2⟩)
theorem aah.wa{x y:abN}(h:aah w0 S w A (x::y::L)):x.g≠y.g:=by
 have:=h.aed;simp only[aS,bS,ad,not_or]at this;exact this.1.1
theorem aah.call2{g Y6:Nat}{t t2:TypeId}{cs cs' Ip EX:List Value}{L2:List abN}(h:aah w0 S w none L)(XJ:aco L g t cs cs' L1)(Lx:aco L1 Y6 t2 Ip EX L2)(abi:g≠Y6)(hb:ah w' g t cs'.toArray)(be:ah w' Y6 t2 EX.toArray)(ae3:Z1 (fun b=>b≠g/\b≠Y6) w w'):aah w0 S w' none L2:=by
 have w9:=XJ.gs;have Ok:=Lx.gs;have Ol:(L1.map abN.g).Nodup:=by rw[w9];exact h.aed
 have lH:=XJ.aB.mem;have Om:=h.fr _ lH;have On:=Lx.aB.mem;have key: ∀x,x∈L2->x=⟨Y6,t2,EX⟩\/x=⟨g,t,cs'⟩\/x∈L/\x.g≠g/\x.g≠Y6:=by
  intro x Wy;rcases Lx.mem Ol x Wy with e|⟨h1,aaV⟩
  ·exact .inl e
  ·rcases XJ.mem h.aed x h1 with e|⟨ZV,Ya⟩
   ·exact .inr (.inl e)
   ·exact .inr (.inr ⟨ZV,Ya,aaV⟩)
 have Oo:w0.heap.size<=Y6\/¬S Y6:=by
  rcases XJ.mem h.aed _ On with e|⟨h1,_⟩
  ·injection e with aal _ _
   exact absurd aal.symm abi
  ·exact h.fr _ h1
 refine⟨fun x Wy=>?_,by rw[Ok];exact Ol,fun x Wy=>?_,⟨ae3.os.trans h.Wu.os,ae3.tape.trans h.Wu.tape,ae3.output.trans h.Wu.output,D h.Wu.size ae3.size,fun b kr YF=>?_⟩,trivial,fun a e=>by cases e⟩
 ·rcases key x Wy with rfl|rfl|⟨h1,aaV,ZV⟩
  ·exact be
  ·exact hb
  ·exact(ae3.block x.g (h.bC x h1).lt ⟨aaV,ZV⟩).trans (h.bC x h1)
 ·rcases key x Wy with rfl|rfl|⟨h1,_,_⟩
  ·exact Oo
  ·exact Om
  ·exact h.fr x h1
 ·refine(ae3.block b (aj kr h.Wu.size) ⟨fun e=>?_,fun e=>?_⟩).trans (h.Wu.block b kr YF)
  ·subst e;rcases Om with ZV|ZV
   ·simp only at ZV;omega
   ·exact ZV YF
  ·subst e;rcases Oo with ZV|ZV
   ·omega
   ·exact ZV YF
theorem uh{k:IntKind}{l b o:Nat}{f:Nat->Int}(h: ∀j,j<l->w.cell? ⟨b,o+j,none⟩=some (.int k (f j))): ∀j u,(bN k l f)[j]? =some u->w.cell? ((⟨b,o,none⟩:Addr).add j)=some u:=fun j u hu=>by
 have aeD:j<l:=by have:=(List.getElem?_eq_some_iff.1 hu).1;rwa[eG]at this
 rw[gX aeD]at hu;injection hu with hu
 rw[iL,<-hu];exact h j aeD
theorem ju{P:Program}(w:World)(t Yn e:TypeId)(sz:Nat)(afq:P.underlying t=some (.slice e))(cC:(P.info? e).map (·.size)=some sz)(Um: ∀k,P.underlying t≠some (.int k))(B A:Option Addr)(n c c':Nat)(abi:n<=c):
 (Builtin.append_ #[t,t] Yn #[.slice B n c,.slice A 0 c']).run P w= .ok (.slice B n c) w:=by
 obtain⟨i,hi,YF⟩:=Option.map_eq_some_iff.1 cC;have Oq:(Builtin.firstCells i.size 0 (.slice A 0 c')).run P w= .ok #[] w:=by
  cases A with
  |none=>simp[Builtin.firstCells]
  |some a=>
   have YJ:=run_loadCells_list (P:=P) w a [] aN;simp at YJ;simp[Builtin.firstCells,YJ]
 cases B with
 |none=>simp[Builtin.append_,run_underlying afq,sizeOf,typeInfo,hi,Builtin.lenOf,Oq,abi]
 |some b=>simp[Builtin.append_,run_underlying afq,sizeOf,typeInfo,hi,Builtin.lenOf,Oq,abi,storeCells]
theorem gZ(aaH:aah w0 S aaM W9 L1)(U:aah aaM (bq W9 L1) w A L)(adS:aaQ w0 aaM W9 L1 e sz v n xs)(adu:l1 A=l1 W9)(dj:o.guard=none)(s x:Operand)(t:TypeId)(ZQ:o.op= .call {callee:=.builtin .append,args:= #[s,x],argTypes:= #[t,t]})
 (z:Value)(bytes:Nat)(afq:P.underlying t=some (.slice e))(cC:(P.info? e).map (fun i=>(i.zero,i.size,i.bytes))=some (some z,sz,bytes))(qG:z.cells.size=sz)(dI:0<sz)
 (YF:a.eval s=v)(B:Option Addr)(m c:Nat)(Wy:a.eval x= .slice B m c){S':Nat->Prop}{F:Nat->List Value}(gq:acr w S' (.slice B m c) m sz F)(hF:hl m sz F)(qH:n+m<=maxLen)(gR:(n+m)*bytes<=140737488355328)
 (Z7: ∀v' w',aah w0 S w' A L->aaQ w0 w' A L e sz v' (n+m) (xs++bx m sz F)->wpList P ops Q rest (a.put o.dst v') w'):wpList P ops Q (o::rest) a w:=by
 rcases aQ m with rfl|hm
 ·have te:=adS.on aaH U adu;have Yq:=aaH.back U;have abk: ∃B' xe,v= .slice B' n xe/\n<=xe:=by
   exact nF
  obtain⟨B',xe,rfl,abi⟩:=abk;have nC:=ju (P:=P) w t o.type e sz afq (by obtain⟨i,hi,VX⟩:=Option.map_eq_some_iff.1 cC;simp only[Prod.mk.injEq]at VX;rw[hi,bt,VX.2.1]) (fun k=>by rw[afq];simp) B' B n xe c abi;refine Lib.wpList_append_run w dj s x t t ZQ _ _ YF Wy _ _ nC (Z7 _ _ Yq ?_);have:bx 0 sz F= []:=by unfold bx;simp
  rw[this,br];exact te
 ·obtain⟨b,off,rfl,_,_,XP⟩:=gq.cells hm dI fun i hi=>(hF i hi).1;exact j4 aaH U adS adu dj s x t ZQ z bytes afq cC qG dI YF ⟨b,off,none⟩ m c (bx m sz F) Wy (cv _ _ _) XP (List.all_eq_true.2 fun u hu=>hF.flat dI u hu) qH gR Z7
theorem ui{m n sz:Nat}{F G H:Nat->List Value}(aeN:0<sz)(h1: ∀i,i<m->F i=H i)(aaV: ∀i,i<n->G i=H (m+i))(VW: ∀i,i<n->(G i).length=sz):bx m sz F++bx n sz G=bx (m+n) sz H:=by
 induction n with
 |zero=>
  have:bx 0 sz G= []:=by unfold bx;simp
  rw[this,br,cZ];exact qF aeN h1
 |succ n aes=>
  rw[jM aeN (VW n J),<-aJ,aes (fun i hi=>aaV i J) (fun i hi=>VW i J),<-Nat.add_assoc,jM aeN (by rw[<-aaV n J];exact VW n J),aaV n J]
end
section
variable{w0 aaM w w':World}{S T:Nat->Prop}{A W9:Option XS}{L L' L1:List abN}
theorem aah.kept(h:aah w0 S w A L)(k:Z1 T w w')(aen: ∀b,b<w.heap.size->¬T b->je L b/\(w0.heap.size<=b\/¬S b)/\∀a,A=some a->b≠a.p/\b≠a.g):aah w0 S w' A L:=by
 have aeA: ∀b,b<w.heap.size->(¬je L b\/(b<w0.heap.size/\S b)\/∃a,A=some a/\(b=a.p\/b=a.g))->w'.heap[b]? =w.heap[b]? :=fun b hb Wy=>by
  refine k.block b hb (Classical.byContradiction fun abi=>?_);obtain⟨h1,aaV,ZV⟩:=aen b hb abi;rcases Wy with Wy|⟨Wy,hy⟩|⟨a,e,Wy⟩
  ·exact Wy h1
  ·rcases aaV with aaV|aaV
   ·omega
   ·exact aaV hy
  ·have:=ZV a e;rcases Wy with Wy|Wy
   ·exact this.1 Wy
   ·exact this.2 Wy
 refine⟨fun x Wy=>?_,h.aed,h.fr,⟨k.os.trans h.Wu.os,k.tape.trans h.Wu.tape,k.output.trans h.Wu.output,D h.Wu.size k.size,fun b hb YF=>?_⟩,?_,h.WN⟩
 ·exact(aeA x.g (h.bC x Wy).lt (.inl fun c=>c x Wy rfl)).trans (h.bC x Wy)
 ·exact(aeA b (aj hb h.Wu.size) (.inr (.inl ⟨hb,YF⟩))).trans (h.Wu.block b hb YF)
 ·cases A with
  |none=>exact trivial
  |some a=>
   have YJ:=ar.c9 (w:=w) h.VB;exact ar.j3 h.VB (aeA a.p YJ.1 (.inr (.inr ⟨a,rfl,.inl rfl⟩))) (aeA a.g YJ.2.1 (.inr (.inr ⟨a,rfl,.inr rfl⟩)))
theorem aah.Ot(h:aah w0 (fun _=>True) w none L){p g n:Nat}{V:Nat->Int}(Xg:ar w0 p g n V)(hS: ¬S g):aah w0 S w (some ⟨p,g,n,V⟩) L:=by
 have YJ:=ar.c9 Xg;have hY: ∀x,x∈L->w0.heap.size<=x.g:=fun x Wy=>by
  rcases h.fr x Wy with c|c
  ·exact c
  ·exact absurd trivial c
 refine⟨h.bC,h.aed,fun x Wy=>.inl (hY x Wy),h.Wu.mono fun b _ _=>trivial,h.jZ Xg,fun a e=>?_⟩;cases e;exact⟨fun x Wy e=>by have:=hY x Wy;simp only at e;rw[e]at this;omega,fun x Wy e=>by have:=hY x Wy;simp only at e;rw[e]at this;omega,.inr hS⟩
theorem aah.weak(h:aah w0 (fun _=>True) w none L):aah w0 S w none L:=
 ⟨h.bC,h.aed,fun x Wy=>.inl (by
   rcases h.fr x Wy with c|c
   ·exact c
   ·exact absurd trivial c),h.Wu.mono fun b _ _=>trivial,trivial,fun a e=>by cases e⟩
end
section
open Go.RowKit
variable{w0 w w':World}{S:Nat->Prop}{L:List abN}{e:TypeId}{sz:Nat}
variable{P:Program}{o:Oper}{a:Act}{K:Act->World->Prop}{Q:Exit->Act->World->Prop}
section
variable{n:Nat}{v:Value}{xs:List Value}(h:aah w0 S w none L)(abk:w0.ownsRow 0 e sz v n xs)(hS: ∀j,v.ownBlock=some j->S j)
include n v xs h abk hS
theorem eX(s x:Operand)(t:TypeId)(ZQ:o.op= .call {callee:=.builtin .append,args:= #[s,x],argTypes:= #[t,t]})
 (z:Value)(bytes:Nat)(afq:P.underlying t=some (.slice e))(cC:(P.info? e).map (fun i=>(i.zero,i.size,i.bytes))=some (some z,sz,bytes))(qG:z.cells.size=sz)(dI:0<sz)
 (YF:a.eval s=v)(afF:Addr)(m c:Nat)(news:List Value)(Wy:a.eval x= .slice (some afF) m c)(YJ:news.length=m*sz)(hm:0<m)(kz: ∀j u,news[j]? =some u->w.cell? (afF.add j)=some u)(h1:news.all (·.oneCell')=true)(qH:n+m<=maxLen)(gR:(n+m)*bytes<=140737488355328)
 (Z7: ∀g' cW rest w',aah w0 (fun b=>S b/\v.ownBlock≠some b) w' none (⟨g',e,(xs++news)++rest⟩::L)->v.ownBlock=some g'\/w.heap.size<=g'->n+m<=cW/\cW<=maxLen/\((xs++news)++rest).length=cW*sz->K (a.put o.dst (.slice (some ⟨g',0,none⟩) (n+m) cW)) w'):Oper.wp P o a w K Q:=by
 obtain⟨i,hi,aeN,lG,jt⟩:=info_parts cC;have bV: ∀j,v.ownBlock=some j->j<w0.heap.size:=fun j aeD=>(abk.lt j aeD).2;have h2:w.ownsRow 0 e sz v n xs:=fT abk fun j aeD=>h.Wu.block j (bV j aeD) (hS j aeD);have dU: ∀y,y∈L->v.ownBlock≠some y.g:=fun y hy abF=>by
  rcases h.fr y hy with q|q
  ·have:=bV _ abF;omega
  ·exact q (hS _ abF)
 obtain⟨v',w',rd,aaV,ZV,Ya,afY⟩:=run_append_own_at (P:=P) w 0 t o.type e i z sz bytes afq hi aeN lG jt qG dI _ n xs h2 afF m c news YJ kz (fun u hu=>List.all_eq_true.1 h1 u hu) qH gR (aL _);unfold Oper.wp execOp;simp only[ZQ,resolve,invoke,builtin,Sem.run_bind,Sem.run_pure,Result.andThen_ok,b8,aS,ck,YF,Wy,rd];have ae3:Z1 (fun b=>v.ownBlock≠some b) w w':=⟨ZV.os,ZV.tape,ZV.output,ZV.size,fun b be kd=>ZV.block b be fun e=>kd e.symm⟩
 have acY:aah w0 (fun b=>S b/\v.ownBlock≠some b) w' none L:=by
  have BK: ∀x,x∈L->x.g<w.heap.size:=fun x Wy=>(h.bC x Wy).lt;refine⟨fun x Wy=>(ae3.block x.g (BK x Wy) (dU x Wy)).trans (h.bC x Wy),h.aed,fun x Wy=>?_,⟨ae3.os.trans h.Wu.os,ae3.tape.trans h.Wu.tape,ae3.output.trans h.Wu.output,D h.Wu.size ae3.size,fun b hb lg=>?_⟩,trivial,fun a e=>by cases e⟩
  ·rcases h.fr x Wy with q|q
   ·exact .inl q
   ·exact .inr fun c=>q c.1
  ·exact(ae3.block b (aj hb h.Wu.size) lg.2).trans (h.Wu.block b hb lg.1)
 rcases aaV.2 with⟨_,XX⟩|⟨g',cW,cS,rfl,_,XX,adH,Vy,adp,m4⟩
 ·omega
 ·have e8:v.ownBlock=some g'\/g'=w.heap.size:=by
   rcases afY with afY|afY
   ·left;rw[<-afY];rfl
   ·right;simpa [Value.ownBlock]using afY
  have aal:cS=((xs++news)++cS.toList.drop ((n+m)*sz)).toArray:=by rw[<-m4,b9]
  refine Z7 g' cW (cS.toList.drop ((n+m)*sz)) w' (acY.jY (by rw[<-aal];exact XX) ?_ ?_ fun a e=>by cases e) (e8.imp id fun e=>Nat.le_of_eq e.symm) ⟨adH,Vy,by rw[<-m4,b9,Array.length_toList];exact adp⟩
  ·rcases e8 with q|rfl
   ·exact fun y hy abF=>dU y hy (by rw[abF];exact q)
   ·exact h.nx (ai _)
  ·rcases e8 with q|rfl
   ·exact .inr fun c=>c.2 q
   ·exact .inl h.size
theorem g0{ops:Array Oper}{rest:List Oper}(dj:o.guard=none)(s x:Operand)(t:TypeId)(ZQ:o.op= .call {callee:=.builtin .append,args:= #[s,x],argTypes:= #[t,t]})
 (z:Value)(bytes:Nat)(afq:P.underlying t=some (.slice e))(cC:(P.info? e).map (fun i=>(i.zero,i.size,i.bytes))=some (some z,sz,bytes))(qG:z.cells.size=sz)(dI:0<sz)
 (YF:a.eval s=v)(afF:Addr)(m c:Nat)(news:List Value)(Wy:a.eval x= .slice (some afF) m c)(YJ:news.length=m*sz)(hm:0<m)(kz: ∀j u,news[j]? =some u->w.cell? (afF.add j)=some u)(h1:news.all (·.oneCell')=true)(qH:n+m<=maxLen)(gR:(n+m)*bytes<=140737488355328)
 (Z7: ∀g' cW aei w',aah w0 (fun b=>S b/\v.ownBlock≠some b) w' none (⟨g',e,(xs++news)++aei⟩::L)->v.ownBlock=some g'\/w.heap.size<=g'->n+m<=cW/\cW<=maxLen/\((xs++news)++aei).length=cW*sz->wpList P ops Q rest (a.put o.dst (.slice (some ⟨g',0,none⟩) (n+m) cW)) w'):wpList P ops Q (o::rest) a w:=
 wpList_plain dj fun K k=>eX h abk hS s x t ZQ z bytes afq cC qG dI YF afF m c news Wy YJ hm kz h1 qH gR fun g' cW aei w' q1 Xt ada=>k _ _ (Z7 g' cW aei w' q1 Xt ada)
end
theorem aah.j5{T:Nat->Prop}{aaM:World}{L1:List abN}(h:aah w0 S w none L1)(k:aah w (fun b=>bq none L1 b/\T b) aaM none L):aah w0 (fun b=>S b/\T b) aaM none L:=by
 have hY: ∀b,w.heap.size<=b\/¬(bq none L1 b/\T b)->w0.heap.size<=b\/¬(S b/\T b):=fun b hb=>by
  rcases hb with hb|hb
  ·exact .inl (D h.size hb)
  ·by_cases c:T b
   ·have: ∃x,x∈L1/\x.g=b:=by
     apply Classical.byContradiction;intro abi;exact hb ⟨⟨fun x Wy e=>abi ⟨x,Wy,e⟩,fun a e=>by cases e⟩,c⟩
    obtain⟨x,Wy,rfl⟩:=this;exact(h.fr x Wy).imp id fun q z=>q z.1
   ·exact .inr fun z=>c z.2
 refine⟨k.bC,k.aed,fun x Wy=>hY _ (k.fr x Wy),⟨k.Wu.os.trans h.Wu.os,k.Wu.tape.trans h.Wu.tape,k.Wu.output.trans h.Wu.output,D h.Wu.size k.Wu.size,fun b hb YF=>?_⟩,trivial,fun a e=>by cases e⟩;refine(k.Wu.block b (aj hb h.Wu.size) ?_).trans (h.Wu.block b hb YF.1);exact nv
theorem aah.keeps{w0 w:World}{S:Nat->Prop}{L:List abN}(h:aah w0 S w none L){j:Nat}(aeD:j<w0.heap.size)(YF:S j):bq none L j:=
 ⟨fun x Wy e=>by
   rcases h.fr x Wy with q|q
   ·omega
   ·rw[e]at q;exact q YF,fun a e=>by cases e⟩
end
section
open Go.RowKit
variable{w0 aaM w w':World}{S:Nat->Prop}{A A':Option XS}{L L' L1:List abN}
variable{P:Program}{o:Oper}{a a':Act}{K:Act->World->Prop}{Q:Exit->Act->World->Prop}{ops:Array Oper}{rest:List Oper}
variable{XC:Region.Mode}{abO:World->Prop}{cM i:Nat}{ls gn:Array Bool}{Wv:Oper}{is:List Nat}{Wb:List (List Nat)}
structure qJ(Wb:List (List Nat))(G:Prop):Prop where
 out:G
structure sa(Wb:List (List Nat))(G:Prop):Prop where
 out:G
theorem Ou{G:Prop}(h:sa Wb G):qJ ([]::Wb) G:=⟨h.out⟩
theorem Ov{G:Prop}(h:qJ Wb G):sa ([]::Wb) G:=⟨h.out⟩
theorem Ow{G:Prop}(h:G):qJ [] G:=⟨h⟩
theorem Ox{G:Prop}(h:G):sa [] G:=⟨h⟩
theorem Oy{Yn:TypeId}{z:Value}(h:(Tryz.prog.info? Yn).bind (·.zero)=some z:=by with_reducible first|exact jj|exact gg|exact tW|exact BI|exact ny|exact nz|exact yf|exact EQ|exact gW|exact r5|exact eK|exact r6|exact xc|exact nA|exact RJ|exact js|exact ER|exact nB|exact Ag|exact Ls|exact Lt|exact tX):(Tryz.prog.info? Yn).bind (·.zero)=some z:=h
theorem WG(h:aah w0 S w A L){n:Nat}{Yn:TypeId}{x:Operand}{g off:Nat}{t:TypeId}{cs ds:List Value}(Z7:wpList P ops Q rest a' w)(afl:Region.wanted o (yielded ops a.tmps)=true:=by rfl)
 (ZQ:o.op= .load Yn x:=by exact rfl)(aeN:ye P Yn n:=by exact Im)(Wy:a.eval x= .pointer (some ⟨g,off,none⟩):=by exact rfl)(hi:In L g t cs:=by exact ag)
 (hd:(cs.drop off).take n=ds:=by exact lT)(abi:ds.length=n:=by exact rfl)
 (Xg:a.put o.dst (.agg ds.toArray)=a':=by exact fa):wpList P ops Q (o::rest) a w:=by
 obtain⟨⟨d,hu,yn⟩,YF⟩:=aeN;exact wpList_step fun K k=>by rw[Z afl];exact r4 h Yn x ZQ g off n Wy hi ds hd hu yn (by rw[YF,abi]) (k _ _ (Xg▸Z7))
section
variable(h:qJ (is::Wb) (wpAnyH P XC ops Q abO cM gn a' w))
include h
theorem RK{Yn:TypeId}{x:Operand}{g off:Nat}{t:TypeId}{cs:List Value}{v:Value}(hi:ops[i]? =some Wv:=by exact rfl)(ZQ:Wv.op= .load Yn x:=by exact rfl)(YF:Region.noSelect ops=true:=by kernel_rfl)(acA:Region.free XC ops ls i=true:=by kernel_rfl)(abk:(Region.ready XC ops ls).contains i=true:=by kernel_rfl)(afl:Region.wanted Wv (yielded ops a.tmps)=true:=by rfl)
 (afq:(P.underlying Yn).map TypeDesc.isRow=some false:=by decide+kernel)(Wy:a.eval x= .pointer (some ⟨g,off,none⟩):=by exact rfl)(hb: ∀w,abO w->ah w g t cs.toArray:=by exact c0.at_ ag)(hv:cs[off]? =some v:=by rfl)(WO: ∀c a w,Q (.panic c) (a.put Wv.dst v) w->Q (.panic c) a w:=by first|exact fun _ _ _ h=>h|exact fun _ _ _ h=>dZ (fun t w=>results_none (by kernel_rfl) t _ w) _ _ _ _ _ h)(hS:abO w:=by assumption)
 (Xg:a.put Wv.dst v=a':=by exact et)(YJ:ls.setIfInBounds i true=gn:=by exact eu):qJ ((i::is)::Wb) (wpAnyH P XC ops Q abO (cM+1) ls a w):=
 ⟨RC i h.out hi YF acA abk afl ZQ afq Wy hb hv WO hS Xg YJ⟩
theorem RL{Yn:TypeId}{x:Operand}{g off:Nat}{v:Value}(hi:ops[i]? =some Wv:=by exact rfl)(ZQ:Wv.op= .load Yn x:=by exact rfl)(YF:Region.noSelect ops=true:=by kernel_rfl)(acA:Region.free XC ops ls i=true:=by kernel_rfl)(abk:(Region.ready XC ops ls).contains i=true:=by kernel_rfl)(afl:Region.wanted Wv (yielded ops a.tmps)=true:=by rfl)
 (afq:(P.underlying Yn).map TypeDesc.isRow=some false:=by decide+kernel)(Wy:a.eval x= .pointer (some ⟨g,off,none⟩):=by exact rfl)(XP: ∀w,abO w->w.cell? ⟨g,off,none⟩=some v:=by exact fun w h=>h)(WO: ∀c a w,Q (.panic c) (a.put Wv.dst v) w->Q (.panic c) a w:=by first|exact fun _ _ _ h=>h|exact fun _ _ _ h=>dZ (fun t w=>results_none (by kernel_rfl) t _ w) _ _ _ _ _ h)(hS:abO w:=by assumption)
 (Xg:a.put Wv.dst v=a':=by exact et)(YJ:ls.setIfInBounds i true=gn:=by exact eu):qJ ((i::is)::Wb) (wpAnyH P XC ops Q abO (cM+1) ls a w):=by
 cases hu:P.underlying Yn with
 |none=>simp[hu]at afq
 |some d=>exact⟨eE i hi (bl afl Yn x ZQ g off Wy v XP hu (by simpa [hu]using afq)) h.out YF acA abk WO hS Xg YJ⟩
theorem Oz{n:Nat}{Yn:TypeId}{x:Operand}{g off:Nat}{t:TypeId}{cs ds:List Value}(hi:ops[i]? =some Wv:=by exact rfl)(ZQ:Wv.op= .load Yn x:=by exact rfl)(aeN:ye P Yn n:=by exact Im)(YF:Region.noSelect ops=true:=by kernel_rfl)(acA:Region.free XC ops ls i=true:=by kernel_rfl)(abk:(Region.ready XC ops ls).contains i=true:=by kernel_rfl)(afl:Region.wanted Wv (yielded ops a.tmps)=true:=by rfl)
 (Wy:a.eval x= .pointer (some ⟨g,off,none⟩):=by exact rfl)(hb: ∀w,abO w->ah w g t cs.toArray:=by exact c0.at_ ag)
 (hd:(cs.drop off).take n=ds:=by exact lT)(abi:ds.length=n:=by exact rfl)(WO: ∀c a w,Q (.panic c) (a.put Wv.dst (.agg ds.toArray)) w->Q (.panic c) a w:=by first|exact fun _ _ _ h=>h|exact fun _ _ _ h=>dZ (fun t w=>results_none (by kernel_rfl) t _ w) _ _ _ _ _ h)(hS:abO w:=by assumption)
 (Xg:a.put Wv.dst (.agg ds.toArray)=a':=by exact et)(YJ:ls.setIfInBounds i true=gn:=by exact eu):qJ ((i::is)::Wb) (wpAnyH P XC ops Q abO (cM+1) ls a w):=by
 obtain⟨⟨d,hu,yn⟩,c5⟩:=aeN;exact⟨RD i n h.out hi YF acA abk afl ZQ (by rw[hu];simp[yn]) c5 Wy hb hd abi WO hS Xg YJ⟩
end
theorem OA{v:Value}(h:qJ (is::Wb) (wpAnyH P XC ops Q abO cM gn a' w))(hi:ops[i]? =some Wv:=by exact rfl)(afl:Region.wanted Wv (yielded ops a.tmps)=true:=by rfl)(YF:Region.noSelect ops=true:=by kernel_rfl)(acA:Region.free XC ops ls i=true:=by kernel_rfl)(abk:(Region.ready XC ops ls).contains i=true:=by kernel_rfl)
 (hy: ∀w,abO w->(execOp a.eval Wv).run P w= .ok (.value v) w:=by intro w Cp;(try dsimp only at Cp);go_simp;(try with_reducible rfl))(WO: ∀c a w,Q (.panic c) (a.put Wv.dst v) w->Q (.panic c) a w:=by first|exact fun _ _ _ h=>h|exact fun _ _ _ h=>dZ (fun t w=>results_none (by kernel_rfl) t _ w) _ _ _ _ _ h)(hS:abO w:=by assumption)
 (Xg:a.put Wv.dst v=a':=by exact et)(YJ:ls.setIfInBounds i true=gn:=by exact eu):qJ ((i::is)::Wb) (wpAnyH P XC ops Q abO (cM+1) ls a w):=
 ⟨Xh i h.out hi YF acA abk afl hy WO hS Xg YJ⟩
theorem OB(h:qJ (is::Wb) (wpAnyH P XC ops Q abO cM gn a' w))(hi:ops[i]? =some Wv:=by exact rfl)(afl:Region.wanted Wv (yielded ops a.tmps)=false:=by rfl)(YF:Region.noSelect ops=true:=by kernel_rfl)(acA:Region.free XC ops ls i=true:=by kernel_rfl)(abk:(Region.ready XC ops ls).contains i=true:=by kernel_rfl)
 (WO: ∀c a w,Q (.panic c) (a.put Wv.dst undef) w->Q (.panic c) a w:=by first|exact fun _ _ _ h=>h|exact fun _ _ _ h=>dZ (fun t w=>results_none (by kernel_rfl) t _ w) _ _ _ _ _ h)(hS:abO w:=by assumption)
 (Xg:a.put Wv.dst undef=a':=by exact et)(YJ:ls.setIfInBounds i true=gn:=by exact eu):qJ ((i::is)::Wb) (wpAnyH P XC ops Q abO (cM+1) ls a w):=
 ⟨afk i h.out hi YF acA abk afl WO hS Xg YJ⟩
section
variable(h:aah w0 S w A L){Yn:TypeId}
include h Yn
theorem OC{x y:Operand}{g off:Nat}{v:Value}{ds:List Value}{t:TypeId}{cs:List Value}{L0:List abN}(Z7: ∀w',aah w0 S w' A L'->abO w'->sa (is::Wb) (wpAnyH P XC ops Q abO cM gn a' w'))(hi:ops[i]? =some Wv:=by exact rfl)(ZQ:Wv.op= .store Yn x y:=by exact rfl)(abk:Region.ready XC ops ls= [i]:=by kernel_rfl)(afl:Region.wanted Wv (yielded ops a.tmps)=true:=by rfl)
 (Wy:a.eval x= .pointer (some ⟨g,off,none⟩):=by exact rfl)(hy:dt a y=some v:=by exact rfl)(hv:v.cells=ds.toArray:=by exact rfl)
 (XJ:aco L g t cs (er cs off ds) L0:=by exact cf)(aeJ:L0=L':=by exact qZ)
 (ed:off+ds.length<=cs.length:=by exact bQ rfl)(aeN:(P.info? Yn).map (·.size)=some ds.length:=by kernel_rfl)(h1:ds.all (·.oneCell')=true:=by first|rfl|(simp[*];done))
 (Xg:a.put Wv.dst undef=a':=by exact et)(YJ:ls.setIfInBounds i true=gn:=by exact eu)(keep: ∀w',aah w0 S w' A L'->abO w':=by intro w U;first|exact U.has|exact U.bG (by simp)|trivial|exact EY.out _ _ U):sa ((i::is)::Wb) (wpAnyH P XC ops Q abO (cM+1) ls a w):=
 ⟨wpAnyH_ready abk aN (.cons hi (fun K ae3=>aaU h (L0:=L0) (fun w' s=>ae3.out _ _ (keep w' s) fun YF=>by rw[Xg,YJ];exact(Z7 w' s YF).out) afl ZQ Wy hy hv XJ aeJ ed aeN h1) .nil)⟩
theorem OD{x:Operand}{v:Value}{ds:List Value}{a':Nat->Act}(Z7: ∀g w',aah w0 S w' A (⟨g,Yn,ds⟩::L)->w0.heap.size<=g->abO w'->sa (is::Wb) (wpAnyH P XC ops Q abO cM gn (a' g) w'))(hi:ops[i]? =some Wv:=by exact rfl)(ZQ:Wv.op= .box Yn x:=by exact rfl)(abk:Region.ready XC ops ls= [i]:=by kernel_rfl)(afl:Region.wanted Wv (yielded ops a.tmps)=true:=by rfl)
 (Wy:dt a x=some v:=by exact rfl)(hv:v.cells=ds.toArray:=by exact rfl)
 (Xg: ∀g,a.put Wv.dst (.pointer (some ⟨g,0,none⟩))=a' g:=by intro g;exact et)(YJ:ls.setIfInBounds i true=gn:=by exact eu)(keep: ∀g w',aah w0 S w' A (⟨g,Yn,ds⟩::L)->abO w':=by intro g w U;first|exact U.l0|exact U.bG (by simp)|trivial|exact EY.out _ _ U):sa ((i::is)::Wb) (wpAnyH P XC ops Q abO (cM+1) ls a w):=
 ⟨wpAnyH_ready abk aN (.cons hi (fun K ae3=>adV h Yn (fun g w' s afj=>ae3.out _ _ (keep g w' s) fun YF=>by rw[Xg,YJ];exact(Z7 g w' s afj YF).out) afl ZQ Wy hv) .nil)⟩
theorem OE{z:Value}{ds:List Value}{a':Nat->Act}(Z7: ∀g w',aah w0 S w' A (⟨g,Yn,ds⟩::L)->w0.heap.size<=g->abO w'->sa (is::Wb) (wpAnyH P XC ops Q abO cM gn (a' g) w'))(hi:ops[i]? =some Wv:=by exact rfl)(ZQ:Wv.op= .alloc Yn:=by exact rfl)(abk:Region.ready XC ops ls= [i]:=by kernel_rfl)(afl:Region.wanted Wv (yielded ops a.tmps)=true:=by rfl)
 (aeN:(P.info? Yn).bind (·.zero)=some z:=by exact Oy)(hv:z.cells=ds.toArray:=by exact rfl)
 (Xg: ∀g,a.put Wv.dst (.pointer (some ⟨g,0,none⟩))=a' g:=by intro g;exact et)(YJ:ls.setIfInBounds i true=gn:=by exact eu)(keep: ∀g w',aah w0 S w' A (⟨g,Yn,ds⟩::L)->abO w':=by intro g w U;first|exact U.l0|exact U.bG (by simp)|trivial|exact EY.out _ _ U):sa ((i::is)::Wb) (wpAnyH P XC ops Q abO (cM+1) ls a w):=
 ⟨wpAnyH_ready abk aN (.cons hi (fun K ae3=>ZZ h aeN (fun g w' s afj=>ae3.out _ _ (keep g w' s) fun YF=>by rw[Xg,YJ];exact(Z7 g w' s afj YF).out) afl ZQ hv) .nil)⟩
theorem OG{x:Operand}{g off:Nat}{t:TypeId}{cs:List Value}{v:Value}(Z7:sa (is::Wb) (wpAnyH P XC ops Q abO cM gn a' w))(hi:ops[i]? =some Wv:=by exact rfl)(ZQ:Wv.op= .load Yn x:=by exact rfl)(abk:Region.ready XC ops ls= [i]:=by kernel_rfl)(afl:Region.wanted Wv (yielded ops a.tmps)=true:=by rfl)
 (afq:(P.underlying Yn).map TypeDesc.isRow=some false:=by decide+kernel)(Wy:a.eval x= .pointer (some ⟨g,off,none⟩):=by exact rfl)(abi:In L g t cs:=by exact ag)(hv:cs[off]? =some v:=by rfl)(hS:abO w:=by assumption)
 (Xg:a.put Wv.dst v=a':=by exact et)(YJ:ls.setIfInBounds i true=gn:=by exact eu):sa ((i::is)::Wb) (wpAnyH P XC ops Q abO (cM+1) ls a w):=
 ⟨wpAnyH_ready abk aN (.cons hi (fun K ae3=>YL h (ae3.out _ _ hS fun YF=>by rw[Xg,YJ];exact Z7.out) afl ZQ afq Wy abi hv) .nil)⟩
end
theorem OH{v:Value}(Z7:sa (is::Wb) (wpAnyH P XC ops Q abO cM gn a' w))(hi:ops[i]? =some Wv:=by exact rfl)(abk:Region.ready XC ops ls= [i]:=by kernel_rfl)(afl:Region.wanted Wv (yielded ops a.tmps)=true:=by rfl)
 (hy:(execOp a.eval Wv).run P w= .ok (.value v) w:=by go_simp;(try with_reducible rfl))(hS:abO w:=by assumption)
 (Xg:a.put Wv.dst v=a':=by exact et)(YJ:ls.setIfInBounds i true=gn:=by exact eu):sa ((i::is)::Wb) (wpAnyH P XC ops Q abO (cM+1) ls a w):=
 ⟨wpAnyH_ready abk aN (.cons hi (fun K ae3=>by
   rw[Z afl]
   unfold Oper.wp
   rw[hy]
   exact ae3.out _ _ hS fun YF=>by rw[Xg,YJ];exact Z7.out) .nil)⟩
theorem Yt(h: ∀K:Act->World->Prop,Shut (∀a w,abO w->(abO w->wpAnyH P XC ops Q abO cM (ls.setIfInBounds i true) a w)->K a w)->Oper.wp P Wv a w K Q)(abk:Region.ready XC ops ls= [i]:=by first
 |(show _= [0];decide+kernel)|(show _= [1];decide+kernel)|(show _= [2];decide+kernel)|(show _= [3];decide+kernel)|(show _= [4];decide+kernel)|(show _= [5];decide+kernel)|(show _= [6];decide+kernel)|(show _= [7];decide+kernel)|(show _= [8];decide+kernel)|(show _= [9];decide+kernel)
 |(show _= [10];decide+kernel)|(show _= [11];decide+kernel)|(show _= [12];decide+kernel)|(show _= [13];decide+kernel)|(show _= [14];decide+kernel)|(show _= [15];decide+kernel)|(show _= [16];decide+kernel)|(show _= [17];decide+kernel)|(show _= [18];decide+kernel)|(show _= [19];decide+kernel)
 |(show _= [20];decide+kernel)|(show _= [21];decide+kernel)|(show _= [22];decide+kernel)|(show _= [23];decide+kernel)|(show _= [24];decide+kernel)|(show _= [25];decide+kernel)|(show _= [26];decide+kernel)|(show _= [27];decide+kernel)|(show _= [28];decide+kernel)|(show _= [29];decide+kernel)
 |(show _= [30];decide+kernel)|(show _= [31];decide+kernel)|(show _= [32];decide+kernel)|(show _= [33];decide+kernel)|(show _= [34];decide+kernel)|(show _= [35];decide+kernel)|(show _= [36];decide+kernel)|(show _= [37];decide+kernel)|(show _= [38];decide+kernel)|(show _= [39];decide+kernel))(hi:ops[i]? =some Wv:=by exact rfl)(afl:Region.wanted Wv (yielded ops a.tmps)=true:=by rfl):wpAnyH P XC ops Q abO (cM+1) ls a w:=
 wpAnyH_ready abk aN (.cons hi (fun K ae3=>by rw[Z afl];exact h K ae3) .nil)
theorem WE{X0:Act}(Z7:Shut (∀a w,abO w->(abO w->wpAnyH P XC ops Q abO cM ls a w)->K a w))(h:abO w->wpAnyH P XC ops Q abO cM gn a' w)(hS:abO w:=by first|exact U.has|exact U.bG (by simp)|trivial|exact EY.out _ _ U)
 (Xg:X0=a':=by exact et)(YJ:ls=gn:=by exact eu):K X0 w:=Z7.out _ _ hS fun YF=>by rw[Xg,YJ];exact h YF
theorem OI(h:Q .normal a w)(abk:Region.ready XC ops ls= []:=by decide+kernel):wpAnyH P XC ops Q abO cM ls a w:=wpAnyH_done abk h _
structure WV(p:Prop):Prop where
 out:p
theorem az(Wb:List (List Nat)){G G':Prop}(k:G')(h:WV G'->qJ Wb G:=by
 intro k;repeat(first
  |refine Ou ?_
  |refine Ov ?_
  |refine RK ?_|refine Oz ?_|refine OA ?_|refine OB ?_
  |(refine OC U ?_;(try clear X);(try clear U);intro acs U X)
  |(refine OD U ?_;(try clear X);(try clear U);intro Z9 acs U VW X)
  |(refine OE U ?_;(try clear X);(try clear U);intro Z9 acs U VW X)
  |(refine OG U ?_)|(refine OH ?_))
 first|refine Ow ?_|refine Ox ?_
 (try refine OI ?_)
 (try clear X)
 (try revert acs)
 (repeat revert Z9)
 exact k.out):G:=(h ⟨k⟩).out
theorem RM(Wb:List (List Nat)){G G':Prop}(k:G')(h:WV G'->qJ Wb G:=by
 intro k;repeat(first
  |refine Ou ?_
  |refine Ov ?_
  |refine RL ?_|refine Oz ?_|refine OA ?_|refine OB ?_
  |(refine OC U ?_;(try clear X);(try clear U);intro acs U X)
  |(refine OD U ?_;(try clear X);(try clear U);intro Z9 acs U VW X)
  |(refine OE U ?_;(try clear X);(try clear U);intro Z9 acs U VW X)
  |(refine OG U ?_)|(refine OH ?_))
 first|refine Ow ?_|refine Ox ?_
 (try refine OI ?_)
 (try clear X)
 (try revert acs)
 (repeat revert Z9)
 exact k.out):G:=(h ⟨k⟩).out
end
section
open Go.RowKit Tryz
variable{w0 aaM w w':World}{S:Nat->Prop}{A A':Option XS}{L L' L1:List abN}
variable{P:Program}{o:Oper}{a a':Act}{K:Act->World->Prop}{Q:Exit->Act->World->Prop}{ops:Array Oper}{rest:List Oper}
variable{XC:Region.Mode}{abO:World->Prop}{cM i:Nat}{ls gn:Array Bool}{Wv:Oper}{is:List Nat}{Wb:List (List Nat)}
theorem aq{G G':Prop}(k:G')(h:WV G'->G:=by
 intro k;first|(refine aaO U ?_;exact k.out)|(refine Ww U ?_;exact k.out)|(refine afV U ?_;exact k.out)):G:=h ⟨k⟩
theorem RN{p q:World->Prop}(h: ∀(g:Nat) (w':World),p w'->0<=g->q w'): ∀w',p w'->q w':=fun w' aeJ=>h 0 w' aeJ (ai _)
theorem RO(h:aah w0 S w A L){Yn:TypeId}{z:Value}{ds:List Value}{a':Nat->Act}(Z7: ∀g w',aah w0 S w' A (⟨g,Yn,ds⟩::L)->w0.heap.size<=g->wpList prog ops Q rest (a' g) w')
 (dj:o.guard=none:=by exact rfl)(ZQ:o.op= .alloc Yn:=by exact rfl)(aeN:(Tryz.prog.info? Yn).bind (·.zero)=some z:=by exact Oy)(hv:z.cells=ds.toArray:=by exact rfl)
 (Xg: ∀g,a.put o.dst (.pointer (some ⟨g,0,none⟩))=a' g:=by intro g;exact fa):wpList prog ops Q (o::rest) a w:=VP h aeN Z7 dj ZQ hv Xg
theorem aT{G G':Prop}(k:G')(h:WV G'->G:=by
 intro k;first|(refine ac2 U ?_;refine RN ?_;exact k.out)|(refine Ws U _ ?_;exact k.out)|(refine RO U ?_;exact k.out)):G:=h ⟨k⟩
theorem cN{G G':Prop}(k:G')(h:WV G'->G:=by
 intro k
 (try simp only[Act.put,List.setIfInBounds_toArray,List.set_cons_zero,List.set_cons_succ])
 exact k.out):G:=h ⟨k⟩
theorem fY{G G':Prop}(k:G')(h:WV G'->G:=by
 intro k;first|(refine bodyPost_end (results_none (by kernel_rfl) _ _ _) rfl ?_;exact k.out)|(refine bodyPost_ret (results_none (by kernel_rfl) _ _ _) rfl ?_;exact k.out)):G:=h ⟨k⟩
theorem a6(h:aah w0 S w A L){f:FuncId}{args:Array Value}{r:Ending}{R:Ending->World->Prop}(c:Calls P f args w fun e w'=>e=r/\Below w.heap.size w w')(k: ∀w',aah w0 S w' A L->R r w'):Calls P f args w R:=
 c.mono fun _ w' hb=>by obtain⟨rfl,hb⟩:=hb;exact k w' (h.below hb)
theorem g1{b v:Bool}(H:Hid (b=v)){G G':Prop}(k:G')(h:WV G'->b=v->G:=by
 intro k abo;refine fm U rfl 4 _ rfl _ _ rfl ag (.bool _) (dz (fun b=>some (Value.bool b)) abo) underlying4 rfl ?_
 (try simp only[Act.put,List.setIfInBounds_toArray,List.set_cons_zero,List.set_cons_succ])
 exact k.out):G:=h ⟨k⟩ H.out
theorem eW{w:World}{S:Nat->Prop}{r:aax}{x:Yr}(h:aW w S r x): ∃W9 adX aeQ acN acG aeb af3 ZM,x=⟨.slice W9 r.chain.length adX,.slice aeQ r.list.length acN,.slice acG r.said.length aeb,.slice af3 r.aC.said.length ZM⟩:=by
 obtain⟨W9,adX,aal,-,-,-⟩:=id h.ads;obtain⟨aeQ,acN,abF,-,-,-⟩:=id h.ls;obtain⟨acG,aeb,acL,-,-,-⟩:=id h.Wh;obtain⟨af3,ZM,acS,-,-,-⟩:=id h.Y1;obtain⟨ads,ls,Wh,Y1⟩:=x;simp only at aal abF acL acS;subst aal abF acL acS;exact⟨_,_,_,_,_,_,_,_,rfl⟩
theorem b0{G G':Prop}(k:G')(h:WV G'->G:=by
 intro k;refine wp_region_held_drew (by kernel_rfl) U.has ?_;exact k.out):G:=h ⟨k⟩
theorem aF(i:Nat)(h: ∀K:Act->World->Prop,Shut (∀a w,abO w->(abO w->wpAnyH P XC ops Q abO cM (ls.setIfInBounds i true) a w)->K a w)->if Region.wanted o (yielded ops a.tmps)=true then Oper.wp P o a w K Q else K (a.put o.dst undef) w)(abk:Region.ready XC ops ls= [i]:=by kernel_rfl)(ZQ:ops[i]? =some o:=by exact rfl):wpAnyH P XC ops Q abO (cM+1) ls a w:=
 Zj [i] (ei h ZQ) abk
end
section
open Go.RowKit Tryz
def jQ(l:List jc)(i:Nat):List Value:=match l[i]? with
 |some o=> [.int .u8 o.op,.int .i64 o.a,.int .i64 o.b]
 |none=> [.int .u8 0,.int .i64 0,.int .i64 0]
theorem pQ(l:List jc)(n:Nat):hl n 3 (jQ l):=by
 intro i _;unfold jQ;cases l[i]? with
 |none=>exact⟨rfl,fun u hu=>by simp at hu;rcases hu with rfl|rfl|rfl<;>rfl⟩
 |some e=>exact⟨rfl,fun u hu=>by simp at hu;rcases hu with rfl|rfl|rfl<;>rfl⟩
abbrev LQ(w:World)(S:Nat->Prop)(v:Value)(l:List jc):Prop:=acr w S v l.length 3 (jQ l)
structure eF(w:World)(S:Nat->Prop)(v:Value)(F:b1)(Vs:Nat->Value):Prop where
 row:acr w S v F.length 1 fun i=> [Vs i]
 each: ∀i l,F[i]? =some l->LQ w S (Vs i) l
section
variable{w w':World}{S:Nat->Prop}{v:Value}{F:b1}{Vs:Nat->Value}(h:eF w S v F Vs)
include w w' S v F Vs h
theorem eF.Wu(k:Z1 S w w'):eF w' S v F Vs:=⟨h.row.Wu k,fun i l YJ=>(h.each i l YJ).Wu k⟩
theorem eF.below(k:Below w.heap.size w w'):eF w' S v F Vs:=h.Wu (Z1.cg k)
end
theorem eF.mono{w:World}{S S':Nat->Prop}{v:Value}{F:b1}{Vs:Nat->Value}(h:eF w S v F Vs)(YF: ∀b,b<w.heap.size->S b->S' b):eF w S' v F Vs:=⟨h.row.mono YF,fun i l YJ=>(h.each i l YJ).mono YF⟩
theorem Fh(w:World)(S:Nat->Prop)(v:Value)(F:b1)(Vs:Nat->Value)(t:Int)(h:eF w S v F Vs)(hF:F.length<=8)(afq:0<=t/\t<=7):
 Calls prog 289 #[v,.int .i64 t] w fun e w'=> ∃A c,e= .returned (.slice A (bY F t.toNat).length c)/\LQ w S (.slice A (bY F t.toNat).length c) (bY F t.toNat)/\w=w':=by
 obtain⟨A,c,rfl,h1,aaV,ZV⟩:=id h.row;have H:=I h;clear h h1 aaV;obtain⟨k,rfl⟩: ∃k:Nat,t=k:=⟨t.toNat,J⟩
 unfold bY;rw[bL];by_cases WJ:k<F.length
 ·obtain⟨b,off,rfl,YF,hb,XP⟩:=ZV J;have c3:w.cell? ⟨b,off+k,none⟩=some (Vs k):=by simpa using XP k 0 (Vs k) WJ rfl
  have V1:=H.out.each k (F.getD k []) (by rw[ae,an WJ];rfl);obtain⟨A',c',aal,_,_,_⟩:=id V1;have Yl:=I V1;clear V1 ZV XP;rw[aal]at c3 Yl;clear aal;generalize YJ:F.length=m at*;clear YJ;go_enter func289,ntmps289;go_wp2_with(first|(go_at_call 104;refine Calls.mono (bm _ _ _ _ J J) ?_;rintro e aaM ⟨rfl,rfl⟩));go_ret;exact⟨_,_,rfl,Yl.out,rfl⟩
 ·have Wx:F.getD k []= []:=by rw[ae,aV J];rfl
  rw[Wx];generalize YJ:F.length=m at*;clear YJ ZV Wx;go_enter func289,ntmps289;go_wp2_with(first|(go_at_call 104;refine Calls.mono (fq _ _ _ _ J) ?_;rintro e aaM ⟨rfl,rfl⟩));go_ret;exact⟨_,_,rfl,acr.nil _ _ _ _,rfl⟩
end
section
open Go.RowKit Tryz
theorem a9.ok{p:afy}(h:a9 p):kf p.s p.t p.i p.h:=by
 have:=h.s;have:=h.t;have:=h.i;have:=h.h;unfold kf;omega
theorem iX(p:afy)(q k:Int)(w:World)(aeJ:a9 p)(VX:0<=q/\q<=4)(ae3:0<=k/\k<p.s):
 Calls prog 155 #[ej p,.int .i64 q,.int .i64 k] w fun x w'=>x= .returned (.tuple #[.int .i64 (64*k+8*q),.int .i64 0])/\Below w.heap.size w w':=by
 refine Calls.mono (KI p.s p.t p.i p.h q k w (I aeJ.ok) aeJ.s VX ae3) ?_;rintro e w' ⟨rfl,hb⟩;exact⟨by rw[show k*64+q*8=64*k+8*q from J],hb⟩
theorem jF(w0:World)(p:afy)(ap WC n:Nat)(V:Nat->Int)(k:Int)(Xg:ar w0 ap WC n V)(aeJ:a9 p)(ae3:0<=k/\k<p.s)(abi:8*p.s<=n)(ok:okW (V (8*k.toNat))):
 Calls prog 154 #[ej p,.pointer (some ⟨ap,0,none⟩),.int .i64 k] w0 fun x w'=>x= .returned (.tuple #[hf (Wi V k.toNat),.int .i64 0])/\Below w0.heap.size w0 w':=by
 have U:=aah.a0 w0;have Zn:=I Xg;have Wy:=Xg.aas (8*k.toNat) J;have acq:=I ok;have ip:8*k.toNat<n:=J;clear Xg ok;unfold Wi;obtain⟨c,Wj⟩: ∃c,Hid (up (V (8*k.toNat))=c):=⟨_,I rfl⟩
 rw[Wj.out];go_enter func154,ntmps154;go_wp2_with(first|(go_at_call 155;refine a6 U (iX p _ _ _ aeJ J ae3) ?_;clear U;intro aaM U)|(go_at_call 176;refine Calls.mono (eL _ _ _ n V _ (8*k.toNat) (U.jZ Zn.out) J ip) ?_;rintro e aaM ⟨rfl,rfl⟩)|(go_at_call 239;refine a6 U (gQ _ _ acq.out Wy) ?_;clear U;intro aaM U;rw[Wj.out])|(refine aq ?_)|(refine aT ?_;clear U;intro X8 w U aay));refine aZ results154 rfl rfl ⟨_,U.b ag,rfl⟩ underlying56 rfl aM ?_;exact⟨rfl,U.all⟩
end
section
open Go.RowKit Tryz
theorem JC(w0:World):Calls prog 362 #[.slice none 0 0,.int .i64 0] w0 fun e w'=>e= .returned (.slice none 0 0)/\Below w0.heap.size w0 w':=by
 go_enter func362,ntmps362;go_wp2_with fail;go_ret;exact⟨rfl,Below.refl _ _⟩
theorem JD(w0:World)(n:Nat)(abi:0<n)(kd:n<=1000000):Calls prog 362 #[.slice none 0 0,.int .i64 n] w0 fun e w'=> ∃v,e= .returned v/\w'.ownsRow w0.heap.size 3 1 v 0 []/\v≠ .slice none 0 0/\Below w0.heap.size w0 w':=by
 obtain⟨i,hi,aeN,lG,jt⟩:=info_parts b6;have abk:=Lib.run_append_nil_zeros (P:=prog) w0 30 3 30 3 i (.int .i64 0) .i64 .i64 bg underlying3 hi aeN n abi J J (by rw[jt];omega);have vF:=grownCap_ge w0 n 0 3;have h0:=grownCap_le_maxLen w0 n 0 3 (by unfold maxLen;omega);have aby:=I abk;have h1:(0:Int)<(n:Int):=J;have d1:decide ((n:Int)<0)=false:=aN;have aaq:=I vF;have WS:=I h0;clear abk vF h0;go_enter func362,ntmps362;go_wp2_with(at_builtin;refine Lib.wpList_append_run _ rfl _ _ _ _ rfl _ _ rfl rfl _ _ aby.out ?_);go_ret;refine⟨_,rfl,⟨aN,.inr ⟨w0.heap.size,_,_,rfl,ai _,heap_alloc_new w0.drew _,aL _,WS.out,?_,aN⟩⟩,aN,?_⟩
 ·have:=aaq.out;simp only[Array.size_append,size_zeroCells];show n*1+(_-n)*1=_*1;omega
 ·exact((Below.refl _ _).drew).alloc (ai _) _
theorem JE(w0:World)(n:Nat)(x:Int)(Wy:x=n)(kd:n<=1000000):Calls prog 362 #[.slice none 0 0,.int .i64 x] w0 fun e w'=> ∃v,e= .returned v/\w'.ownsRow w0.heap.size 3 1 v 0 []/\Below w0.heap.size w0 w':=by
 subst Wy;rcases aQ n with rfl|h
 ·exact(JC w0).mono fun e w' h=>⟨_,h.1,World.ownsRow_nil _ _ _ _,h.2⟩
 ·exact(JD w0 n h kd).mono fun e w' h=>by
   obtain⟨v,h1,aaV,_,ZV⟩:=h;exact⟨v,h1,aaV,ZV⟩
theorem sJ(w0:World)(S:Nat->Prop)(abD:Nat)(W9 aeQ:Option Addr)(WJ adr:Nat)(adf Ze:List Int)(hb:ah w0 abD 30 ([.slice W9 adf.length WJ,.slice aeQ Ze.length adr]:List Value).toArray)(h1:cF w0 S (.slice W9 adf.length WJ) adf)(aaV:cF w0 S (.slice aeQ Ze.length adr) Ze)(afj: ¬S abD)(adX:adf.length<=65536)(acN:Ze.length<=65536):
 Calls prog 354 #[.slice (some ⟨abD,0,none⟩) 2 2] w0 fun e w'=> ∃A k,e= .returned (.slice A (adf++Ze).length k)/\cF w' (fun b=>w0.heap.size<=b) (.slice A (adf++Ze).length k) (adf++Ze)/\Below w0.heap.size w0 w':=by
 have U:=aah.g8 hb;have aaE:=I h1;have ZN:=I aaV;have aaq:=I (show∀b,b<w0.heap.size->S b->b≠abD from fun b _ YF e=>afj (e▸YF));obtain⟨abX,aej⟩: ∃abX,Hid (adf.length=abX):=⟨_,I rfl⟩
 obtain⟨V3,afZ⟩: ∃V3,Hid (Ze.length=V3):=⟨_,I rfl⟩
 have WF:=I (show acr w0 S (.slice W9 abX WJ) abX 1 (hq adf) by have:=aaE.out;unfold cF at this;rw[aej.out]at this;exact this);have acn:=I (show acr w0 S (.slice aeQ V3 adr) V3 1 (hq Ze) by have:=ZN.out;unfold cF at this;rw[afZ.out]at this;exact this);have aav:=I (show ah w0 abD 30 ([.slice W9 abX WJ,.slice aeQ V3 adr]:List Value).toArray by rw[<-aej.out,<-afZ.out];exact hb);rw[ak,aej.out,afZ.out];rw[aej.out]at adX U;rw[afZ.out]at acN U;have aa1:(0:Int)<=(abX:Int):=J;have agb:(0:Int)<=(V3:Int):=J;have abj:(abX:Int)<=65536:=J;have afD:(V3:Int)<=65536:=J;clear h1 aaV hb aaE ZN afj;go_enter func354,ntmps354;go_wp2_with(first|(refine aaO U ?_));refine wp_loop_rounds 3 ?_;rw[rounds_succ];go_wp2_with(first|(refine aaO U ?_));rw[rounds_succ];go_wp2_with(first|(refine aaO U ?_));rw[rounds_succ];go_wp2_with(first|(go_at_call 362;refine Calls.mono (JE _ (abX+V3) _ aN J) ?_;rintro e aaM ⟨v,rfl,own,N⟩;have adS:=aaQ.made U N own;have aaH:=U.below N;clear U own N;have U:=aaH.base)|first|(refine aaO U ?_));refine wp_loop_rounds 3 ?_;rw[rounds_succ];go_wp2_with(first|(refine gZ aaH U adS rfl rfl _ _ 30 rfl (.int .i64 0) 8 bg b6 rfl am rfl _ _ _ rfl (WF.out.Wu ((aaH.back U).Wu.mono aaq.out)) (gp _ _) (by unfold maxLen;omega) J ?_;clear U aaH adS;intro v w U adS;have aaH:=U;clear U;have U:=aaH.base;refine cN ?_)|(refine gZ aaH U adS rfl rfl _ _ 30 rfl (.int .i64 0) 8 bg b6 rfl am rfl _ _ _ rfl (acn.out.Wu ((aaH.back U).Wu.mono aaq.out)) (gp _ _) (by unfold maxLen;omega) J ?_;clear U aaH adS;intro v w U adS;have aaH:=U;clear U;have U:=aaH.base;refine cN ?_)|first|(refine aaO U ?_));rw[rounds_succ];go_wp2_with(first|(refine gZ aaH U adS rfl rfl _ _ 30 rfl (.int .i64 0) 8 bg b6 rfl am rfl _ _ _ rfl (acn.out.Wu ((aaH.back U).Wu.mono aaq.out)) (gp _ _) (by unfold maxLen;omega) J ?_;clear U aaH adS;intro v w U adS;have aaH:=U;clear U;have U:=aaH.base;refine cN ?_)|first|(refine aaO U ?_));rw[rounds_succ];go_wp2_with(first|(refine aaO U ?_));go_ret;rw[ax,au,ui (sz:=1) (H:=hq (adf++Ze)) am (fun i hi=>by unfold hq;rw[ae,ae,aA (by rw[aej.out];exact hi)]) (fun i hi=>by unfold hq;rw[ae,ae,ay (by rw[aej.out];omega),aej.out,Nat.add_sub_cancel_left]) (fun i _=>rfl)]at adS;obtain⟨A,k,rfl⟩:=adS.form;have hv:=adS.sl fun i _=>rfl;have c4:=aaH.back U;refine⟨A,k,rfl,?_,c4.ro aav.out ag⟩;unfold cF;rw[ak,aej.out,afZ.out];exact hv.mono fun b _ h=>h.1
end
end Go.Proofs.YtcimojgkeoecfaaGreat
