import Derived.Test.YtcimojgkeoecfaaGreatVae
import Derived.Laws.CopyOwn
set_option linter.all false
set_option maxHeartbeats 16000000
set_option maxRecDepth 100000
namespace Go.Proofs.YtcimojgkeoecfaaGreat
open Go.RowKit
section
variable{P:Program}(w:World)
include P w
theorem nt(k r s d:TypeId)(g o dLen dCap:Nat)(a:Addr)(h p sz m:Nat)(b:Array Value)(t:TypeId)(cs:List Value)
 (hu:P.underlying k=some (.slice d))(l:(P.info? d).map (·.size)=some sz)
 (f:w.heap[g]? =some (.cells b t (0,0)))(hm:m=Nat.min h dLen)(e:cs.length=m*sz)
 (q: ∀j v,cs[j]? =some v->w.cell? (a.add j)=some v)(x:o+cs.length<=b.size)(h1: ∀v∈cs,v.oneCell'=true):
 (Builtin.copy_ #[k,r] s #[.slice (some ⟨g,o,none⟩) dLen dCap,.slice (some a) h p]).run P w=
   .ok (goInt m) (w.setRow g (b.toList.take o++cs++b.toList.drop (o+cs.length)).toArray):=by
 have n:=run_loadCells_list (P:=P) w a cs q;have u:=run_storeCells_at P g o t cs 0 b w f (by simpa using x) h1;rw[e]at n;cases c:P.info? d with
 |none=>simp[c]at l
 |some i=>
  have hi:i.size=sz:=by simpa [c]using l
  simp[Builtin.copy_,run_underlying hu,Builtin.lenOf,Builtin.firstCells,sizeOf,typeInfo,c,hi,<-hm,n,u]
theorem mV(d j k c:TypeId)(g o dLen dCap:Nat)(A:Option Addr)(h sz:Nat)
 (hu:P.underlying d=some (.slice c))(e:(P.info? c).map (·.size)=some sz):
 (Builtin.copy_ #[d,j] k #[.slice (some ⟨g,o,none⟩) dLen dCap,.slice A 0 h]).run P w= .ok (goInt 0) w:=by
 cases b:P.info? c with
 |none=>simp[b]at e
 |some i=>
  have hi:i.size=sz:=by simpa [b]using e
  cases A with
  |none=>simp[Builtin.copy_,run_underlying hu,Builtin.lenOf,Builtin.firstCells,sizeOf,typeInfo,b,hi,storeCells]
  |some a=>
   have f:=run_loadCells_list (P:=P) w a [] aN;simp at f;simp[Builtin.copy_,run_underlying hu,Builtin.lenOf,Builtin.firstCells,sizeOf,typeInfo,b,hi,storeCells,f]
theorem aax{ops:Array Oper}{rest:List Oper}{o:Oper}{a:Act}{Q:Exit->Act->World->Prop}(g:o.guard=none)(d s:Operand)(t t':TypeId)
 (f:o.op= .call {callee:=.builtin .copy,args:= #[d,s],argTypes:= #[t,t']})(v u:Value)(hd:a.eval d=v)(c:a.eval s=u){v':Value}{w':World}
 (b:(Builtin.copy_ #[t,t'] o.type #[v,u]).run P w= .ok v' w')(h:wpList P ops Q rest (a.put o.dst v') w'):wpList P ops Q (o::rest) a w:=by
 refine wpList_plain g fun K e=>?_;unfold Oper.wp execOp;simp only[f,resolve,invoke,builtin,Sem.run_bind,Sem.run_pure,Result.andThen_ok,b8,aS,ck,hd,c,b];exact e _ _ h
end
theorem acG{w:World}{g:Nat}{a cs:Array Value}{t:TypeId}(h:w.heap[g]? =some (.cells a t (0,0))):(w.setRow g cs).heap[g]? =some (.cells cs t (0,0)):=setRow_heap w g _ _ t _ h
end Go.Proofs.YtcimojgkeoecfaaGreat
