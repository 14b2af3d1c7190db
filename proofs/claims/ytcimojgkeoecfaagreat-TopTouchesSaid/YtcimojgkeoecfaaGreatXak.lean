import Derived.Test.YtcimojgkeoecfaaGreatXae
import Derived.Laws.CopyOwn
set_option linter.all false
set_option maxHeartbeats 16000000
set_option maxRecDepth 100000
namespace Go.Proofs.YtcimojgkeoecfaaGreat
open Go.RowKit
section
variable{P:Program}(w:World)
include P w
theorem nt(Xk YC Yn jL:TypeId)(g o dLen dCap:Nat)(a:Addr)(Kz EM sz m:Nat)(cS:Array Value)(t:TypeId)(cs:List Value)
 (hu:P.underlying Xk=some (.slice jL))(YF:(P.info? jL).map (·.size)=some sz)
 (afj:w.heap[g]? =some (.cells cS t (0,0)))(hm:m=Nat.min Kz dLen)(abi:cs.length=m*sz)
 (EN: ∀j v,cs[j]? =some v->w.cell? (a.add j)=some v)(ed:o+cs.length<=cS.size)(h1: ∀v∈cs,v.oneCell'=true):
 (Builtin.copy_ #[Xk,YC] Yn #[.slice (some ⟨g,o,none⟩) dLen dCap,.slice (some a) Kz EM]).run P w=
   .ok (goInt m) (w.setRow g (cS.toList.take o++cs++cS.toList.drop (o+cs.length)).toArray):=by
 have YJ:=run_loadCells_list (P:=P) w a cs EN;have cx:=run_storeCells_at P g o t cs 0 cS w afj (by simpa using ed) h1;rw[abi]at YJ;cases VX:P.info? jL with
 |none=>simp[VX]at YF
 |some i=>
  have hi:i.size=sz:=by simpa [VX]using YF
  simp[Builtin.copy_,run_underlying hu,Builtin.lenOf,Builtin.firstCells,sizeOf,typeInfo,VX,hi,<-hm,YJ,cx]
theorem mV(Xk YC Yn jL:TypeId)(g o dLen dCap:Nat)(A:Option Addr)(EM sz:Nat)
 (hu:P.underlying Xk=some (.slice jL))(YF:(P.info? jL).map (·.size)=some sz):
 (Builtin.copy_ #[Xk,YC] Yn #[.slice (some ⟨g,o,none⟩) dLen dCap,.slice A 0 EM]).run P w= .ok (goInt 0) w:=by
 cases VX:P.info? jL with
 |none=>simp[VX]at YF
 |some i=>
  have hi:i.size=sz:=by simpa [VX]using YF
  cases A with
  |none=>simp[Builtin.copy_,run_underlying hu,Builtin.lenOf,Builtin.firstCells,sizeOf,typeInfo,VX,hi,storeCells]
  |some a=>
   have YJ:=run_loadCells_list (P:=P) w a [] aN;simp at YJ;simp[Builtin.copy_,run_underlying hu,Builtin.lenOf,Builtin.firstCells,sizeOf,typeInfo,VX,hi,storeCells,YJ]
theorem r2{ops:Array Oper}{rest:List Oper}{o:Oper}{a:Act}{Q:Exit->Act->World->Prop}(dj:o.guard=none)(d s:Operand)(t t':TypeId)
 (ZQ:o.op= .call {callee:=.builtin .copy,args:= #[d,s],argTypes:= #[t,t']})(v u:Value)(hd:a.eval d=v)(YF:a.eval s=u){v':Value}{w':World}
 (abk:(Builtin.copy_ #[t,t'] o.type #[v,u]).run P w= .ok v' w')(h:wpList P ops Q rest (a.put o.dst v') w'):wpList P ops Q (o::rest) a w:=by
 refine wpList_plain dj fun K Z7=>?_;unfold Oper.wp execOp;simp only[ZQ,resolve,invoke,builtin,Sem.run_bind,Sem.run_pure,Result.andThen_ok,b8,aS,ck,hd,YF,abk];exact Z7 _ _ h
end
theorem x8{w:World}{g:Nat}{cS cs:Array Value}{t:TypeId}(h:w.heap[g]? =some (.cells cS t (0,0))):(w.setRow g cs).heap[g]? =some (.cells cs t (0,0)):=setRow_heap w g _ _ t _ h
end Go.Proofs.YtcimojgkeoecfaaGreat
