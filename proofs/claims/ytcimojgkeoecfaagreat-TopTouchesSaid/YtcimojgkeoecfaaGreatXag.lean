import Derived.Test.YtcimojgkeoecfaaGreatXaf
import Derived.Deep.RegionHeld3
set_option linter.all false
set_option maxHeartbeats 16000000
set_option maxRecDepth 100000
namespace Go.Proofs.YtcimojgkeoecfaaGreat
open Go.RowKit
section
variable{P:Program}
include P
theorem tI(w:World)(g off:Nat)(t Yn:TypeId)(old cells:Array Value)(v:Value)(hv:v.cells=cells)(afj:w.heap[g]? =some (.cells old t (0,0)))(hi:(P.info? Yn).map (·.size)=some cells.size)
 (ZQ:off+cells.size<=old.size)(h1:cells.all (·.oneCell')=true):
 (storeVar Yn ⟨g,off,none⟩ v).run P w= .ok () (w.setRow g (hT old off cells)):=by
 subst hv;have:=run_storeCells_at P g off t v.cells.toList 0 old w afj (by simpa using ZQ) (fun u hu=>(Array.all_eq_true_iff_forall_mem.1 h1) u (by simpa using hu));cases VX:P.info? Yn with
 |none=>simp[VX]at hi
 |some i=>
  have YF:v.cells.size=i.size:=by simp[VX]at hi;omega
  simp[storeVar,sizeOf,typeInfo,VX,YF,this,hT]
section
variable{o:Oper}{a:Act}{w:World}{K:Act->World->Prop}{Q:Exit->Act->World->Prop}(Yn:TypeId)
include o a w K Q Yn
theorem tJ(x y:Operand)(ZQ:o.op= .store Yn x y)
 (g off:Nat)(v:Value)(ds:Array Value)(Wy:a.eval x= .pointer (some ⟨g,off,none⟩))(hy:a.eval y=v)(hv:v.cells=ds)
 {t:TypeId}{cs:Array Value}(hb:ah w g t cs)(cs':Array Value)(aeJ:hT cs off ds=cs')(ed:off+ds.size<=cs.size)(hi:(P.info? Yn).map (·.size)=some ds.size)(h1:ds.all (·.oneCell')=true)
 (h: ∀w',ah w' g t cs'->ce w.heap.size g w w'->w'.heap.size=w.heap.size->K (a.put o.dst undef) w'):Oper.wp P o a w K Q:=by
 subst aeJ;unfold Oper.wp execOp;simp only[ZQ,Wy,hy,Instr.storeAt,Instr.sureAddr,Sem.run_bind,Sem.run_pure,Result.andThen_ok,tI w g off t Yn cs ds v hv hb hi ed h1];exact h _ (setRow_heap w g cs _ t _ hb) ⟨rfl,rfl,rfl,by simp[World.setRow],fun k ae3 abi=>setRow_other w g k _ abi⟩ (by simp[World.setRow])
theorem Cd(x:Operand)(ZQ:o.op= .load Yn x)
 (g off:Nat)(Wy:a.eval x= .pointer (some ⟨g,off,none⟩)){t:TypeId}{cs:Array Value}(hb:ah w g t cs)(ds:Array Value)(hd: ∀j v,ds[j]? =some v->cs[off+j]? =some v)
 {d:TypeDesc}(hu:P.underlying Yn=some d)(abk:d.isRow=true)(hi:(P.info? Yn).map (·.size)=some ds.size)
 (h:K (a.put o.dst (.agg ds)) w):Oper.wp P o a w K Q:=
 wp_load_mid Yn x ZQ g off Wy ds.toList d (fun j v hv=>(hb.cell (off+j)).trans (hd j v (by simpa using hv))) hu abk (by simpa using hi) (by simpa using h)
end
theorem vx{ops:Array Oper}{S:World->Prop}{op:Oper}{a:Act}(afl:Region.wanted op (yielded ops a.tmps)=true)(Yn:TypeId)(x:Operand)(ZQ:op.op= .load Yn x)
 (g off:Nat)(Wy:a.eval x= .pointer (some ⟨g,off,none⟩)){t:TypeId}{cs:Array Value}(hb: ∀w,S w->ah w g t cs)(ds:Array Value)(hd: ∀j v,ds[j]? =some v->cs[off+j]? =some v)
 {d:TypeDesc}(hu:P.underlying Yn=some d)(abk:d.isRow=true)(hi:(P.info? Yn).map (·.size)=some ds.size):YieldsIf P ops S op (.agg ds) a:=by
 have:=yieldsIf_load_mid (P:=P) (S:=S) afl Yn x ZQ g off Wy ds.toList d (fun w afl j v hv=>((hb w afl).cell (off+j)).trans (hd j v (by simpa using hv))) hu abk (by simpa using hi);simpa using this
end
end Go.Proofs.YtcimojgkeoecfaaGreat
