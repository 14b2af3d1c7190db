import Derived.Test.YtcimojgkeoecfaaGreatXae
import Derived.Deep.MidRow
set_option linter.all false
set_option maxHeartbeats 16000000
set_option maxRecDepth 100000
namespace Go.Proofs.YtcimojgkeoecfaaGreat
open Go.RowKit
def hT(cs:Array Value)(off:Nat)(ds:Array Value):Array Value:=(cs.toList.take off++ds.toList++cs.toList.drop (off+ds.toList.length)).toArray
theorem vw{P:Program}{ops:Array Oper}{rest:List Oper}{o:Oper}{a:Act}{w:World}{Q:Exit->Act->World->Prop}(dj:o.guard=none)(Yn:TypeId)(x:Operand)(ZQ:o.op= .load Yn x)
 (g off:Nat)(Wy:a.eval x= .pointer (some ⟨g,off,none⟩)){t:TypeId}{cs:Array Value}(hb:ah w g t cs)(ds:Array Value)(hd: ∀j v,ds[j]? =some v->cs[off+j]? =some v)
 {d:TypeDesc}(hu:P.underlying Yn=some d)(abk:d.isRow=true)(hi:(P.info? Yn).map (·.size)=some ds.size)
 (h:wpList P ops Q rest (a.put o.dst (.agg ds)) w):wpList P ops Q (o::rest) a w:=
 wpList_load_mid dj Yn x ZQ g off Wy ds.toList d (fun j v hv=>(hb.cell (off+j)).trans (hd j v (by simpa using hv))) hu abk (by simpa using hi) (by simpa using h)
theorem tH{P:Program}(w:World)(g off:Nat)(t Yn:TypeId)(old cells:Array Value)(afj:w.heap[g]? =some (.cells old t (0,0)))(hi:(P.info? Yn).map (·.size)=some cells.size)
 (ZQ:off+cells.size<=old.size)(h1:cells.all (·.oneCell')=true):
 (storeVar Yn ⟨g,off,none⟩ (.agg cells)).run P w= .ok () (w.setRow g (hT old off cells)):=by
 have:=run_storeCells_at P g off t cells.toList 0 old w afj (by simpa using ZQ) (fun v hv=>(Array.all_eq_true_iff_forall_mem.1 h1) v (by simpa using hv));cases VX:P.info? Yn with
 |none=>simp[VX]at hi
 |some i=>
  have YF:cells.size=i.size:=by simp[VX]at hi;omega
  simp[storeVar,sizeOf,typeInfo,VX,Value.cells,YF,this,hT]
theorem nf{P:Program}{ops:Array Oper}{rest:List Oper}{o:Oper}{a:Act}{w:World}{Q:Exit->Act->World->Prop}(dj:o.guard=none)(Yn:TypeId)(x y:Operand)(ZQ:o.op= .store Yn x y)
 (g off:Nat)(ds:Array Value)(Wy:a.eval x= .pointer (some ⟨g,off,none⟩))(hy:a.eval y= .agg ds)
 {t:TypeId}{cs:Array Value}(hb:ah w g t cs)(cs':Array Value)(aeJ:hT cs off ds=cs')(ed:off+ds.size<=cs.size)(hi:(P.info? Yn).map (·.size)=some ds.size)(h1:ds.all (·.oneCell')=true)
 (h: ∀w',ah w' g t cs'->ce w.heap.size g w w'->w'.heap.size=w.heap.size->wpList P ops Q rest (a.put o.dst undef) w'):wpList P ops Q (o::rest) a w:=by
 subst aeJ;refine wpList_plain dj fun K Z7=>?_;unfold Oper.wp execOp;simp only[ZQ,Wy,hy,Instr.storeAt,Instr.sureAddr,Sem.run_bind,Sem.run_pure,Result.andThen_ok,tH w g off t Yn cs ds hb hi ed h1];refine Z7 _ _ (h _ (setRow_heap w g cs _ t _ hb) ⟨rfl,rfl,rfl,by simp[World.setRow],fun k ae3 abi=>setRow_other w g k _ abi⟩ (by simp[World.setRow]))
theorem Li{cs ds:Array Value}{off:Nat}(h:cs.toList.drop off=ds.toList++cs.toList.drop (off+ds.size)): ∀j v,ds[j]? =some v->cs[off+j]? =some v:=by
 intro j v aeD;have bV:j<ds.toList.length:=by simpa using(Array.getElem?_eq_some_iff.1 aeD).1
 rw[<-Array.getElem?_toList,<-List.getElem?_drop,h,aA bV,Array.getElem?_toList];exact aeD
end Go.Proofs.YtcimojgkeoecfaaGreat
