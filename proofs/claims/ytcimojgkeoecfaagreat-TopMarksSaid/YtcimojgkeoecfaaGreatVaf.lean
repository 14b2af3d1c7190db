import Derived.Test.YtcimojgkeoecfaaGreatVae
import Derived.Deep.MidRow
set_option linter.all false
set_option maxHeartbeats 16000000
set_option maxRecDepth 100000
namespace Go.Proofs.YtcimojgkeoecfaaGreat
open Go.RowKit
def hT(cs:Array Value)(off:Nat)(ds:Array Value):Array Value:=(cs.toList.take off++ds.toList++cs.toList.drop (off+ds.toList.length)).toArray
theorem aby{P:Program}{ops:Array Oper}{rest:List Oper}{o:Oper}{a:Act}{w:World}{Q:Exit->Act->World->Prop}(i:o.guard=none)(b:TypeId)(x:Operand)(f:o.op= .load b x)
 (g off:Nat)(e:a.eval x= .pointer (some ⟨g,off,none⟩)){t:TypeId}{cs:Array Value}(hb:ah w g t cs)(ds:Array Value)(hd: ∀j v,ds[j]? =some v->cs[off+j]? =some v)
 {d:TypeDesc}(hu:P.underlying b=some d)(c:d.isRow=true)(hi:(P.info? b).map (·.size)=some ds.size)
 (h:wpList P ops Q rest (a.put o.dst (.agg ds)) w):wpList P ops Q (o::rest) a w:=
 wpList_load_mid i b x f g off e ds.toList d (fun j v hv=>(hb.cell (off+j)).trans (hd j v (by simpa using hv))) hu c (by simpa using hi) (by simpa using h)
theorem ab0{P:Program}(w:World)(g off:Nat)(t b:TypeId)(old cells:Array Value)(c:w.heap[g]? =some (.cells old t (0,0)))(hi:(P.info? b).map (·.size)=some cells.size)
 (e:off+cells.size<=old.size)(h1:cells.all (·.oneCell')=true):
 (storeVar b ⟨g,off,none⟩ (.agg cells)).run P w= .ok () (w.setRow g (hT old off cells)):=by
 have:=run_storeCells_at P g off t cells.toList 0 old w c (by simpa using e) (fun v hv=>(Array.all_eq_true_iff_forall_mem.1 h1) v (by simpa using hv));cases a:P.info? b with
 |none=>simp[a]at hi
 |some i=>
  have d:cells.size=i.size:=by simp[a]at hi;omega
  simp[storeVar,sizeOf,typeInfo,a,Value.cells,d,this,hT]
theorem nf{P:Program}{ops:Array Oper}{rest:List Oper}{o:Oper}{a:Act}{w:World}{Q:Exit->Act->World->Prop}(j:o.guard=none)(b:TypeId)(x y:Operand)(i:o.op= .store b x y)
 (g off:Nat)(ds:Array Value)(e:a.eval x= .pointer (some ⟨g,off,none⟩))(hy:a.eval y= .agg ds)
 {t:TypeId}{cs:Array Value}(hb:ah w g t cs)(cs':Array Value)(d:hT cs off ds=cs')(l:off+ds.size<=cs.size)(hi:(P.info? b).map (·.size)=some ds.size)(h1:ds.all (·.oneCell')=true)
 (h: ∀w',ah w' g t cs'->ce w.heap.size g w w'->w'.heap.size=w.heap.size->wpList P ops Q rest (a.put o.dst undef) w'):wpList P ops Q (o::rest) a w:=by
 subst d;refine wpList_plain j fun K f=>?_;unfold Oper.wp execOp;simp only[i,e,hy,Instr.storeAt,Instr.sureAddr,Sem.run_bind,Sem.run_pure,Result.andThen_ok,ab0 w g off t b cs ds hb hi l h1];refine f _ _ (h _ (setRow_heap w g cs _ t _ hb) ⟨rfl,rfl,rfl,by simp[World.setRow],fun k m c=>setRow_other w g k _ c⟩ (by simp[World.setRow]))
theorem Li{cs ds:Array Value}{off:Nat}(h:cs.toList.drop off=ds.toList++cs.toList.drop (off+ds.size)): ∀j v,ds[j]? =some v->cs[off+j]? =some v:=by
 intro j v a;have b:j<ds.toList.length:=by simpa using(Array.getElem?_eq_some_iff.1 a).1
 rw[<-Array.getElem?_toList,<-List.getElem?_drop,h,aA b,Array.getElem?_toList];exact a
end Go.Proofs.YtcimojgkeoecfaaGreat
