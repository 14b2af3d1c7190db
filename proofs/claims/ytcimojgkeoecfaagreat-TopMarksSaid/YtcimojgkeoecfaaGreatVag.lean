import Derived.Test.YtcimojgkeoecfaaGreatVaf
import Derived.Deep.RegionHeld3
set_option linter.all false
set_option maxHeartbeats 16000000
set_option maxRecDepth 100000
namespace Go.Proofs.YtcimojgkeoecfaaGreat
open Go.RowKit
section
variable{P:Program}
include P
theorem ab1(w:World)(g off:Nat)(t b:TypeId)(old cells:Array Value)(v:Value)(hv:v.cells=cells)(c:w.heap[g]? =some (.cells old t (0,0)))(hi:(P.info? b).map (·.size)=some cells.size)
 (e:off+cells.size<=old.size)(h1:cells.all (·.oneCell')=true):
 (storeVar b ⟨g,off,none⟩ v).run P w= .ok () (w.setRow g (hT old off cells)):=by
 subst hv;have:=run_storeCells_at P g off t v.cells.toList 0 old w c (by simpa using e) (fun u hu=>(Array.all_eq_true_iff_forall_mem.1 h1) u (by simpa using hu));cases a:P.info? b with
 |none=>simp[a]at hi
 |some i=>
  have d:v.cells.size=i.size:=by simp[a]at hi;omega
  simp[storeVar,sizeOf,typeInfo,a,d,this,hT]
section
variable{o:Oper}{a:Act}{w:World}{K:Act->World->Prop}{Q:Exit->Act->World->Prop}(b:TypeId)
include o a w K Q b
theorem tJ(x y:Operand)(f:o.op= .store b x y)
 (g off:Nat)(v:Value)(ds:Array Value)(e:a.eval x= .pointer (some ⟨g,off,none⟩))(hy:a.eval y=v)(hv:v.cells=ds)
 {t:TypeId}{cs:Array Value}(hb:ah w g t cs)(cs':Array Value)(d:hT cs off ds=cs')(i:off+ds.size<=cs.size)(hi:(P.info? b).map (·.size)=some ds.size)(h1:ds.all (·.oneCell')=true)
 (h: ∀w',ah w' g t cs'->ce w.heap.size g w w'->w'.heap.size=w.heap.size->K (a.put o.dst undef) w'):Oper.wp P o a w K Q:=by
 subst d;unfold Oper.wp execOp;simp only[f,e,hy,Instr.storeAt,Instr.sureAddr,Sem.run_bind,Sem.run_pure,Result.andThen_ok,ab1 w g off t b cs ds v hv hb hi i h1];exact h _ (setRow_heap w g cs _ t _ hb) ⟨rfl,rfl,rfl,by simp[World.setRow],fun k j c=>setRow_other w g k _ c⟩ (by simp[World.setRow])
theorem Cd(x:Operand)(f:o.op= .load b x)
 (g off:Nat)(e:a.eval x= .pointer (some ⟨g,off,none⟩)){t:TypeId}{cs:Array Value}(hb:ah w g t cs)(ds:Array Value)(hd: ∀j v,ds[j]? =some v->cs[off+j]? =some v)
 {d:TypeDesc}(hu:P.underlying b=some d)(c:d.isRow=true)(hi:(P.info? b).map (·.size)=some ds.size)
 (h:K (a.put o.dst (.agg ds)) w):Oper.wp P o a w K Q:=
 wp_load_mid b x f g off e ds.toList d (fun j v hv=>(hb.cell (off+j)).trans (hd j v (by simpa using hv))) hu c (by simpa using hi) (by simpa using h)
end
theorem ac2{ops:Array Oper}{S:World->Prop}{op:Oper}{a:Act}(b:Region.wanted op (yielded ops a.tmps)=true)(c:TypeId)(x:Operand)(h:op.op= .load c x)
 (g off:Nat)(f:a.eval x= .pointer (some ⟨g,off,none⟩)){t:TypeId}{cs:Array Value}(hb: ∀w,S w->ah w g t cs)(ds:Array Value)(hd: ∀j v,ds[j]? =some v->cs[off+j]? =some v)
 {d:TypeDesc}(hu:P.underlying c=some d)(e:d.isRow=true)(hi:(P.info? c).map (·.size)=some ds.size):YieldsIf P ops S op (.agg ds) a:=by
 have:=yieldsIf_load_mid (P:=P) (S:=S) b c x h g off f ds.toList d (fun w b j v hv=>((hb w b).cell (off+j)).trans (hd j v (by simpa using hv))) hu e (by simpa using hi);simpa using this
end
end Go.Proofs.YtcimojgkeoecfaaGreat
