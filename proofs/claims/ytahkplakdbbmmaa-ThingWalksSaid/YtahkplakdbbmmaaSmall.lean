/- Small laws: draws, a bool as a number. -/
import Derived.Test.YtahkplakdbbmmaaBits
import Derived.Deep.QuietTactic
namespace Go.Proofs.Ytahkplakdbbmmaa
set_option linter.unusedVariables false
open Go.RowKit

theorem below_drewN' {B : Nat} {a w : World} (h : Below B a w) (n : Nat) : Below B a (w.drewN n) := ⟨h.os, h.tape, h.output, h.size, h.block⟩
/-- A bool as a number. -/
def bi (d : Bool) : Int := if d then 1 else 0
theorem bi_true : bi true = 1 := rfl
theorem bi_false : bi false = 0 := rfl
theorem bi_bd (d : Bool) : 0 ≤ bi d ∧ bi d ≤ 1 := by cases d <;> decide

theorem heap_set {w : World} {g i : Nat} {v : Value} {cs : Array Value} {t : TypeId} {fr : Nat × Nat} (h : w.heap[g]? = some (.cells cs t fr)) :
    (w.setCell ⟨g, i, none⟩ v).heap[g]? = some (.cells (cs.setIfInBounds i v) t fr) := by
  simp [World.setCell, Array.getElem?_modify, h]
theorem heap_set_far {w : World} {g b i : Nat} {v : Value} {o : Option Obj} (hn : g ≠ b) (h : w.heap[g]? = o) : (w.setCell ⟨b, i, none⟩ v).heap[g]? = o := by
  rw [Below.heap_setCell _ _ _ _ hn]; exact h
theorem heap_new (w : World) (o : Obj) : (w.alloc o).heap[w.heap.size]? = some o := by
  show (w.heap.push o)[w.heap.size]? = some o
  simp
theorem heap_new' {w : World} {o : Obj} {n : Nat} (hn : n = w.heap.size) : (w.alloc o).heap[n]? = some o := by
  subst hn; exact heap_new w o
theorem heap_old {w : World} {g : Nat} {ob : Obj} {o : Option Obj} (hn : g < w.heap.size) (h : w.heap[g]? = o) : (w.alloc ob).heap[g]? = o := by
  rw [Below.heap_alloc _ _ _ hn]; exact h
theorem heap_below {B : Nat} {w w1 : World} {g : Nat} {o : Option Obj} (hb : Below B w w1) (hn : g < B) (h : w.heap[g]? = o) : w1.heap[g]? = o := by
  rw [hb.block _ hn]; exact h

/-- A call whose first result is a struct in a block of its own, the second a number. -/
theorem ret_cell_tmp {P : Program} {fn : Func} {R : Ending → World → Prop} {a : Act} {w : World} {p u : Tmp} {ty : TypeId} {g : Nat} {t : TypeId} {cs : Array Value} {fr : Nat × Nat} {d : TypeDesc}
    (h : fn.results = #[.cell p ty, .tmp u]) (hd0 : a.defers = []) (hp : a.tmps.getD p undef = .pointer (some ⟨g, 0, none⟩)) (hg : ∃ cs', w.heap[g]? = some (.cells cs' t fr) ∧ cs' = cs)
    (hu : P.underlying ty = some d) (hd : (match d with | .struct _ | .array _ _ => true | _ => false) = true) (hi : (P.info? ty).map (·.size) = some cs.size)
    (hR : R (.returned (.tuple #[.agg cs, a.tmps.getD u undef])) w) : bodyPost P fn R .ret a w := by
  obtain ⟨cs', hg, rfl⟩ := hg
  exact bodyPost_ret (by rw [results_cell_tmp h, hp]; simp [asAddr, run_loadVar_row w g t ty cs' fr d hg hu hd hi]) hd0 hR
theorem ret_cell {P : Program} {fn : Func} {R : Ending → World → Prop} {a : Act} {w : World} {p : Tmp} {ty : TypeId} {g : Nat} {t : TypeId} {cs : Array Value} {fr : Nat × Nat} {d : TypeDesc}
    (h : fn.results = #[.cell p ty]) (hd0 : a.defers = []) (hp : a.tmps.getD p undef = .pointer (some ⟨g, 0, none⟩)) (hg : ∃ cs', w.heap[g]? = some (.cells cs' t fr) ∧ cs' = cs)
    (hu : P.underlying ty = some d) (hd : (match d with | .struct _ | .array _ _ => true | _ => false) = true) (hi : (P.info? ty).map (·.size) = some cs.size)
    (hR : R (.returned (.agg cs)) w) : bodyPost P fn R .ret a w := by
  obtain ⟨cs', hg, rfl⟩ := hg
  exact bodyPost_ret (results_cell_row h _ w g t cs' fr d hp hg hu hd hi) hd0 hR

end Go.Proofs.Ytahkplakdbbmmaa
