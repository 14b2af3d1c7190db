/- A row of integers in a block of its own: what it holds as a function of the place; what changes when one cell is written. Over any program. -/
import Derived.Test.YtahkplakdbbmmaaSmall
namespace Go.Proofs.Ytahkplakdbbmmaa
set_option linter.unusedVariables false
set_option linter.unusedSimpArgs false
open Go.RowKit

/-- n cells of one integer kind. -/
def cellsF (k : IntKind) (n : Nat) (f : Nat → Int) : Array Value := Array.ofFn fun (i : Fin n) => Value.int k (f i)
theorem cellsF_size (k : IntKind) (n : Nat) (f : Nat → Int) : (cellsF k n f).size = n := by simp [cellsF]
theorem cellsF_get (k : IntKind) (n : Nat) (f : Nat → Int) (j : Nat) (h : j < n) : (cellsF k n f)[j]? = some (.int k (f j)) := by
  simp [cellsF, h]
theorem cellsF_none (k : IntKind) (n : Nat) (f : Nat → Int) (j : Nat) (h : n ≤ j) : (cellsF k n f)[j]? = none := by
  simp [cellsF]; omega
/-- f, but v at j. -/
def upd (f : Nat → Int) (j : Nat) (v : Int) : Nat → Int := fun i => if i = j then v else f i
theorem cellsF_set (k : IntKind) (n : Nat) (f : Nat → Int) (j : Nat) (v : Int) : (cellsF k n f).setIfInBounds j (.int k v) = cellsF k n (upd f j v) := by
  apply Array.ext_getElem?
  intro i
  rw [Array.getElem?_setIfInBounds]
  by_cases hi : i < n
  · rw [cellsF_get k n f i hi, cellsF_get k n _ i hi, cellsF_size]
    unfold upd
    by_cases h : j = i
    · subst h; simp [hi]
    · rw [if_neg h, if_neg (fun e => h e.symm)]
  · rw [cellsF_none k n f i (by omega), cellsF_none k n _ i (by omega), cellsF_size]
    split
    · split
      · omega
      · rfl
    · rfl
theorem cellsF_ext (k : IntKind) (n : Nat) (f g : Nat → Int) (h : ∀ i, i < n → f i = g i) : cellsF k n f = cellsF k n g := by
  unfold cellsF
  congr 1
  funext i
  rw [h i i.2]

/-- A block that holds such a row. -/
def isRow (w : World) (g : Nat) (k : IntKind) (t : TypeId) (n : Nat) (f : Nat → Int) : Prop := w.heap[g]? = some (.cells (cellsF k n f) t (0, 0))
theorem isRow.cell {w : World} {g : Nat} {k : IntKind} {t : TypeId} {n : Nat} {f : Nat → Int} (h : isRow w g k t n f) (j : Nat) (hj : j < n) : w.cell? ⟨g, j, none⟩ = some (.int k (f j)) := by
  have := cell_of_row w g j _ _ _ h
  rw [this, cellsF_get _ _ _ _ hj]
theorem isRow.free {w : World} {g : Nat} {k : IntKind} {t : TypeId} {n : Nat} {f : Nat → Int} (h : isRow w g k t n f) (j : Nat) : w.frozen? ⟨g, j, none⟩ = false := by
  unfold isRow at h
  simp [World.frozen?, h]
theorem isRow.lt {w : World} {g : Nat} {k : IntKind} {t : TypeId} {n : Nat} {f : Nat → Int} (h : isRow w g k t n f) : g < w.heap.size := by
  unfold isRow at h
  exact (Array.getElem?_eq_some_iff.1 h).1
theorem isRow.set {w : World} {g : Nat} {k : IntKind} {t : TypeId} {n : Nat} {f : Nat → Int} (h : isRow w g k t n f) (j : Nat) (v : Int) : isRow (w.setCell ⟨g, j, none⟩ (.int k v)) g k t n (upd f j v) := by
  unfold isRow at *
  rw [heap_set h, cellsF_set]
theorem isRow.drew {w : World} {g : Nat} {k : IntKind} {t : TypeId} {n : Nat} {f : Nat → Int} (h : isRow w g k t n f) : isRow w.drew g k t n f := h
theorem isRow.ext {w : World} {g : Nat} {k : IntKind} {t : TypeId} {n : Nat} {f f' : Nat → Int} (h : isRow w g k t n f) (e : ∀ i, i < n → f i = f' i) : isRow w g k t n f' := by
  unfold isRow at *; rw [h, cellsF_ext _ _ _ _ e]

/-- Below block number B, but for block g, the world is as it was. -/
structure But (B g : Nat) (w w' : World) : Prop where
  os : w'.os = w.os
  tape : w'.tape = w.tape
  output : w'.output = w.output
  size : w.heap.size ≤ w'.heap.size
  block : ∀ k, k < B → k ≠ g → w'.heap[k]? = w.heap[k]?
theorem But.refl (B g : Nat) (w : World) : But B g w w := ⟨rfl, rfl, rfl, Nat.le_refl _, fun _ _ _ => rfl⟩
theorem But.trans {B g : Nat} {a b c : World} (h : But B g a b) (k : But B g b c) : But B g a c :=
  ⟨k.os.trans h.os, k.tape.trans h.tape, k.output.trans h.output, Nat.le_trans h.size k.size, fun i hi hn => (k.block i hi hn).trans (h.block i hi hn)⟩
theorem But.mono {B B' g : Nat} {w w' : World} (h : But B g w w') (hB : B' ≤ B) : But B' g w w' := ⟨h.os, h.tape, h.output, h.size, fun k hk => h.block k (Nat.lt_of_lt_of_le hk hB)⟩
theorem But.drew {B g : Nat} {a w : World} (h : But B g a w) : But B g a w.drew := ⟨h.os, h.tape, h.output, h.size, h.block⟩
theorem But.set {B g : Nat} {a w : World} (h : But B g a w) (j : Nat) (v : Value) : But B g a (w.setCell ⟨g, j, none⟩ v) :=
  h.trans ⟨rfl, rfl, rfl, by simp [World.setCell], fun k _ hn => Below.heap_setCell _ _ _ _ hn⟩
theorem But.alloc {B g : Nat} {a w : World} (h : But B g a w) (hB : B ≤ w.heap.size) (o : Obj) : But B g a (w.alloc o) :=
  h.trans ⟨rfl, rfl, rfl, by simp, fun k hk _ => Below.heap_alloc _ _ _ (by omega)⟩
theorem But.of_below {B g : Nat} {w w' : World} (h : Below B w w') : But B g w w' := ⟨h.os, h.tape, h.output, h.size, fun k hk _ => h.block k hk⟩
theorem But.below {B B' g : Nat} {w w' : World} (h : But B g w w') (hB : B' ≤ B) (hg : B' ≤ g) : Below B' w w' := ⟨h.os, h.tape, h.output, h.size, fun k hk => h.block k (by omega) (by omega)⟩
theorem But.cell {B g : Nat} {w w' : World} (h : But B g w w') {p : Addr} (hp : p.block < B) (hn : p.block ≠ g) : w'.cell? p = w.cell? p := World.cell?_of_block (w := w) (h.block p.block hp hn)
theorem But.frozen {B g : Nat} {w w' : World} (h : But B g w w') {p : Addr} (hp : p.block < B) (hn : p.block ≠ g) : w'.frozen? p = w.frozen? p := World.frozen?_of_block (w := w) (h.block p.block hp hn)
theorem But.row {B g : Nat} {w w' : World} (h : But B g w w') {r : Nat} {k : IntKind} {t : TypeId} {n : Nat} {f : Nat → Int} (hr : isRow w r k t n f) (hB : r < B) (hn : r ≠ g) : isRow w' r k t n f := by
  unfold isRow at *; rw [h.block r hB hn]; exact hr
theorem Below.row {B : Nat} {w w' : World} (h : Below B w w') {r : Nat} {k : IntKind} {t : TypeId} {n : Nat} {f : Nat → Int} (hr : isRow w r k t n f) (hB : r < B) : isRow w' r k t n f := by
  unfold isRow at *; rw [h.block r hB]; exact hr

end Go.Proofs.Ytahkplakdbbmmaa
