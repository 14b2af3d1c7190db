/- What a walk answers: a slice that owns the places. -/
import Derived.Test.YtahkplakdbbmmaaObj
import Derived.WalkKit
namespace Go.Proofs.Ytahkplakdbbmmaa
set_option linter.unusedVariables false
set_option linter.unusedSimpArgs false
open Go.RowKit

theorem info_int : (Try.prog.info? 3).map (fun i => (i.zero, i.size, i.bytes)) = some (some (.int .i64 0), 1, 8) := by kernel_rfl
theorem under_ints : Try.prog.underlying 71 = some (.slice 3) := by kernel_rfl

/-- What a walk answers. -/
def wayCode (b : Bool) : Int := if b then 0 else 18
theorem wayCode_t : wayCode true = 0 := rfl
theorem wayCode_f : wayCode false = 18 := rfl
theorem own_below {w w' : World} {B e size n : Nat} {v : Value} {xs : List Value} (h : w.ownsRow B e size v n xs) (hb : Below w.heap.size w w') : w'.ownsRow B e size v n xs := by
  refine ⟨h.1, ?_⟩
  rcases h.2 with h | ⟨g, cap, cur, rfl, h1, h2, h3⟩
  · exact .inl h
  · exact .inr ⟨g, cap, cur, rfl, h1, (hb.block g (Array.getElem?_eq_some_iff.1 h2).1).trans h2, h3⟩
theorem own_alloc {w : World} {B e size n : Nat} {v : Value} {xs : List Value} (h : w.ownsRow B e size v n xs) (o : Obj) : (w.alloc o).ownsRow B e size v n xs :=
  own_below h ((Below.refl _ _).alloc (Nat.le_refl _) _)
theorem own_block {w : World} {B e size n : Nat} {v : Value} {xs : List Value} (h : w.ownsRow B e size v n xs) {j : Nat} (hj : v.ownBlock = some j) : B ≤ j ∧ j < w.heap.size := by
  rcases h.2 with ⟨rfl, _⟩ | ⟨g, cap, cur, rfl, h1, h2, h3⟩
  · simp [Value.ownBlock] at hj
  · simp [Value.ownBlock] at hj; subst hj; exact ⟨h1, (Array.getElem?_eq_some_iff.1 h2).1⟩
theorem grown_cell {w w' : World} {r : Option Nat} (h : w.grownBy w' r) {N k : Nat} (hr : ∀ j, r = some j → j < N) (h1 : N ≤ k) (h2 : k < w.heap.size) (o : Nat) : w'.cell? ⟨k, o, none⟩ = w.cell? ⟨k, o, none⟩ :=
  World.cell?_of_block (w := w) (h.block k h2 fun e => by have := hr k e.symm; omega)
def wayOwn (w : World) (B : Nat) (b : Bool) (v : Value) (xs : List Int) : Prop := (b = true → w.ownsRow B 3 1 v xs.length (xs.map (Value.int .i64))) ∧ (b = false → v = .slice none 0 0)

end Go.Proofs.Ytahkplakdbbmmaa
