/- Objects one behind the other: which places a walk comes to. Plain law. -/
import Derived.Test.YtahkplakdbbmmaaThing
namespace Go.Proofs.Ytahkplakdbbmmaa
set_option linter.unusedVariables false
set_option linter.unusedSimpArgs false
open Go.RowKit

/-- An object of z words stands at a. -/
def obj (V : Nat → Int) (n : Nat) (a z : Int) : Prop := ∃ (k : Nat) (l g : Int) (d : Bool) (s e : Int), a = 8 * k ∧ k + 1 < n ∧ isObj (V k) (V (k + 1)) z l g d s e
theorem obj.bd {V : Nat → Int} {n : Nat} {a z : Int} (h : obj V n a z) : 0 ≤ a ∧ a + 16 ≤ 8 * n ∧ 2 ≤ z ∧ z ≤ 72 := by
  obtain ⟨k, l, g, d, s, e, rfl, hk, o⟩ := h
  have := o.ok
  unfold okHead at this
  omega
/-- The walk goes through these places; true: and to the end; false: and then there is none. -/
inductive way (V : Nat → Int) (n : Nat) : Bool → Int → Int → List Int → Prop
  | done (a : Int) : way V n true a 0 []
  | no {a left : Int} (hl : 0 < left) (h : noObj V n a) : way V n false a left []
  | long {a left z : Int} (hl : 0 < left) (h : obj V n a z) (hz : left < 8 * z) : way V n false a left []
  | step {b : Bool} {a left z : Int} {xs : List Int} (h : obj V n a z) (hl : 8 * z ≤ left) (r : way V n b (a + 8 * z) (left - 8 * z) xs) : way V n b a left (a :: xs)
theorem way.len {V : Nat → Int} {n : Nat} {b : Bool} {a left : Int} {xs : List Int} (h : way V n b a left xs) : xs.length = 0 ∨ a + 16 * xs.length ≤ 8 * n ∧ 0 ≤ a := by
  induction h with
  | done => left; rfl
  | no => left; rfl
  | long => left; rfl
  | step h hl r ih => have := h.bd; right; simp; omega
theorem way_any (V : Nat → Int) (n : Nat) (hV : ∀ i, i < n → inU (V i)) : ∀ (m : Nat) (a left : Int), left ≤ m → 0 ≤ left → ∃ b xs, way V n b a left xs := by
  intro m
  induction m with
  | zero =>
    intro a left h h0
    obtain rfl : left = 0 := by omega
    exact ⟨_, _, .done _⟩
  | succ m ih =>
    intro a left h h0
    by_cases c : left = 0
    · subst c; exact ⟨_, _, .done _⟩
    · rcases obj_cases V n a hV with no | ⟨k, z, l, g, d, s, e, ea, hk, o⟩
      · exact ⟨_, _, .no (by omega) no⟩
      · have ho : obj V n a z := ⟨k, l, g, d, s, e, ea, hk, o⟩
        have hb := ho.bd
        by_cases c2 : 8 * z ≤ left
        · obtain ⟨b, xs, h⟩ := ih (a + 8 * z) (left - 8 * z) (by omega) (by omega)
          exact ⟨_, _, .step ho c2 h⟩
        · exact ⟨_, _, .long (by omega) ho (by omega)⟩

end Go.Proofs.Ytahkplakdbbmmaa
