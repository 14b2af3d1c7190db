/- Slots of objects: plain law. -/
import Derived.Test.YtahkplakdbbmmaaRowX
namespace Go.Proofs.Ytahkplakdbbmmaa
set_option linter.unusedVariables false
set_option linter.unusedSimpArgs false
open Go.RowKit

/-- The heads are as they were; slots ahead of the k-th of the i-th object hold their numbers. -/
structure filledS (V : Nat → Int) (N : Nat) (H : Nat → Hd) (i k : Nat) : Prop where
  ok : ∀ j, j < N → (H j).ok
  head : ∀ j, j < N → isObj (V (wAt H j)) (V (wAt H j + 1)) (H j).z (H j).l (H j).t (H j).d (H j).s (H j).e
  slot : ∀ j m : Nat, j < N → (m : Int) < (H j).l → (j < i ∨ j = i ∧ m < k) → V (wAt H j + 2 + m) = 100 * (j : Int) + m + 1
theorem filledS.start {V : Nat → Int} {N : Nat} {H : Nat → Hd} (r : rowV V N H) : filledS V N H 0 0 := ⟨r.ok, r.head, fun j m _ _ h => by omega⟩
theorem filledS.next {V : Nat → Int} {N : Nat} {H : Nat → Hd} {i k : Nat} (f : filledS V N H i k) (hk : (H i).l ≤ k) : filledS V N H (i + 1) 0 :=
  ⟨f.ok, f.head, fun j m hj hm h => f.slot j m hj hm (by
    rcases h with h | h
    · by_cases c : j = i
      · subst c; right; omega
      · left; omega
    · omega)⟩
theorem filledS.put {V : Nat → Int} {N : Nat} {H : Nat → Hd} {i k : Nat} (f : filledS V N H i k) (hi : i < N) (hk : (k : Int) < (H i).l) : filledS (upd V (wAt H i + 2 + k) (100 * (i : Int) + k + 1)) N H i (k + 1) := by
  have hz := (f.ok i hi).bd
  refine ⟨f.ok, fun j hj => ?_, fun j m hj hm h => ?_⟩
  · have hne : wAt H j ≠ wAt H i + 2 + k ∧ wAt H j + 1 ≠ wAt H i + 2 + k := by
      rcases Nat.lt_trichotomy j i with h | h | h
      · have := wAt_mono f.ok h (by omega); have := (f.ok j hj).bd; omega
      · subst h; omega
      · have := wAt_mono f.ok h (by omega); omega
    have a1 : upd V (wAt H i + 2 + k) (100 * (i : Int) + k + 1) (wAt H j) = V (wAt H j) := by simp [upd, hne.1]
    have a2 : upd V (wAt H i + 2 + k) (100 * (i : Int) + k + 1) (wAt H j + 1) = V (wAt H j + 1) := by simp [upd, hne.2]
    rw [a1, a2]; exact f.head j hj
  · by_cases c : j = i ∧ m = k
    · obtain ⟨rfl, rfl⟩ := c
      simp [upd]
    · have hne : wAt H j + 2 + m ≠ wAt H i + 2 + k := by
        by_cases h1 : j = i
        · subst h1; omega
        · have h2 := wAt_mono f.ok (i := j) (j := i) (by omega) (by omega); have := (f.ok j hj).bd; omega
      have a1 : upd V (wAt H i + 2 + k) (100 * (i : Int) + k + 1) (wAt H j + 2 + m) = V (wAt H j + 2 + m) := by simp [upd, hne]
      rw [a1]
      exact f.slot j m hj hm (by omega)
theorem wAt_62 {H : Nat → Hd} {N i : Nat} (h : ∀ i, i < N → (H i).ok) (hN : N ≤ 6) (hi : i < N) : wAt H i + (H i).z ≤ 62 := by
  have := wAt_le h
  have := wAt_mono h hi (Nat.le_refl _)
  omega

end Go.Proofs.Ytahkplakdbbmmaa
