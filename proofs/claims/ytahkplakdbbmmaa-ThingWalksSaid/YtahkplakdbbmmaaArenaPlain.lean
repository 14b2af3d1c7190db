/- The words of an arena, in plain Lean. -/
import Derived.Test.YtahkplakdbbmmaaArenaNew
namespace Go.Proofs.Ytahkplakdbbmmaa
set_option linter.unusedVariables false
set_option linter.unusedSimpArgs false
open Go.RowKit

theorem wsum_ext (f g : Nat → Int) (a k : Nat) (h : ∀ i, i < k → f (a + i) = g (a + i)) : wsum f a k = wsum g a k := by
  induction k with
  | zero => rfl
  | succ k ih => rw [wsum, wsum, ih fun i hi => h i (by omega), h k (by omega)]
theorem wordAt_other (f : Nat → Int) (a b : Nat) (y : Int) (h : b + 8 ≤ a ∨ a + 8 ≤ b) : wordAt (putW f b y) a = wordAt f a := by
  apply wsum_ext
  intro i hi
  unfold putW putK
  rw [if_neg (by omega)]
theorem step256 (y : Int) (k : Nat) (hk : k < 8) : y % 256 ^ (k + 1) = y % 256 ^ k + y / 256 ^ k % 256 * 256 ^ k := by
  rcases (by omega : k = 0 ∨ k = 1 ∨ k = 2 ∨ k = 3 ∨ k = 4 ∨ k = 5 ∨ k = 6 ∨ k = 7) with rfl | rfl | rfl | rfl | rfl | rfl | rfl | rfl
  all_goals (simp only [Nat.reduceAdd, Int.reducePow]; omega)
theorem wsum_put (f : Nat → Int) (a : Nat) (y : Int) (k : Nat) (hk : k ≤ 8) : wsum (putW f a y) a k = y % 256 ^ k := by
  induction k with
  | zero => simp [wsum]
  | succ k ih =>
    rw [wsum, ih (by omega), step256 y k (by omega)]
    unfold putW putK
    rw [if_pos (by omega), Nat.add_sub_cancel_left]
theorem wordAt_put (f : Nat → Int) (a : Nat) (y : Int) (h : inU y) : wordAt (putW f a y) a = y := by
  unfold wordAt inU at *
  rw [wsum_put _ _ _ _ (by omega)]
  omega
/-- One byte of a word changed. -/
theorem wsum_upd (f : Nat → Int) (a j : Nat) (v : Int) (k : Nat) : wsum (upd f (a + j) v) a k = wsum f a k + (if j < k then (v - f (a + j)) * 256 ^ j else 0) := by
  induction k with
  | zero => simp [wsum]
  | succ k ih =>
    rw [wsum, wsum, ih]
    by_cases c : j < k
    · rw [if_pos c, if_pos (by omega)]
      unfold upd
      rw [if_neg (by omega)]; omega
    · rw [if_neg c]
      by_cases d : j = k
      · subst d
        rw [if_pos (by omega)]
        unfold upd
        rw [if_pos rfl, Int.sub_mul]; omega
      · rw [if_neg (by omega)]
        unfold upd
        rw [if_neg (by omega)]; omega
theorem wordAt_far (f : Nat → Int) (a j : Nat) (v : Int) (h : j < a ∨ a + 8 ≤ j) : wordAt (upd f j v) a = wordAt f a := by
  apply wsum_ext
  intro i hi
  unfold upd
  rw [if_neg (by omega)]

end Go.Proofs.Ytahkplakdbbmmaa
