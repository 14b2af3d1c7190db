/- Contracts of the functions of package num, and of the references and examples of layer 1: what each returns, at arguments that fit 64 bits. -/
import Derived.Test.YtnknkdcpdimpnaaRows
import Derived.Test.YtnknkdcpdimpnaaBits
import Derived.Lib.Hide
namespace Go.Proofs.Ytnknkdcpdimpnaa
set_option linter.unusedVariables false
open Go.RowKit

/-! ### num.Add (23), penfoldref01.Add (24) -/
theorem add_fit (a b : Int) (w : World) (ha : inR a) (hb : inR b) (hs : inR (a + b)) :
    Calls Try.prog 42 #[.int .i64 a, .int .i64 b] w fun e w' => e = .returned (.tuple #[.int .i64 (a + b), .int .i64 0]) ∧ w = w' := by
  have h : (!decide (a < a + b) == decide (0 < b)) = false := by
    by_cases h : 0 < b <;> simp [h] <;> omega
  go_enter Try.func42, Try.ntmps42
  go_wp2
  all_goals (go_ret2; exact ⟨rfl, rfl⟩)

theorem add_over (a b : Int) (w : World) (ha : inR a) (hb : inR b) (hs : ¬ inR (a + b)) :
    Calls Try.prog 42 #[.int .i64 a, .int .i64 b] w fun e w' => e = .returned (.tuple #[.int .i64 0, .int .i64 3]) ∧ w = w' := by
  have h : (!decide (a < wrap64 (a + b)) == decide (0 < b)) = true := by
    unfold wrap64
    by_cases h : 0 < b <;> simp [h] <;> omega
  go_enter Try.func42, Try.ntmps42
  go_wp2
  all_goals (go_ret2; exact ⟨rfl, rfl⟩)

/-- What num.Add comes to. -/
def nAdd (a b : Int) : Int × Int := if inR (a + b) then (a + b, 0) else (0, 3)
theorem add_any (a b : Int) (w : World) (ha : inR a) (hb : inR b) :
    Calls Try.prog 42 #[.int .i64 a, .int .i64 b] w fun e w' => e = .returned (.tuple #[.int .i64 (nAdd a b).1, .int .i64 (nAdd a b).2]) ∧ w = w' := by
  unfold nAdd
  by_cases hs : inR (a + b)
  · rw [if_pos hs]; exact add_fit a b w ha hb hs
  · rw [if_neg hs]; exact add_over a b w ha hb hs

/-- What num.Add comes to, without an equation: it fits, or not. -/
theorem add_or (a b : Int) (w : World) (ha : inR a) (hb : inR b) :
    Calls Try.prog 42 #[.int .i64 a, .int .i64 b] w fun e w' => ∃ s c : Int, e = .returned (.tuple #[.int .i64 s, .int .i64 c]) ∧ inR s ∧ ((inR (a + b) ∧ s = a + b ∧ c = 0) ∨ (¬ inR (a + b) ∧ s = 0 ∧ c = 3)) ∧ w = w' := by
  by_cases hs : inR (a + b)
  · exact (add_fit a b w ha hb hs).mono fun _ _ h => ⟨_, _, h.1, hs, .inl ⟨hs, rfl, rfl⟩, h.2⟩
  · exact (add_over a b w ha hb hs).mono fun _ _ h => ⟨_, _, h.1, by omega, .inr ⟨hs, rfl, rfl⟩, h.2⟩

/-! ### num.Within (27) -/
theorem within_any (n l h : Int) (w : World) :
    Calls Try.prog 37 #[.int .i64 n, .int .i64 l, .int .i64 h] w fun e w' => e = .returned (.bool (decide (l ≤ n) && decide (n ≤ h))) ∧ w = w' := by
  go_enter Try.func37, Try.ntmps37
  go_wp2
  all_goals (go_ret; exact ⟨ret_b (by simp; try omega), rfl⟩)

/-! ### num.Up (21), num.Words (22) -/
theorem up_neg (n : Int) (w : World) (ha : n < 0) :
    Calls Try.prog 41 #[.int .i64 n] w fun e w' => e = .returned (.tuple #[.int .i64 0, .int .i64 1]) ∧ w = w' := by
  go_enter Try.func41, Try.ntmps41
  go_wp2_with fail
  go_ret2; exact ⟨rfl, rfl⟩

theorem up_over (n : Int) (w : World) (ha : 9223372036854775800 < n) (hb : n ≤ 9223372036854775807) :
    Calls Try.prog 41 #[.int .i64 n] w fun e w' => e = .returned (.tuple #[.int .i64 0, .int .i64 3]) ∧ w = w' := by
  go_enter Try.func41, Try.ntmps41
  go_wp2_with (go_at_call 42; refine (add_over _ _ _ (by omega) (by omega) (by omega)).mono ?_; rintro e w' ⟨rfl, rfl⟩)
  go_ret2; exact ⟨rfl, rfl⟩

theorem up_fit (n : Int) (w : World) (ha : 0 ≤ n) (hb : n ≤ 9223372036854775800) :
    Calls Try.prog 41 #[.int .i64 n] w fun e w' => e = .returned (.tuple #[.int .i64 (8 * ((n + 7) / 8)), .int .i64 0]) ∧ w = w' := by
  have h := i64_andNot7 (n + 7) (by omega) (by omega)
  go_enter Try.func41, Try.ntmps41
  go_wp2_with (go_at_call 42; refine (add_fit _ _ _ (by omega) (by omega) (by omega)).mono ?_; rintro e w' ⟨rfl, rfl⟩)
  go_ret2; exact ⟨rfl, rfl⟩

theorem words_neg (n : Int) (w : World) (ha : n < 0) :
    Calls Try.prog 38 #[.int .i64 n] w fun e w' => e = .returned (.tuple #[.int .i64 0, .int .i64 1]) ∧ w = w' := by
  go_enter Try.func38, Try.ntmps38
  go_wp2_with (go_at_call 41; refine (up_neg _ _ (by omega)).mono ?_; rintro e w' ⟨rfl, rfl⟩)
  go_ret2; exact ⟨rfl, rfl⟩

theorem words_over (n : Int) (w : World) (ha : 9223372036854775800 < n) (hb : n ≤ 9223372036854775807) :
    Calls Try.prog 38 #[.int .i64 n] w fun e w' => e = .returned (.tuple #[.int .i64 0, .int .i64 3]) ∧ w = w' := by
  go_enter Try.func38, Try.ntmps38
  go_wp2_with (go_at_call 41; refine (up_over _ _ (by omega) (by omega)).mono ?_; rintro e w' ⟨rfl, rfl⟩)
  go_ret2; exact ⟨rfl, rfl⟩

theorem words_fit (n : Int) (w : World) (ha : 0 ≤ n) (hb : n ≤ 9223372036854775800) :
    Calls Try.prog 38 #[.int .i64 n] w fun e w' => e = .returned (.tuple #[.int .i64 ((n + 7) / 8), .int .i64 0]) ∧ w = w' := by
  go_enter Try.func38, Try.ntmps38
  go_wp2_with (go_at_call 41; refine (up_fit _ _ (by omega) (by omega)).mono ?_; rintro e w' ⟨rfl, rfl⟩)
  go_ret2; exact ⟨ret_ii (by omega) rfl, rfl⟩

/-- 'a multiple of 8, not less, by less than 8', without an equation. -/
theorem up_k (n : Int) (w : World) (ha : 0 ≤ n) (hb : n ≤ 9223372036854775800) :
    Calls Try.prog 41 #[.int .i64 n] w fun e w' => ∃ k : Int, e = .returned (.tuple #[.int .i64 (8 * k), .int .i64 0]) ∧ n ≤ 8 * k ∧ 8 * k ≤ n + 7 ∧ w = w' :=
  (up_fit n w ha hb).mono fun _ _ h => ⟨_, h.1, by omega, by omega, h.2⟩
theorem words_k (n : Int) (w : World) (ha : 0 ≤ n) (hb : n ≤ 9223372036854775800) :
    Calls Try.prog 38 #[.int .i64 n] w fun e w' => ∃ k : Int, e = .returned (.tuple #[.int .i64 k, .int .i64 0]) ∧ n ≤ 8 * k ∧ 8 * k ≤ n + 7 ∧ w = w' :=
  (words_fit n w ha hb).mono fun _ _ h => ⟨_, h.1, by omega, by omega, h.2⟩

/-! ### penfoldref01.Up (25), penfoldref01.Words (26), and what all four come to -/
def nUp (n : Int) : Int × Int := if n < 0 then (0, 1) else if 9223372036854775800 < n then (0, 3) else (8 * ((n + 7) / 8), 0)
def nWords (n : Int) : Int × Int := if n < 0 then (0, 1) else if 9223372036854775800 < n then (0, 3) else ((n + 7) / 8, 0)
theorem up_any (n : Int) (w : World) (h : inR n) :
    Calls Try.prog 41 #[.int .i64 n] w fun e w' => e = .returned (.tuple #[.int .i64 (nUp n).1, .int .i64 (nUp n).2]) ∧ w = w' := by
  unfold nUp
  by_cases h1 : n < 0
  · rw [if_pos h1]; exact up_neg n w h1
  · rw [if_neg h1]
    by_cases h2 : 9223372036854775800 < n
    · rw [if_pos h2]; exact up_over n w h2 h.2
    · rw [if_neg h2]; exact up_fit n w (by omega) (by omega)
theorem words_any (n : Int) (w : World) (h : inR n) :
    Calls Try.prog 38 #[.int .i64 n] w fun e w' => e = .returned (.tuple #[.int .i64 (nWords n).1, .int .i64 (nWords n).2]) ∧ w = w' := by
  unfold nWords
  by_cases h1 : n < 0
  · rw [if_pos h1]; exact words_neg n w h1
  · rw [if_neg h1]
    by_cases h2 : 9223372036854775800 < n
    · rw [if_pos h2]; exact words_over n w h2 h.2
    · rw [if_neg h2]; exact words_fit n w (by omega) (by omega)
theorem nUp_fst (n : Int) : (nUp n).1 / 8 = (nWords n).1 := by
  unfold nUp nWords; split <;> (try split) <;> dsimp only <;> omega
theorem nUp_snd (n : Int) : (nUp n).2 = (nWords n).2 := by
  unfold nUp nWords; split <;> (try split) <;> rfl
theorem nUp_fst_bd (n : Int) (h : inR n) : 0 ≤ (nUp n).1 ∧ (nUp n).1 ≤ 9223372036854775800 := by
  unfold nUp; split <;> (try split) <;> dsimp only <;> omega
/-! ### the document's examples (20) -/
end Go.Proofs.Ytnknkdcpdimpnaa
