/- The walks of the statements of layer 1: each returns true and makes no memory, at arguments that fit their kinds. -/
import Derived.Test.YticbdnckhbijiaaNum
namespace Go.Proofs.Yticbdnckhbijiaa
set_option linter.unusedVariables false
open Go.RowKit

theorem wf_i64' {n : Int} (h : (Lit.int .i64 n).wf = true) : inR n := by
  simp [Lit.wf, IntKind.min, IntKind.max, IntKind.signed, IntKind.bits] at h; omega
theorem wf_u64' {n : Int} (h : (Lit.int .u64 n).wf = true) : inU n := by
  simp [Lit.wf, IntKind.min, IntKind.max, IntKind.signed, IntKind.bits] at h; omega
theorem wf_u8' {n : Int} (h : (Lit.int .u8 n).wf = true) : 0 ≤ n ∧ n ≤ 255 := by
  simp [Lit.wf, IntKind.min, IntKind.max, IntKind.signed, IntKind.bits] at h; omega
theorem wf_u16' {n : Int} (h : (Lit.int .u16 n).wf = true) : 0 ≤ n ∧ n ≤ 65535 := by
  simp [Lit.wf, IntKind.min, IntKind.max, IntKind.signed, IntKind.bits] at h; omega

theorem walkNumUp (n m : Int) (w : World) (hn : inU n) (hm : 0 ≤ m ∧ m ≤ 65535) :
    Calls Try.prog 8 #[.int .u64 n, .int .u16 m] w fun e w' => e = .returned (.bool true) ∧ w = w' := by
  have hb := u64_and62 n hn
  obtain ⟨a, ha⟩ : ∃ a : Int, a = n % 4611686018427387904 := ⟨_, rfl⟩
  rw [← ha] at hb
  have h0 : 0 ≤ a := by omega
  have h1 : a ≤ 4611686018427387903 := by omega
  clear ha
  go_enter Try.func8, Try.ntmps8
  go_wp2_with (first | (go_at_call 20; refine (shown01 _).mono ?_; rintro e w' ⟨rfl, rfl⟩) | (go_at_call 21; refine (up_k _ _ (by omega) (by omega)).mono ?_; rintro e w' ⟨k, rfl, h1, h2, rfl⟩) | (go_at_call 22; refine (words_k _ _ (by omega) (by omega)).mono ?_; rintro e w' ⟨k, rfl, h1, h2, rfl⟩))
  all_goals (go_ret; exact ⟨ret_b (by simp; omega), rfl⟩)

theorem walkNumAdds (a b : Int) (w : World) (ha : inR a) (hb : inR b) :
    Calls Try.prog 9 #[.int .i64 a, .int .i64 b] w fun e w' => e = .returned (.bool true) ∧ w = w' := by
  by_cases hs : inR (a + b) <;> by_cases hb0 : 0 ≤ b <;> by_cases hbm : b = -9223372036854775808
  all_goals try (exfalso; omega)
  all_goals try (have hbm' : -9223372036854775808 < b := by omega)
  all_goals try subst hbm
  all_goals try clear hbm
  all_goals try (have q1 : (!decide (a ≤ 9223372036854775807 - b)) = false := by simp; omega)
  all_goals try (have q2 : (!decide (a ≤ 9223372036854775807 - b)) = true := by simp; omega)
  all_goals try (have q3 : (!decide (-9223372036854775808 - b ≤ a)) = false := by simp; omega)
  all_goals try (have q4 : (!decide (-9223372036854775808 - b ≤ a)) = true := by simp; omega)
  all_goals try (have q5 : decide (0 ≤ a) = true := by simp; omega)
  all_goals try (have q6 : decide (0 ≤ a) = false := by simp; omega)
  all_goals
    go_enter Try.func9, Try.ntmps9
    go_wp2_with (first | (go_at_call 20; refine (shown01 _).mono ?_; rintro e w' ⟨rfl, rfl⟩) | (go_at_call 23; refine (add_fit _ _ _ (by omega) (by omega) (by omega)).mono ?_; rintro e w' ⟨rfl, rfl⟩) | (go_at_call 23; refine (add_over _ _ _ (by omega) (by omega) (by omega)).mono ?_; rintro e w' ⟨rfl, rfl⟩))
    all_goals (go_ret; exact ⟨ret_b (by simp; try omega), rfl⟩)

theorem walkNumEnds (n m : Int) (w : World) (hn : inU n) (hm : 0 ≤ m ∧ m ≤ 255) :
    Calls Try.prog 10 #[.int .u64 n, .int .u8 m] w fun e w' => e = .returned (.bool true) ∧ w = w' := by
  have hb := u64_and63b n hn
  obtain ⟨a, ha⟩ : ∃ a : Int, a = n % 9223372036854775808 := ⟨_, rfl⟩
  rw [← ha] at hb
  have h0 : 0 ≤ a := by omega
  have h1 : a ≤ 9223372036854775807 := by omega
  clear ha
  by_cases hm7 : m < 7
  all_goals
    go_enter Try.func10, Try.ntmps10
    go_wp2_with (first | (go_at_call 20; refine (shown01 _).mono ?_; rintro e w' ⟨rfl, rfl⟩) | (go_at_call 21; refine (up_neg _ _ (by omega)).mono ?_; rintro e w' ⟨rfl, rfl⟩) | (go_at_call 21; refine (up_over _ _ (by omega) (by omega)).mono ?_; rintro e w' ⟨rfl, rfl⟩) | (go_at_call 21; refine (up_k _ _ (by omega) (by omega)).mono ?_; rintro e w' ⟨k, rfl, h1, h2, rfl⟩) | (go_at_call 22; refine (words_neg _ _ (by omega)).mono ?_; rintro e w' ⟨rfl, rfl⟩))
    all_goals (go_ret; exact ⟨ret_b (by simp; try omega), rfl⟩)

theorem walkNumJoins (n m : Int) (w : World) (hn : inU n) (hm : inU m) :
    Calls Try.prog 11 #[.int .u64 n, .int .u64 m] w fun e w' => e = .returned (.bool true) ∧ w = w' := by
  have hb := u64_and60 n hn
  have hc := u64_and60 m hm
  obtain ⟨a, ha⟩ : ∃ a : Int, a = n % 1152921504606846976 := ⟨_, rfl⟩
  obtain ⟨b, hb'⟩ : ∃ a : Int, a = m % 1152921504606846976 := ⟨_, rfl⟩
  rw [← ha] at hb
  rw [← hb'] at hc
  have h0 : 0 ≤ a := by omega
  have h1 : a ≤ 1152921504606846975 := by omega
  have h2 : 0 ≤ b := by omega
  have h3 : b ≤ 1152921504606846975 := by omega
  clear ha hb'
  have hd := i64_andNot7 a (by omega) (by omega)
  go_enter Try.func11, Try.ntmps11
  go_wp2_with (first | (go_at_call 20; refine (shown01 _).mono ?_; rintro e w' ⟨rfl, rfl⟩) | (go_at_call 22; refine (words_k _ _ (by omega) (by omega)).mono ?_; rintro e w' ⟨k, rfl, h1, h2, rfl⟩))
  all_goals (go_ret; exact ⟨ret_b (by simp; try omega), rfl⟩)

theorem walkNumOrders (a b c : Int) (w : World) (ha : inR a) (hb : inR b) (hc : inR c) :
    Calls Try.prog 12 #[.int .i64 a, .int .i64 b, .int .i64 c] w fun e w' => e = .returned (.bool true) ∧ w = w' := by
  go_enter Try.func12, Try.ntmps12
  go_wp2_with (first | (go_at_call 20; refine (shown01 _).mono ?_; rintro e w' ⟨rfl, rfl⟩) | (go_at_call 23; refine (add_or _ _ _ (by omega) (by omega)).mono ?_; rintro e w' ⟨s, c, rfl, hs, ho, rfl⟩))
  all_goals (go_ret; exact ⟨ret_b (by simp; try omega), rfl⟩)

theorem walkNumAll (a b c : Int) (w : World) (ha : inR a) (hb : inR b) (hc : inR c) :
    Calls Try.prog 13 #[.int .i64 a, .int .i64 b, .int .i64 c] w fun e w' => e = .returned (.bool true) ∧ w = w' := by
  go_enter Try.func13, Try.ntmps13
  go_wp2_with (first | (go_at_call 20; refine (shown01 _).mono ?_; rintro e w' ⟨rfl, rfl⟩) | (go_at_call 23; refine (add_any _ _ _ (by omega) (by omega)).mono ?_; rintro e w' ⟨rfl, rfl⟩) | (go_at_call 24; refine (radd_any _ _ _ (by omega) (by omega)).mono ?_; rintro e w' ⟨rfl, rfl⟩) | (go_at_call 21; refine (up_any _ _ (by omega)).mono ?_; rintro e w' ⟨rfl, rfl⟩) | (go_at_call 25; refine (rup_any _ _ (by omega)).mono ?_; rintro e w' ⟨rfl, rfl⟩) | (go_at_call 22; refine (words_any _ _ (by omega)).mono ?_; rintro e w' ⟨rfl, rfl⟩) | (go_at_call 26; refine (rwords_any _ _ (by omega)).mono ?_; rintro e w' ⟨rfl, rfl⟩) | (go_at_call 27; refine (within_any _ _ _ _).mono ?_; rintro e w' ⟨rfl, rfl⟩))
  all_goals (go_ret; exact ⟨ret_b (by simp; try omega), rfl⟩)

end Go.Proofs.Yticbdnckhbijiaa
