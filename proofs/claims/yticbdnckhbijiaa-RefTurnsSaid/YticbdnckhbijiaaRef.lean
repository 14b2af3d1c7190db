/- Contracts of the functions of package ref, and of the references and examples of layer 6: what each returns, and that nothing that was there changes. -/
import Derived.Test.YticbdnckhbijiaaNum
namespace Go.Proofs.Yticbdnckhbijiaa
set_option linter.unusedVariables false
open Go.RowKit

theorem within_t (n l h : Int) (w : World) (h1 : l ≤ n) (h2 : n ≤ h) :
    Calls Try.prog 27 #[.int .i64 n, .int .i64 l, .int .i64 h] w fun e w' => e = .returned (.bool true) ∧ w = w' :=
  (within_any n l h w).mono fun _ _ g => ⟨by rw [g.1]; simp [h1, h2], g.2⟩
theorem within_f (n l h : Int) (w : World) (h1 : n < l ∨ h < n) :
    Calls Try.prog 27 #[.int .i64 n, .int .i64 l, .int .i64 h] w fun e w' => e = .returned (.bool false) ∧ w = w' :=
  (within_any n l h w).mono fun _ _ g => ⟨by rw [g.1]; exact ret_b (by simp; omega), g.2⟩

/-- What a Ref may be. -/
abbrev okRef (s e a : Int) : Prop := 0 ≤ s ∧ s ≤ 7 ∧ 0 ≤ e ∧ e ≤ 16777215 ∧ 8 ≤ a ∧ a ≤ 65528 ∧ a % 8 = 0

theorem pack_ok (s e a : Int) (w : World) (h : okRef s e a) :
    Calls Try.prog 15 #[.agg #[.int .i64 s, .int .i64 e, .int .i64 a]] w fun x w' => x = .returned (.tuple #[.int .u64 (a / 8 + 16777216 * s + 4294967296 * e), .int .i64 0]) ∧ Below w.heap.size w w' := by
  obtain ⟨h1, h2, h3, h4, h5, h6, h7⟩ := h
  have hm : (a % 8 != 0) = false := by simpa using h7
  have j1 : bits .or .u64 (a / 8) (s * 16777216) = a / 8 + s * 16777216 := u64_join' 24 _ _ (by omega) (by omega) (by omega) (by omega) (by omega) (by omega)
  have j2 : bits .or .u64 (a / 8 + s * 16777216) (e * 4294967296) = a / 8 + s * 16777216 + e * 4294967296 := u64_join' 32 _ _ (by omega) (by omega) (by omega) (by omega) (by omega) (by omega)
  clear h7
  go_enter Try.func15, Try.ntmps15
  go_wp2_with (go_at_call 27; refine (within_t _ _ _ _ (by omega) (by omega)).mono ?_; rintro e w' ⟨rfl, rfl⟩)
  go_ret2; exact ⟨ret_ii (by omega) rfl, (Below.refl _ _).alloc (Nat.le_refl _) _⟩

theorem pack_no (s e a : Int) (w : World) (hs : inR s) (he : inR e) (ha : inR a) (h : ¬ okRef s e a) :
    Calls Try.prog 15 #[.agg #[.int .i64 s, .int .i64 e, .int .i64 a]] w fun x w' => x = .returned (.tuple #[.int .u64 0, .int .i64 1]) ∧ Below w.heap.size w w' := by
  by_cases h1 : 0 ≤ s ∧ s ≤ 7
  · by_cases h2 : 0 ≤ e ∧ e ≤ 16777215
    · by_cases h3 : 8 ≤ a ∧ a ≤ 65528
      · have hm : (a % 8 != 0) = true := by simp; omega
        clear h
        go_enter Try.func15, Try.ntmps15
        go_wp2_with (go_at_call 27; refine (within_t _ _ _ _ (by omega) (by omega)).mono ?_; rintro e w' ⟨rfl, rfl⟩)
        go_ret2; exact ⟨rfl, (Below.refl _ _).alloc (Nat.le_refl _) _⟩
      · clear h
        go_enter Try.func15, Try.ntmps15
        go_wp2_with (first | (go_at_call 27; refine (within_t _ _ _ _ (by omega) (by omega)).mono ?_; rintro e w' ⟨rfl, rfl⟩) | (go_at_call 27; refine (within_f _ _ _ _ (by omega)).mono ?_; rintro e w' ⟨rfl, rfl⟩))
        go_ret2; exact ⟨rfl, (Below.refl _ _).alloc (Nat.le_refl _) _⟩
    · clear h
      go_enter Try.func15, Try.ntmps15
      go_wp2_with (first | (go_at_call 27; refine (within_t _ _ _ _ (by omega) (by omega)).mono ?_; rintro e w' ⟨rfl, rfl⟩) | (go_at_call 27; refine (within_f _ _ _ _ (by omega)).mono ?_; rintro e w' ⟨rfl, rfl⟩))
      go_ret2; exact ⟨rfl, (Below.refl _ _).alloc (Nat.le_refl _) _⟩
  · clear h
    go_enter Try.func15, Try.ntmps15
    go_wp2_with (first | (go_at_call 27; refine (within_t _ _ _ _ (by omega) (by omega)).mono ?_; rintro e w' ⟨rfl, rfl⟩) | (go_at_call 27; refine (within_f _ _ _ _ (by omega)).mono ?_; rintro e w' ⟨rfl, rfl⟩))
    go_ret2; exact ⟨rfl, (Below.refl _ _).alloc (Nat.le_refl _) _⟩

def nPack (s e a : Int) : Int × Int := if okRef s e a then (a / 8 + 16777216 * s + 4294967296 * e, 0) else (0, 1)
theorem pack_any (s e a : Int) (w : World) (hs : inR s) (he : inR e) (ha : inR a) :
    Calls Try.prog 15 #[.agg #[.int .i64 s, .int .i64 e, .int .i64 a]] w fun x w' => x = .returned (.tuple #[.int .u64 (nPack s e a).1, .int .i64 (nPack s e a).2]) ∧ Below w.heap.size w w' := by
  unfold nPack
  by_cases h : okRef s e a
  · rw [if_pos h]; exact pack_ok s e a w h
  · rw [if_neg h]; exact pack_no s e a w hs he ha h

theorem rpack_any (s e a : Int) (w : World) (hs : inR s) (he : inR e) (ha : inR a) :
    Calls Try.prog 16 #[.agg #[.int .i64 s, .int .i64 e, .int .i64 a]] w fun x w' => x = .returned (.tuple #[.int .u64 (nPack s e a).1, .int .i64 (nPack s e a).2]) ∧ Below w.heap.size w w' := by
  unfold nPack
  by_cases c0 : s < 0
  · have d0 : decide (s < 0) = true := by simpa using c0
    rw [if_neg (by omega)]
    go_enter Try.func16, Try.ntmps16
    go_wp2
    go_ret2; exact ⟨rfl, (Below.refl _ _).alloc (Nat.le_refl _) _⟩
  have d0 : decide (s < 0) = false := by simpa using c0
  by_cases c1 : 8 ≤ s
  · have d1 : decide (8 ≤ s) = true := by simpa using c1
    rw [if_neg (by omega)]
    go_enter Try.func16, Try.ntmps16
    go_wp2
    go_ret2; exact ⟨rfl, (Below.refl _ _).alloc (Nat.le_refl _) _⟩
  have d1 : decide (8 ≤ s) = false := by simpa using c1
  by_cases c2 : e < 0
  · have d2 : decide (e < 0) = true := by simpa using c2
    rw [if_neg (by omega)]
    go_enter Try.func16, Try.ntmps16
    go_wp2
    go_ret2; exact ⟨rfl, (Below.refl _ _).alloc (Nat.le_refl _) _⟩
  have d2 : decide (e < 0) = false := by simpa using c2
  by_cases c3 : 16777215 < e
  · have d3 : decide (16777215 < e) = true := by simpa using c3
    rw [if_neg (by omega)]
    go_enter Try.func16, Try.ntmps16
    go_wp2
    go_ret2; exact ⟨rfl, (Below.refl _ _).alloc (Nat.le_refl _) _⟩
  have d3 : decide (16777215 < e) = false := by simpa using c3
  by_cases c4 : a < 8
  · have d4 : decide (a < 8) = true := by simpa using c4
    rw [if_neg (by omega)]
    go_enter Try.func16, Try.ntmps16
    go_wp2
    go_ret2; exact ⟨rfl, (Below.refl _ _).alloc (Nat.le_refl _) _⟩
  have d4 : decide (a < 8) = false := by simpa using c4
  by_cases c5 : 65528 < a
  · have d5 : decide (65528 < a) = true := by simpa using c5
    rw [if_neg (by omega)]
    go_enter Try.func16, Try.ntmps16
    go_wp2
    go_ret2; exact ⟨rfl, (Below.refl _ _).alloc (Nat.le_refl _) _⟩
  have d5 : decide (65528 < a) = false := by simpa using c5
  by_cases h4 : a % 8 = 0
  · have hm : (a % 8 != 0) = false := by simpa using h4
    rw [if_pos (by omega)]
    clear h4
    go_enter Try.func16, Try.ntmps16
    go_wp2
    go_ret2; exact ⟨ret_ii (by omega) rfl, (Below.refl _ _).alloc (Nat.le_refl _) _⟩
  · have hm : (a % 8 != 0) = true := by simpa using h4
    rw [if_neg (by omega)]
    clear h4
    go_enter Try.func16, Try.ntmps16
    go_wp2
    go_ret2; exact ⟨rfl, (Below.refl _ _).alloc (Nat.le_refl _) _⟩

end Go.Proofs.Yticbdnckhbijiaa
