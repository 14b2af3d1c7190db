/- Contracts of head.Words and of the references' Words and Fit, and of the examples of layer 7. -/
import Derived.Test.YtnknkdcpdimpnaaHeadUnp
namespace Go.Proofs.Ytnknkdcpdimpnaa
set_option linter.unusedVariables false
open Go.RowKit

theorem hwords_no (n m : Int) (w : World) (h : n < 0 ∨ 6 < n ∨ m < 0 ∨ 512 < m) :
    Calls Try.prog 25 #[.int .i64 n, .int .i64 m] w fun x w' => x = .returned (.tuple #[.int .i64 0, .int .i64 1]) ∧ w = w' := by
  by_cases h1 : 0 ≤ n ∧ n ≤ 6
  · go_enter Try.func25, Try.ntmps25
    go_wp2_with (first | (go_at_call 37; refine (within_t _ _ _ _ (by omega) (by omega)).mono ?_; rintro e w' ⟨rfl, rfl⟩) | (go_at_call 37; refine (within_f _ _ _ _ (by omega)).mono ?_; rintro e w' ⟨rfl, rfl⟩))
    go_ret2; exact ⟨rfl, rfl⟩
  · go_enter Try.func25, Try.ntmps25
    go_wp2_with (go_at_call 37; refine (within_f _ _ _ _ (by omega)).mono ?_; rintro e w' ⟨rfl, rfl⟩)
    go_ret2; exact ⟨rfl, rfl⟩
theorem hwords_ok (n m : Int) (w : World) (h1 : 0 ≤ n ∧ n ≤ 6) (h2 : 0 ≤ m ∧ m ≤ 512) :
    Calls Try.prog 25 #[.int .i64 n, .int .i64 m] w fun x w' => x = .returned (.tuple #[.int .i64 (2 + n + (m + 7) / 8), .int .i64 0]) ∧ w = w' := by
  go_enter Try.func25, Try.ntmps25
  go_wp2_with (first | (go_at_call 37; refine (within_t _ _ _ _ (by omega) (by omega)).mono ?_; rintro e w' ⟨rfl, rfl⟩) | (go_at_call 38; refine (words_fit _ _ (by omega) (by omega)).mono ?_; rintro e w' ⟨rfl, rfl⟩))
  go_ret2; exact ⟨rfl, rfl⟩
theorem hrwords_no (n m : Int) (w : World) (h : n < 0 ∨ 6 < n ∨ m < 0 ∨ 512 < m) :
    Calls Try.prog 26 #[.int .i64 n, .int .i64 m] w fun x w' => x = .returned (.tuple #[.int .i64 0, .int .i64 1]) ∧ w = w' := by
  by_cases c0 : n < 0
  · have d0 : decide (n < 0) = true := by simpa using c0
    go_enter Try.func26, Try.ntmps26
    go_wp2_with fail
    go_ret2; exact ⟨rfl, rfl⟩
  have d0 : decide (n < 0) = false := by simpa using c0
  by_cases c1 : 6 < n
  · have d1 : decide (6 < n) = true := by simpa using c1
    go_enter Try.func26, Try.ntmps26
    go_wp2_with fail
    go_ret2; exact ⟨rfl, rfl⟩
  have d1 : decide (6 < n) = false := by simpa using c1
  by_cases c2 : m < 0
  · have d2 : decide (m < 0) = true := by simpa using c2
    go_enter Try.func26, Try.ntmps26
    go_wp2_with fail
    go_ret2; exact ⟨rfl, rfl⟩
  have d2 : decide (m < 0) = false := by simpa using c2
  have d3 : decide (512 < m) = true := by simp; omega
  clear h
  go_enter Try.func26, Try.ntmps26
  go_wp2_with fail
  go_ret2; exact ⟨rfl, rfl⟩
theorem hrwords_ok (n m : Int) (w : World) (h1 : 0 ≤ n ∧ n ≤ 6) (h2 : 0 ≤ m ∧ m ≤ 512) :
    Calls Try.prog 26 #[.int .i64 n, .int .i64 m] w fun x w' => x = .returned (.tuple #[.int .i64 (2 + n + (m + 7) / 8), .int .i64 0]) ∧ w = w' := by
  have d0 : decide (n < 0) = false := by simp; omega
  have d1 : decide (6 < n) = false := by simp; omega
  have d2 : decide (m < 0) = false := by simp; omega
  have d3 : decide (512 < m) = false := by simp; omega
  go_enter Try.func26, Try.ntmps26
  go_wp2_with fail
  go_ret2; exact ⟨rfl, rfl⟩

/-- A head that may be. -/
theorem fit07_k (z l g : Int) (d : Bool) (s e : Int) (w : World) :
    Calls Try.prog 33 #[hAgg z l g d s e] w fun x w' => ∃ z1 l1 g1 s1 e1 : Int, x = .returned (hAgg z1 l1 g1 d s1 e1) ∧ okHead z1 l1 g1 s1 e1 ∧ Below w.heap.size w w' := by
  have b1 := i64_and7 l
  have b2 := i64_and63 z
  have b3 := i64_and7 g
  have b4 := i64_and7 s
  have b5 := i64_andEpoch e
  have key : Calls Try.prog 33 #[.agg #[.int .i64 z, .int .i64 l, .int .i64 g, .bool d, .int .i64 s, .int .i64 e]] w fun x w' => x = .returned (.agg #[.int .i64 (2 + l % 8 % 7 + z % 64), .int .i64 (l % 8 % 7), .int .i64 (g % 8), .bool d, .int .i64 (s % 8), .int .i64 (e % 16777216)]) ∧ Below w.heap.size w w' := by
    go_enter Try.func33, Try.ntmps33
    go_wp2_with fail
    refine ret_cell (g := w.heap.size + 1) (t := 46) (fr := (0, 0)) (cs := #[.int .i64 (2 + l % 8 % 7 + z % 64), .int .i64 (l % 8 % 7), .int .i64 (g % 8), .bool d, .int .i64 (s % 8), .int .i64 (e % 16777216)]) Try.results33 ?_ ?_ ?_ Try.underlying46 rfl ?_ ?_; (focus rfl); (focus rfl); (focus (apply Exists.intro; apply And.intro; (focus (repeat (first | (with_reducible exact heap_new _ _) | ((with_reducible apply heap_new'); (focus (first | (simp; done) | omega))) | (with_reducible apply heap_set) | ((with_reducible apply heap_old); (focus (first | omega | (simp; done) | (simp; omega)))) | ((with_reducible apply heap_below); (focus (with_reducible assumption)); (focus (first | omega | (simp; done) | (simp; omega)))) | ((with_reducible apply heap_set_far); (focus (first | omega | (simp; done) | (simp; omega))))))); (focus rfl))); (focus kernel_rfl)
    refine ⟨rfl, ?_⟩
    repeat (first | (with_reducible exact Below.refl _ _) | ((with_reducible refine Below.setCell ?_ ?_ _); rotate_left; (focus (first | omega | (simp; done) | (simp; omega)))) | ((with_reducible refine Below.alloc ?_ ?_ _); rotate_left; (focus (first | omega | (simp; done) | (simp; omega)))) | (with_reducible refine Below.drew ?_) | (with_reducible refine below_drewN' ?_ _) | ((refine Below.trans ?_ (Below.mono (by with_reducible assumption) ?_)); rotate_left; (focus (first | omega | (simp; done) | (simp; omega)))))
  exact key.mono fun _ _ h => ⟨_, _, _, _, _, h.1, by unfold okHead; omega, h.2⟩

theorem zero_no : ¬ okU 0 0 := by decide
theorem shown07 (w : World) : Calls Try.prog 24 #[] w fun e w' => e = .returned (.bool true) ∧ Below w.heap.size w w' := by
  have no := Lib.hid zero_no
  go_enter Try.func24, Try.ntmps24
  go_wp2_with fail; refine (hwords_ok _ _ _ (by omega) (by omega)).mono ?_; rintro e w' ⟨rfl, rfl⟩
  go_wp2_with fail; refine (hunpack_no _ _ _ (by omega) (by omega) no).mono ?_; rintro e w1 ⟨rfl, hb1⟩; have hz1 := hb1.size
  unfold zHead
  go_wp2_with fail
  go_ret; refine ⟨ret_b (by simp), ?_⟩
  repeat (first | (with_reducible exact Below.refl _ _) | ((with_reducible refine Below.setCell ?_ ?_ _); rotate_left; (focus (first | omega | (simp; done) | (simp; omega)))) | ((with_reducible refine Below.alloc ?_ ?_ _); rotate_left; (focus (first | omega | (simp; done) | (simp; omega)))) | (with_reducible refine Below.drew ?_) | (with_reducible refine below_drewN' ?_ _) | ((refine Below.trans ?_ (Below.mono (by with_reducible assumption) ?_)); rotate_left; (focus (first | omega | (simp; done) | (simp; omega)))))

end Go.Proofs.Ytnknkdcpdimpnaa
