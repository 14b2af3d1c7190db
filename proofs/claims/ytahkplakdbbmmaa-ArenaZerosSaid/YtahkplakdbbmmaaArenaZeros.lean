/- ArenaZeros: walk. -/
import Derived.Test.YtahkplakdbbmmaaArenaFilled
namespace Go.Proofs.Ytahkplakdbbmmaa
set_option linter.unusedVariables false
set_option linter.unusedSimpArgs false
open Go.RowKit

set_option maxHeartbeats 8000000 in
set_option maxRecDepth 100000 in
theorem walkArenaZeros (L : Nat → Int) (a n : Int) (w : World) (hL : ∀ i, inU (L i)) (ha : -9223372036854775808 ≤ a ∧ a ≤ 9223372036854775807) (hn : -9223372036854775808 ≤ n ∧ n ≤ 9223372036854775807) :
    Calls Try.prog 7 #[.agg (cellsF .u64 20 L), .int .i64 a, .int .i64 n] w fun e w' => e = .returned (.bool true) ∧ Below w.heap.size w w' := by
  go_enter Try.func7, Try.ntmps7
  go_wp2_with fail
  refine (shown_t _).mono ?_
  rintro e w1 ⟨rfl, hb1⟩
  have hz1 := hb1.size
  rw [World.size_alloc] at hz1
  have B1 : Blk w1 w.heap.size 39 (cellsF .u64 20 L) := (Blk.new w _ _).below hb1 (by simp)
  go_wp2_with (refine wpList_load_row rfl 39 (.tmp 3) rfl (w.heap.size) rfl 39 (cellsF .u64 20 L) (0, 0) _ (B1) Try.underlying39 rfl (by kernel_rfl) ?_)
  refine (filled_w L hL _).mono ?_
  rintro e w2 ⟨p, g, rfl, ha2, hb2, hp, hg⟩
  have hz2 := hb2.size
  have B2 := B1.below hb2 (by omega)
  go_wp2_with fail
  by_cases c0 : n = 0
  · subst c0
    refine (wzero_0 _ _ _ _ _ _ ha2).mono ?_; rintro e w3 ⟨rfl, rfl⟩
    have hb3 := But.refl w2.heap.size g w2
    have ha3 := ha2
    have hz3 := hb3.size
    have B3 := B2.but hb3 (by omega) (by omega)
    go_wp2_with fail
    go_loop [11] (fun i => ∃ j : Nat, j ≤ 20 ∧ i = .int .i64 j) (fun i => 20 - (intOf i).toNat)
    case atStart => exact ⟨0, by omega, rfl⟩
    case round =>
      obtain ⟨j, hj, rfl⟩ := hrel
      by_cases hlt : j < 20
      · have hc := isRow.cell B3.row j hlt
        have hu := hL j
        obtain ⟨u, U⟩ : ∃ u, Hid (L j = u) := ⟨_, Lib.hid rfl⟩
        rw [U.out] at hc hu
        go_wp2_with fail
        refine (wword_t _ _ _ _ _ _ j ha3 (by omega) hlt).mono ?_; rintro e w' ⟨rfl, rfl⟩
        rw [show L j = u from U.out]
        go_wp2_with fail
        go_round
        case rel => exact ⟨j + 1, by omega, by go_num⟩
        case measure => simp [intOf]; omega
      · obtain rfl : j = 20 := by omega
        go_wp2_with fail
        go_ret
        have hB : Below w.heap.size w2 w2 := hb3.below (by omega) (by omega)
        exact ⟨rfl, ((Below.refl _ _).alloc (Nat.le_refl _) _).trans ((hb1.mono (by simp)).trans ((hb2.mono (by omega)).trans hB))⟩
  have c0' : (n == 0) = false := by simp; omega
  have C0 := Lib.hid c0
  clear c0
  by_cases c1 : n < 0
  · refine (wzero_f _ _ _ _ _ _ _ ha2 hn (by have := C0.out; (try have := C4.out); omega)).mono ?_; rintro e w3 ⟨rfl, rfl⟩
    have hb3 := But.refl w2.heap.size g w2
    have ha3 := ha2
    have hz3 := hb3.size
    have B3 := B2.but hb3 (by omega) (by omega)
    go_wp2_with fail
    go_loop [11] (fun i => ∃ j : Nat, j ≤ 20 ∧ i = .int .i64 j) (fun i => 20 - (intOf i).toNat)
    case atStart => exact ⟨0, by omega, rfl⟩
    case round =>
      obtain ⟨j, hj, rfl⟩ := hrel
      by_cases hlt : j < 20
      · have hc := isRow.cell B3.row j hlt
        have hu := hL j
        obtain ⟨u, U⟩ : ∃ u, Hid (L j = u) := ⟨_, Lib.hid rfl⟩
        rw [U.out] at hc hu
        go_wp2_with fail
        refine (wword_t _ _ _ _ _ _ j ha3 (by omega) hlt).mono ?_; rintro e w' ⟨rfl, rfl⟩
        rw [show L j = u from U.out]
        go_wp2_with fail
        go_round
        case rel => exact ⟨j + 1, by omega, by go_num⟩
        case measure => simp [intOf]; omega
      · obtain rfl : j = 20 := by omega
        go_wp2_with fail
        go_ret
        have hB : Below w.heap.size w2 w2 := hb3.below (by omega) (by omega)
        exact ⟨rfl, ((Below.refl _ _).alloc (Nat.le_refl _) _).trans ((hb1.mono (by simp)).trans ((hb2.mono (by omega)).trans hB))⟩
  have c1' : 0 < n := by have := C0.out; omega
  clear c1
  by_cases c2 : a < 0
  · refine (wzero_f _ _ _ _ _ _ _ ha2 hn (by have := C0.out; (try have := C4.out); omega)).mono ?_; rintro e w3 ⟨rfl, rfl⟩
    have hb3 := But.refl w2.heap.size g w2
    have ha3 := ha2
    have hz3 := hb3.size
    have B3 := B2.but hb3 (by omega) (by omega)
    go_wp2_with fail
    go_loop [11] (fun i => ∃ j : Nat, j ≤ 20 ∧ i = .int .i64 j) (fun i => 20 - (intOf i).toNat)
    case atStart => exact ⟨0, by omega, rfl⟩
    case round =>
      obtain ⟨j, hj, rfl⟩ := hrel
      by_cases hlt : j < 20
      · have hc := isRow.cell B3.row j hlt
        have hu := hL j
        obtain ⟨u, U⟩ : ∃ u, Hid (L j = u) := ⟨_, Lib.hid rfl⟩
        rw [U.out] at hc hu
        go_wp2_with fail
        refine (wword_t _ _ _ _ _ _ j ha3 (by omega) hlt).mono ?_; rintro e w' ⟨rfl, rfl⟩
        rw [show L j = u from U.out]
        go_wp2_with fail
        go_round
        case rel => exact ⟨j + 1, by omega, by go_num⟩
        case measure => simp [intOf]; omega
      · obtain rfl : j = 20 := by omega
        go_wp2_with fail
        go_ret
        have hB : Below w.heap.size w2 w2 := hb3.below (by omega) (by omega)
        exact ⟨rfl, ((Below.refl _ _).alloc (Nat.le_refl _) _).trans ((hb1.mono (by simp)).trans ((hb2.mono (by omega)).trans hB))⟩
  by_cases c3 : 160 ≤ a
  · refine (wzero_f _ _ _ _ _ _ _ ha2 hn (by have := C0.out; (try have := C4.out); omega)).mono ?_; rintro e w3 ⟨rfl, rfl⟩
    have hb3 := But.refl w2.heap.size g w2
    have ha3 := ha2
    have hz3 := hb3.size
    have B3 := B2.but hb3 (by omega) (by omega)
    go_wp2_with fail
    go_loop [11] (fun i => ∃ j : Nat, j ≤ 20 ∧ i = .int .i64 j) (fun i => 20 - (intOf i).toNat)
    case atStart => exact ⟨0, by omega, rfl⟩
    case round =>
      obtain ⟨j, hj, rfl⟩ := hrel
      by_cases hlt : j < 20
      · have hc := isRow.cell B3.row j hlt
        have hu := hL j
        obtain ⟨u, U⟩ : ∃ u, Hid (L j = u) := ⟨_, Lib.hid rfl⟩
        rw [U.out] at hc hu
        go_wp2_with fail
        refine (wword_t _ _ _ _ _ _ j ha3 (by omega) hlt).mono ?_; rintro e w' ⟨rfl, rfl⟩
        rw [show L j = u from U.out]
        go_wp2_with fail
        go_round
        case rel => exact ⟨j + 1, by omega, by go_num⟩
        case measure => simp [intOf]; omega
      · obtain rfl : j = 20 := by omega
        go_wp2_with fail
        go_ret
        have hB : Below w.heap.size w2 w2 := hb3.below (by omega) (by omega)
        exact ⟨rfl, ((Below.refl _ _).alloc (Nat.le_refl _) _).trans ((hb1.mono (by simp)).trans ((hb2.mono (by omega)).trans hB))⟩
  by_cases c4 : a % 8 = 0
  case neg =>
    have c4' : (a % 8 == 0) = false := by simp; omega
    have C4 := Lib.hid c4
    clear c4
    refine (wzero_f _ _ _ _ _ _ _ ha2 hn (by have := C0.out; (try have := C4.out); omega)).mono ?_; rintro e w3 ⟨rfl, rfl⟩
    have hb3 := But.refl w2.heap.size g w2
    have ha3 := ha2
    have hz3 := hb3.size
    have B3 := B2.but hb3 (by omega) (by omega)
    go_wp2_with fail
    go_loop [11] (fun i => ∃ j : Nat, j ≤ 20 ∧ i = .int .i64 j) (fun i => 20 - (intOf i).toNat)
    case atStart => exact ⟨0, by omega, rfl⟩
    case round =>
      obtain ⟨j, hj, rfl⟩ := hrel
      by_cases hlt : j < 20
      · have hc := isRow.cell B3.row j hlt
        have hu := hL j
        obtain ⟨u, U⟩ : ∃ u, Hid (L j = u) := ⟨_, Lib.hid rfl⟩
        rw [U.out] at hc hu
        go_wp2_with fail
        refine (wword_t _ _ _ _ _ _ j ha3 (by omega) hlt).mono ?_; rintro e w' ⟨rfl, rfl⟩
        rw [show L j = u from U.out]
        go_wp2_with fail
        go_round
        case rel => exact ⟨j + 1, by omega, by go_num⟩
        case measure => simp [intOf]; omega
      · obtain rfl : j = 20 := by omega
        go_wp2_with fail
        go_ret
        have hB : Below w.heap.size w2 w2 := hb3.below (by omega) (by omega)
        exact ⟨rfl, ((Below.refl _ _).alloc (Nat.le_refl _) _).trans ((hb1.mono (by simp)).trans ((hb2.mono (by omega)).trans hB))⟩
  have c4' : (a % 8 == 0) = true := by simp; omega
  have C4 := Lib.hid c4
  clear c4
  by_cases c5 : 20 - a / 8 < n
  · refine (wzero_f _ _ _ _ _ _ _ ha2 hn (by have := C0.out; (try have := C4.out); omega)).mono ?_; rintro e w3 ⟨rfl, rfl⟩
    have hb3 := But.refl w2.heap.size g w2
    have ha3 := ha2
    have hz3 := hb3.size
    have B3 := B2.but hb3 (by omega) (by omega)
    go_wp2_with fail
    go_loop [11] (fun i => ∃ j : Nat, j ≤ 20 ∧ i = .int .i64 j) (fun i => 20 - (intOf i).toNat)
    case atStart => exact ⟨0, by omega, rfl⟩
    case round =>
      obtain ⟨j, hj, rfl⟩ := hrel
      by_cases hlt : j < 20
      · have hc := isRow.cell B3.row j hlt
        have hu := hL j
        obtain ⟨u, U⟩ : ∃ u, Hid (L j = u) := ⟨_, Lib.hid rfl⟩
        rw [U.out] at hc hu
        go_wp2_with fail
        refine (wword_t _ _ _ _ _ _ j ha3 (by omega) hlt).mono ?_; rintro e w' ⟨rfl, rfl⟩
        rw [show L j = u from U.out]
        go_wp2_with fail
        go_round
        case rel => exact ⟨j + 1, by omega, by go_num⟩
        case measure => simp [intOf]; omega
      · obtain rfl : j = 20 := by omega
        go_wp2_with fail
        go_ret
        have hB : Below w.heap.size w2 w2 := hb3.below (by omega) (by omega)
        exact ⟨rfl, ((Below.refl _ _).alloc (Nat.le_refl _) _).trans ((hb1.mono (by simp)).trans ((hb2.mono (by omega)).trans hB))⟩
  obtain ⟨k, K⟩ : ∃ k : Nat, Hid (a = 8 * k) := ⟨(a / 8).toNat, Lib.hid (by have := C4.out; omega)⟩
  obtain ⟨m, rfl⟩ : ∃ m : Nat, n = m := ⟨n.toNat, by omega⟩
  have hkm : k + m ≤ 20 := by have := K.out; omega
  refine (wzero_t _ _ _ _ _ _ k m ha2 (by have := C0.out; omega) K.out hkm).mono ?_; rintro e w3 ⟨rfl, ha3, hb3⟩
  have hz3 := hb3.size
  have B3 := B2.but hb3 (by omega) (by omega)
  go_wp2_with fail
  go_loop [11] (fun i => ∃ j : Nat, j ≤ 20 ∧ i = .int .i64 j) (fun i => 20 - (intOf i).toNat)
  case atStart => exact ⟨0, by omega, rfl⟩
  case round =>
    obtain ⟨j, hj, rfl⟩ := hrel
    by_cases hlt : j < 20
    · have hc := isRow.cell B3.row j hlt
      have hu := hL j
      obtain ⟨u, U⟩ : ∃ u, Hid (L j = u) := ⟨_, Lib.hid rfl⟩
      rw [U.out] at hc hu
      by_cases d1 : k ≤ j
      · by_cases d2 : j < k + m
        · have e1 : a / 8 ≤ (j : Int) := by have := K.out; omega
          have e2 : (j : Int) - a / 8 < m := by have := K.out; omega
          go_wp2_with fail
          refine (wword_t _ _ _ _ _ _ j ha3 (by omega) hlt).mono ?_; rintro e w' ⟨rfl, rfl⟩
          rw [show updZ L k m j = 0 from by unfold updZ; rw [if_pos ⟨d1, d2⟩]]
          go_wp2_with fail
          go_round
          case rel => exact ⟨j + 1, by omega, by go_num⟩
          case measure => simp [intOf]; omega
        · have e1 : a / 8 ≤ (j : Int) := by have := K.out; omega
          have e2 : ¬ (j : Int) - a / 8 < m := by have := K.out; omega
          go_wp2_with fail
          refine (wword_t _ _ _ _ _ _ j ha3 (by omega) hlt).mono ?_; rintro e w' ⟨rfl, rfl⟩
          rw [show updZ L k m j = u from by unfold updZ; rw [if_neg (by omega)]; exact U.out]
          go_wp2_with fail
          go_round
          case rel => exact ⟨j + 1, by omega, by go_num⟩
          case measure => simp [intOf]; omega
      · have e1 : ¬ a / 8 ≤ (j : Int) := by have := K.out; omega
        go_wp2_with fail
        refine (wword_t _ _ _ _ _ _ j ha3 (by omega) hlt).mono ?_; rintro e w' ⟨rfl, rfl⟩
        rw [show updZ L k m j = u from by unfold updZ; rw [if_neg (by omega)]; exact U.out]
        go_wp2_with fail
        go_round
        case rel => exact ⟨j + 1, by omega, by go_num⟩
        case measure => simp [intOf]; omega
    · obtain rfl : j = 20 := by omega
      go_wp2_with fail
      go_ret
      have hB : Below w.heap.size w2 w3 := hb3.below (by omega) (by omega)
      exact ⟨rfl, ((Below.refl _ _).alloc (Nat.le_refl _) _).trans ((hb1.mono (by simp)).trans ((hb2.mono (by omega)).trans hB))⟩

theorem walkArenaZerosL (l : List Int) (hl : l.length = 20) (a n : Int) (w : World) (hL : ∀ x ∈ l, inU x) (ha : -9223372036854775808 ≤ a ∧ a ≤ 9223372036854775807) (hn : -9223372036854775808 ≤ n ∧ n ≤ 9223372036854775807) :
    Calls Try.prog 7 #[.agg (l.map (Value.int .u64)).toArray, .int .i64 a, .int .i64 n] w fun e w' => e = .returned (.bool true) ∧ Below w.heap.size w w' := by
  rw [← cellsF_lst, hl]
  exact walkArenaZeros (lst l) a n w (lst_bd l hL) ha hn

end Go.Proofs.Ytahkplakdbbmmaa
