/- ArenaClaims: walk. -/
import Derived.Test.YtahkplakdbbmmaaArenaLaws
import Derived.Test.YtahkplakdbbmmaaSliceArg
namespace Go.Proofs.Ytahkplakdbbmmaa
set_option linter.unusedVariables false
set_option linter.unusedSimpArgs false
open Go.RowKit

set_option maxHeartbeats 8000000 in
set_option maxRecDepth 100000 in
theorem walkArenaClaims (A : Option Addr) (n c : Nat) (F : Nat → Int) (m : Int) (w : World) (hn : n ≤ maxLen) (R : rd w w.heap.size A n 1 (ints1 .u8 F)) (hF : ∀ i, 0 ≤ F i ∧ F i ≤ 255) (hm : 0 ≤ m ∧ m ≤ 255) :
    Calls Try.prog 8 #[.slice A n c, .int .u8 m] w fun e w' => e = .returned (.bool true) ∧ Below w.heap.size w w' := by
  unfold maxLen at hn
  go_enter Try.func8, Try.ntmps8
  go_wp2_with fail
  refine (shown_t _).mono ?_
  rintro e w1 ⟨rfl, hb1⟩
  have hz1 := hb1.size
  have R1 := R.below hb1 (Nat.le_refl _)
  go_wp2_with fail
  refine (wnew_t 80 _ _ (by omega) (by omega)).mono ?_
  rintro e w2 ⟨p, g, rfl, ha2, hb2, hp, hg⟩
  have hz2 := hb2.size
  have R2 := R1.below hb2 (by omega)
  obtain ⟨M, HM⟩ : ∃ M : Nat, Hid (m % 61 * 8 = 8 * M) := ⟨(m % 61).toNat, Lib.hid (by omega)⟩
  have hM : M ≤ 60 := by have := HM.out; omega
  go_wp2_with fail
  go_loopw [9, 10] (fun u i wr => ∃ k q : Nat, k ≤ n ∧ k ≤ 10 ∧ q ≤ M ∧ i = .int .i64 k ∧ u = .int .u64 (8 * q) ∧ But w2.heap.size g w2 wr ∧ ∃ G, isW wr p g 80 G ∧ Hid (G 0 = 8 * q)) (fun _ i _ => 10 - (intOf i).toNat)
  case atStart => exact ⟨0, 0, by omega, by omega, by omega, rfl, rfl, But.refl _ _ _, _, ha2, Lib.hid rfl⟩
  case round =>
    obtain ⟨k, q, hk1, hk2, hq, rfl, rfl, hbr, G, haG, HG⟩ := hrel
    by_cases c1 : k < n
    · by_cases c2 : k < 10
      · obtain ⟨b, off, rfl, hbb, hc⟩ := (R2.but hbr (by omega) (by omega)).int_at c1
        obtain ⟨x, X⟩ : ∃ x, Hid (F k = x) := ⟨_, Lib.hid rfl⟩
        have hx := hF k
        rw [X.out] at hc hx
        obtain ⟨y, Y⟩ : ∃ y : Nat, Hid (x % 8 = y) := ⟨(x % 8).toNat, Lib.hid (by omega)⟩
        have hy : y < 8 := by have := Y.out; omega
        have hmm : m % 61 * 8 ≤ 480 := by omega
        by_cases fit : q + 2 + y ≤ M
        · have fitM : 8 * (q : Int) + 8 * (2 + x % 8) ≤ m % 61 * 8 := by have := Y.out; have := HM.out; omega
          go_wp2_with fail
          refine (wclaim_t _ _ _ _ _ _ _ _ _ _ _ (8 * q) 0 (8 + q) haG (by omega) (by omega) (by unfold inU; omega) (by unfold inU; omega) HG.out (by have := HM.out; omega) (by omega) (by omega) (by omega) (by omega) (by omega) (by unfold inU; omega) (by unfold inU; omega)).mono ?_
          rintro e w3 ⟨rfl, ha3, hb3⟩
          have hz3 := hb3.size
          obtain ⟨G3, E0, E1, E2, HA3⟩ : ∃ G3, Hid (G3 0 = 8 * (q : Int) + 8 * (2 + x % 8)) ∧ Hid (G3 (8 + q) = (k : Int) + 1) ∧ Hid (G3 (9 + q) = 7) ∧ isW w3 p g 80 G3 :=
            ⟨_, Lib.hid (by simp [upd]; omega), Lib.hid (by simp [upd]), Lib.hid (by simp [upd]; omega), ha3⟩
          go_wp2_with fail
          refine (wword_t _ _ _ _ _ _ 0 HA3 (by omega) (by omega)).mono ?_; rintro e w' ⟨rfl, rfl⟩; rw [E0.out]
          go_wp2_with fail
          refine (wword_t _ _ _ _ _ _ (8 + q) HA3 (by omega) (by omega)).mono ?_; rintro e w' ⟨rfl, rfl⟩; rw [E1.out]
          go_wp2_with fail
          refine (wword_t _ _ _ _ _ _ (9 + q) HA3 (by omega) (by omega)).mono ?_; rintro e w' ⟨rfl, rfl⟩; rw [E2.out]
          go_wp2_with fail
          go_roundw
          case rel => exact ⟨k + 1, q + 2 + y, by omega, by omega, fit, by go_num, by rw [show 8 * (q : Int) + 8 * (2 + x % 8) = 8 * ((q + 2 + y : Nat) : Int) from by have := Y.out; omega], hbr.trans (hb3.mono hbr.size), G3, HA3, Lib.hid (by rw [E0.out]; have := Y.out; omega)⟩
          case measure => simp [intOf]; omega
        · have fitM : ¬ 8 * (q : Int) + 8 * (2 + x % 8) ≤ m % 61 * 8 := by have := Y.out; have := HM.out; omega
          have hqM : 8 * (q : Int) ≤ m % 61 * 8 := by have := HM.out; omega
          go_wp2_with fail
          refine (wclaim_n _ _ _ _ _ _ _ _ _ _ _ 0 haG (by omega) (by omega) (by unfold inU; omega) (by unfold inU; omega) (by rw [HG.out]; omega)).mono ?_
          rintro e w3 ⟨rfl, rfl⟩
          rw [HG.out]
          go_wp2_with fail
          refine (wword_t _ _ _ _ _ _ 0 haG (by omega) (by omega)).mono ?_; rintro e w' ⟨rfl, rfl⟩; rw [HG.out]
          go_wp2_with fail
          go_roundw
          case rel => exact ⟨k + 1, q, by omega, by omega, hq, by go_num, rfl, hbr, G, haG, HG⟩
          case measure => simp [intOf]; omega
      · obtain rfl : k = 10 := by omega
        go_wp2_with fail
        go_ret
        exact ⟨rfl, hb1.trans ((hb2.mono hz1).trans (hbr.below (by omega) (by omega)))⟩
    · obtain rfl : k = n := by omega
      go_wp2_with fail
      go_ret
      exact ⟨rfl, hb1.trans ((hb2.mono hz1).trans (hbr.below (by omega) (by omega)))⟩

end Go.Proofs.Ytahkplakdbbmmaa
