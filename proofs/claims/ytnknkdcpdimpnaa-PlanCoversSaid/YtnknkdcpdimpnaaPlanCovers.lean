/- The walk of PlanCovers: it returns true, and nothing that was there changes. -/
import Derived.Test.YtnknkdcpdimpnaaPlan
namespace Go.Proofs.Ytnknkdcpdimpnaa
set_option linter.unusedVariables false
open Go.RowKit

/-- How many parts there are at word q among those of the first j scopes and the first k of the next one. -/
def cM (q j k : Int) : Int := if (q < 8 * j ∧ q % 8 < 5) ∨ (8 * j ≤ q ∧ q < 8 * j + k) then 1 else 0
theorem cM_bd (q j k : Int) : 0 ≤ cM q j k ∧ cM q j k ≤ 1 := by unfold cM; split <;> omega
theorem cM_hit (q j k : Int) (hq : 0 ≤ q) (hk : 0 ≤ k ∧ k < 5) (h : j * 64 + k * 8 = 8 * q) : cM q j k + 1 = cM q j (k + 1) := by
  unfold cM; rw [if_neg (by omega), if_pos (by omega)]; omega
theorem cM_miss (q j k : Int) (hq : 0 ≤ q) (hk : 0 ≤ k ∧ k < 5) (h : ¬ j * 64 + k * 8 = 8 * q) : cM q j k = cM q j (k + 1) := by
  unfold cM; split <;> split <;> omega
theorem cM_next (q j : Int) (hq : 0 ≤ q) : cM q j 5 = cM q (j + 1) 0 := by
  unfold cM; split <;> split <;> omega
theorem cM_zero (q : Int) (hq : 0 ≤ q) : cM q 0 0 = 0 := by unfold cM; rw [if_neg (by omega)]

set_option maxRecDepth 100000 in
set_option maxHeartbeats 2000000 in
theorem walkPlanCovers (s t i h n : Int) (w : World) (hn : 0 ≤ n ∧ n ≤ 65535) :
    Calls Try.prog 6 #[.agg #[.int .i64 s, .int .i64 t, .int .i64 i, .int .i64 h], .int .u16 n] w fun e w' => e = .returned (.bool true) ∧ Below w.heap.size w w' := by
  go_enter Try.func6, Try.ntmps6
  go_wp2_with fail; refine (shown05 _).mono ?_; rintro e w1 ⟨rfl, hb1⟩; have hz1 := hb1.size; (repeat (first | rw [World.size_alloc] at hz1 | rw [World.size_setCell] at hz1 | rw [World.size_drew] at hz1)); have zl1_w_0 : w.heap.size < w1.heap.size := (by omega); have ac1_w_0 := fun o => hb1.cell (p := ⟨w.heap.size, o, none⟩) (by first | omega | (simp; done) | (simp; omega)); have af1_w_0 := fun o => hb1.frozen (p := ⟨w.heap.size, o, none⟩) (by first | omega | (simp; done) | (simp; omega))
  go_wp2_with fail; refine (fit05_k _ _ _ _ _).mono ?_; rintro e w2 ⟨S, T, I, K, rfl, bs, bt, bi, bh, hb2⟩; have hz2 := hb2.size; (repeat (first | rw [World.size_alloc] at hz2 | rw [World.size_setCell] at hz2 | rw [World.size_drew] at hz2)); have zl2_w_0 : w.heap.size < w2.heap.size := (by omega); have ac2_w_0 := fun o => hb2.cell (p := ⟨w.heap.size, o, none⟩) (by first | omega | (simp; done) | (simp; omega)); have af2_w_0 := fun o => hb2.frozen (p := ⟨w.heap.size, o, none⟩) (by first | omega | (simp; done) | (simp; omega))
  have ok := ok_fit S T I K bs bt (by omega) (by omega)
  go_wp2_with fail; refine (size_t _ _ _ _ _ ok (by omega) (by omega) (by omega)).mono ?_; rintro e w3 ⟨rfl, hb3⟩; have hz3 := hb3.size; (repeat (first | rw [World.size_alloc] at hz3 | rw [World.size_setCell] at hz3 | rw [World.size_drew] at hz3)); have zl3_w2_0 : w2.heap.size < w3.heap.size := (by omega); have ac3_w2_0 := fun o => hb3.cell (p := ⟨w2.heap.size, o, none⟩) (by first | omega | (simp; done) | (simp; omega)); have af3_w2_0 := fun o => hb3.frozen (p := ⟨w2.heap.size, o, none⟩) (by first | omega | (simp; done) | (simp; omega))
  have hB3 : Below w.heap.size w w3 := by
    repeat (first | exact Below.refl _ _ | (refine Below.setCell ?_ (by first | omega | (simp; done) | (simp; omega)) _) | (refine Below.alloc ?_ (by first | omega | (simp; done) | (simp; omega)) _) | (refine Below.drew ?_) | (refine Below.trans ?_ (Below.mono (by assumption) (by first | omega | (simp; done) | (simp; omega)))))
  have hz0 : w.heap.size ≤ w3.heap.size := hB3.size
  have a0 : w3.cell? ⟨w2.heap.size, 0, none⟩ = some (.int .i64 S) := by go_simp
  have a1 : w3.cell? ⟨w2.heap.size, 1, none⟩ = some (.int .i64 T) := by go_simp
  have a2 : w3.cell? ⟨w2.heap.size, 2, none⟩ = some (.int .i64 (8 * I)) := by go_simp
  have a3 : w3.cell? ⟨w2.heap.size, 3, none⟩ = some (.int .i64 (8 * K)) := by go_simp
  have lt2 : w2.heap.size < w3.heap.size := by omega
  clear hb1 hb2 hb3 hz1 hz2 hz3 ac1_w_0 af1_w_0 ac2_w_0 af2_w_0 ac3_w2_0 af3_w2_0
  have eN : (S * 64 + 8 * I + 8 * K) / 8 = 8 * S + I + K := by omega
  have q0 : 0 ≤ n % (8 * S + I + K) ∧ n % (8 * S + I + K) < 8 * S + I + K := ⟨Int.emod_nonneg n (by omega), Int.emod_lt_of_pos n (by omega)⟩
  go_wp2_with fail
  clear eN
  generalize n % (8 * S + I + K) = q at q0 ⊢
  go_loopw [10, 11] (fun m j wr => ∃ x : Int, 0 ≤ x ∧ x ≤ S ∧ j = .int .i64 x ∧ m = .int .i64 (cM q x 0) ∧ Below w3.heap.size w3 wr) (fun _ j _ => (S - intOf j).toNat)
  case atStart => exact ⟨0, by omega, by omega, rfl, by rw [cM_zero q q0.1], Below.refl _ _⟩
  case round =>
    obtain ⟨x, hx0, hx1, rfl, rfl, hwr⟩ := hrel
    have k0 : wr.cell? ⟨w2.heap.size, 0, none⟩ = some (.int .i64 S) := by rw [hwr.cell (by exact lt2)]; exact a0
    have k1 : wr.cell? ⟨w2.heap.size, 1, none⟩ = some (.int .i64 T) := by rw [hwr.cell (by exact lt2)]; exact a1
    have k2 : wr.cell? ⟨w2.heap.size, 2, none⟩ = some (.int .i64 (8 * I)) := by rw [hwr.cell (by exact lt2)]; exact a2
    have k3 : wr.cell? ⟨w2.heap.size, 3, none⟩ = some (.int .i64 (8 * K)) := by rw [hwr.cell (by exact lt2)]; exact a3
    obtain ⟨wo, hwo⟩ : ∃ wo : World, wo = wr := ⟨_, rfl⟩
    subst hwo
    have hsz := hwr.size
    by_cases hlt : x < S
    · go_wp2_with fail
      go_loopw [10, 12] (fun m k wr => ∃ y : Int, 0 ≤ y ∧ y ≤ 5 ∧ k = .int .i64 y ∧ m = .int .i64 (cM q x y) ∧ Below wo.heap.size wo wr) (fun _ k _ => (5 - intOf k).toNat)
      case atStart => exact ⟨0, by omega, by omega, rfl, rfl, Below.refl _ _⟩
      case round =>
        obtain ⟨y, hy0, hy1, rfl, rfl, hwi⟩ := hrel
        have lt3 : w2.heap.size < wo.heap.size := by omega
        have l0 : wr.cell? ⟨w2.heap.size, 0, none⟩ = some (.int .i64 S) := by rw [hwi.cell (by exact lt3)]; exact k0
        have l1 : wr.cell? ⟨w2.heap.size, 1, none⟩ = some (.int .i64 T) := by rw [hwi.cell (by exact lt3)]; exact k1
        have l2 : wr.cell? ⟨w2.heap.size, 2, none⟩ = some (.int .i64 (8 * I)) := by rw [hwi.cell (by exact lt3)]; exact k2
        have l3 : wr.cell? ⟨w2.heap.size, 3, none⟩ = some (.int .i64 (8 * K)) := by rw [hwi.cell (by exact lt3)]; exact k3
        have hbd := cM_bd q x y
        by_cases hlt5 : y < 5
        · by_cases hit : x * 64 + y * 8 = 8 * q
          · have hM := Lib.hid (cM_hit q x y q0.1 (by omega) hit)
            have hb : (x * 64 + y * 8 == 8 * q) = true := by simpa using hit
            clear hit
            go_wp2_with (go_at_call 15; refine (at_t _ _ _ _ _ _ _ ok (by omega) (by omega) (by omega)).mono ?_; rintro e w9 ⟨rfl, hb9⟩)
            go_roundw
            case rel => exact ⟨y + 1, by omega, by omega, rfl, by rw [← hM.out], hwi.trans (hb9.mono hwi.size)⟩
            case measure => simp [intOf]; omega
          · have hM := Lib.hid (cM_miss q x y q0.1 (by omega) hit)
            have hb : (x * 64 + y * 8 == 8 * q) = false := by simpa using hit
            clear hit
            go_wp2_with (go_at_call 15; refine (at_t _ _ _ _ _ _ _ ok (by omega) (by omega) (by omega)).mono ?_; rintro e w9 ⟨rfl, hb9⟩)
            go_roundw
            case rel => exact ⟨y + 1, by omega, by omega, rfl, by rw [← hM.out], hwi.trans (hb9.mono hwi.size)⟩
            case measure => simp [intOf]; omega
        · obtain rfl : y = 5 := by omega
          have hM := Lib.hid (cM_next q x q0.1)
          go_wp2_with fail
          go_roundw
          case rel => exact ⟨x + 1, by omega, by omega, rfl, by rw [← hM.out], hwr.trans (hwi.mono hwr.size)⟩
          case measure => simp [intOf]; omega
    · obtain rfl : x = S := by omega
      have hBo : Below w.heap.size w wo := hB3.trans (hwr.mono hB3.size)
      have hzo := hBo.size
      clear hwr hB3
      rcases (by omega : (q < 8 * x ∧ q % 8 < 5) ∨ (q < 8 * x ∧ 5 ≤ q % 8) ∨ (8 * x ≤ q ∧ q < 8 * x + I) ∨ (8 * x + I ≤ q)) with hcase | hcase | hcase | hcase
      · have hc : cM q x 0 = 1 := by unfold cM; rw [if_pos (by omega)]
        go_wp2_with fail; refine (immortal_t _ _ _ _ _ ok (by omega)).mono ?_; rintro e w4 ⟨rfl, hb4⟩; have hz4 := hb4.size; (repeat (first | rw [World.size_alloc] at hz4 | rw [World.size_setCell] at hz4 | rw [World.size_drew] at hz4)); have zl4_w2_0 : w2.heap.size < w4.heap.size := (by omega); have ac4_w2_0 := fun o => hb4.cell (p := ⟨w2.heap.size, o, none⟩) (by first | omega | (simp; done) | (simp; omega)); have af4_w2_0 := fun o => hb4.frozen (p := ⟨w2.heap.size, o, none⟩) (by first | omega | (simp; done) | (simp; omega))
        go_wp2_with fail; refine (heap_t _ _ _ _ _ ok (by omega) (by omega)).mono ?_; rintro e w5 ⟨rfl, hb5⟩; have hz5 := hb5.size; (repeat (first | rw [World.size_alloc] at hz5 | rw [World.size_setCell] at hz5 | rw [World.size_drew] at hz5)); have zl5_w4_0 : w4.heap.size < w5.heap.size := (by omega); have ac5_w4_0 := fun o => hb5.cell (p := ⟨w4.heap.size, o, none⟩) (by first | omega | (simp; done) | (simp; omega)); have af5_w4_0 := fun o => hb5.frozen (p := ⟨w4.heap.size, o, none⟩) (by first | omega | (simp; done) | (simp; omega))
        go_wp2_with fail
        all_goals (go_ret; refine ⟨ret_b (by simp; try omega), ?_⟩)
        all_goals repeat (first | exact Below.refl _ _ | (refine Below.setCell ?_ (by first | omega | (simp; done) | (simp; omega)) _) | (refine Below.alloc ?_ (by first | omega | (simp; done) | (simp; omega)) _) | (refine Below.drew ?_) | (refine Below.trans ?_ (Below.mono (by assumption) (by first | omega | (simp; done) | (simp; omega)))))
      · have hc : cM q x 0 = 0 := by unfold cM; rw [if_neg (by omega)]
        go_wp2_with fail; refine (immortal_t _ _ _ _ _ ok (by omega)).mono ?_; rintro e w4 ⟨rfl, hb4⟩; have hz4 := hb4.size; (repeat (first | rw [World.size_alloc] at hz4 | rw [World.size_setCell] at hz4 | rw [World.size_drew] at hz4)); have zl4_w2_0 : w2.heap.size < w4.heap.size := (by omega); have ac4_w2_0 := fun o => hb4.cell (p := ⟨w2.heap.size, o, none⟩) (by first | omega | (simp; done) | (simp; omega)); have af4_w2_0 := fun o => hb4.frozen (p := ⟨w2.heap.size, o, none⟩) (by first | omega | (simp; done) | (simp; omega))
        go_wp2_with fail; refine (heap_t _ _ _ _ _ ok (by omega) (by omega)).mono ?_; rintro e w5 ⟨rfl, hb5⟩; have hz5 := hb5.size; (repeat (first | rw [World.size_alloc] at hz5 | rw [World.size_setCell] at hz5 | rw [World.size_drew] at hz5)); have zl5_w4_0 : w4.heap.size < w5.heap.size := (by omega); have ac5_w4_0 := fun o => hb5.cell (p := ⟨w4.heap.size, o, none⟩) (by first | omega | (simp; done) | (simp; omega)); have af5_w4_0 := fun o => hb5.frozen (p := ⟨w4.heap.size, o, none⟩) (by first | omega | (simp; done) | (simp; omega))
        go_wp2_with fail
        all_goals (go_ret; refine ⟨ret_b (by simp; try omega), ?_⟩)
        all_goals repeat (first | exact Below.refl _ _ | (refine Below.setCell ?_ (by first | omega | (simp; done) | (simp; omega)) _) | (refine Below.alloc ?_ (by first | omega | (simp; done) | (simp; omega)) _) | (refine Below.drew ?_) | (refine Below.trans ?_ (Below.mono (by assumption) (by first | omega | (simp; done) | (simp; omega)))))
      · have hc : cM q x 0 = 0 := by unfold cM; rw [if_neg (by omega)]
        go_wp2_with fail; refine (immortal_t _ _ _ _ _ ok (by omega)).mono ?_; rintro e w4 ⟨rfl, hb4⟩; have hz4 := hb4.size; (repeat (first | rw [World.size_alloc] at hz4 | rw [World.size_setCell] at hz4 | rw [World.size_drew] at hz4)); have zl4_w2_0 : w2.heap.size < w4.heap.size := (by omega); have ac4_w2_0 := fun o => hb4.cell (p := ⟨w2.heap.size, o, none⟩) (by first | omega | (simp; done) | (simp; omega)); have af4_w2_0 := fun o => hb4.frozen (p := ⟨w2.heap.size, o, none⟩) (by first | omega | (simp; done) | (simp; omega))
        go_wp2_with fail; refine (heap_t _ _ _ _ _ ok (by omega) (by omega)).mono ?_; rintro e w5 ⟨rfl, hb5⟩; have hz5 := hb5.size; (repeat (first | rw [World.size_alloc] at hz5 | rw [World.size_setCell] at hz5 | rw [World.size_drew] at hz5)); have zl5_w4_0 : w4.heap.size < w5.heap.size := (by omega); have ac5_w4_0 := fun o => hb5.cell (p := ⟨w4.heap.size, o, none⟩) (by first | omega | (simp; done) | (simp; omega)); have af5_w4_0 := fun o => hb5.frozen (p := ⟨w4.heap.size, o, none⟩) (by first | omega | (simp; done) | (simp; omega))
        go_wp2_with fail
        all_goals (go_ret; refine ⟨ret_b (by simp; try omega), ?_⟩)
        all_goals repeat (first | exact Below.refl _ _ | (refine Below.setCell ?_ (by first | omega | (simp; done) | (simp; omega)) _) | (refine Below.alloc ?_ (by first | omega | (simp; done) | (simp; omega)) _) | (refine Below.drew ?_) | (refine Below.trans ?_ (Below.mono (by assumption) (by first | omega | (simp; done) | (simp; omega)))))
      · have hc : cM q x 0 = 0 := by unfold cM; rw [if_neg (by omega)]
        go_wp2_with fail; refine (immortal_t _ _ _ _ _ ok (by omega)).mono ?_; rintro e w4 ⟨rfl, hb4⟩; have hz4 := hb4.size; (repeat (first | rw [World.size_alloc] at hz4 | rw [World.size_setCell] at hz4 | rw [World.size_drew] at hz4)); have zl4_w2_0 : w2.heap.size < w4.heap.size := (by omega); have ac4_w2_0 := fun o => hb4.cell (p := ⟨w2.heap.size, o, none⟩) (by first | omega | (simp; done) | (simp; omega)); have af4_w2_0 := fun o => hb4.frozen (p := ⟨w2.heap.size, o, none⟩) (by first | omega | (simp; done) | (simp; omega))
        go_wp2_with fail; refine (heap_t _ _ _ _ _ ok (by omega) (by omega)).mono ?_; rintro e w5 ⟨rfl, hb5⟩; have hz5 := hb5.size; (repeat (first | rw [World.size_alloc] at hz5 | rw [World.size_setCell] at hz5 | rw [World.size_drew] at hz5)); have zl5_w4_0 : w4.heap.size < w5.heap.size := (by omega); have ac5_w4_0 := fun o => hb5.cell (p := ⟨w4.heap.size, o, none⟩) (by first | omega | (simp; done) | (simp; omega)); have af5_w4_0 := fun o => hb5.frozen (p := ⟨w4.heap.size, o, none⟩) (by first | omega | (simp; done) | (simp; omega))
        go_wp2_with fail
        all_goals (go_ret; refine ⟨ret_b (by simp; try omega), ?_⟩)
        all_goals repeat (first | exact Below.refl _ _ | (refine Below.setCell ?_ (by first | omega | (simp; done) | (simp; omega)) _) | (refine Below.alloc ?_ (by first | omega | (simp; done) | (simp; omega)) _) | (refine Below.drew ?_) | (refine Below.trans ?_ (Below.mono (by assumption) (by first | omega | (simp; done) | (simp; omega)))))

end Go.Proofs.Ytnknkdcpdimpnaa
