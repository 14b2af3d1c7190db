/- The walk of PlanAll: it returns true, and nothing that was there changes. -/
import Derived.Test.YtnknkdcpdimpnaaPlan
import Derived.Deep.RegionHeld3
namespace Go.Proofs.Ytnknkdcpdimpnaa
set_option linter.unusedVariables false
open Go.RowKit

theorem rright_t (s t i h : Int) (w : World) (ok : okPlan s t i h) :
    Calls Try.prog 13 #[.agg #[.int .i64 s, .int .i64 t, .int .i64 i, .int .i64 h]] w fun x w' => x = .returned (.bool true) ∧ Below w.heap.size w w' := by
  have := rright_any s t i h w
  rwa [if_pos ok] at this
theorem rright_f (s t i h : Int) (w : World) (no : ¬ okPlan s t i h) :
    Calls Try.prog 13 #[.agg #[.int .i64 s, .int .i64 t, .int .i64 i, .int .i64 h]] w fun x w' => x = .returned (.bool false) ∧ Below w.heap.size w w' := by
  have := rright_any s t i h w
  rwa [if_neg no] at this

theorem rimmortal_c (s t i h : Int) (w : World) (hs : 1 ≤ s ∧ s ≤ 8) :
    Calls Try.prog 21 #[.agg #[.int .i64 s, .int .i64 t, .int .i64 i, .int .i64 h]] w fun x w' => x = .returned (.agg #[.int .i64 (s * 64), .int .i64 i]) ∧ Below w.heap.size w w' := by
  rw [Int.mul_comm]; exact rimmortal_t s t i h w hs
theorem rheap_c (s t i h : Int) (w : World) (hs : 1 ≤ s ∧ s ≤ 8) (hi : 0 ≤ i ∧ i ≤ 2048) :
    Calls Try.prog 22 #[.agg #[.int .i64 s, .int .i64 t, .int .i64 i, .int .i64 h]] w fun x w' => x = .returned (.agg #[.int .i64 (s * 64 + i), .int .i64 h]) ∧ Below w.heap.size w w' := by
  rw [Int.mul_comm]; exact rheap_t s t i h w hs hi

set_option maxRecDepth 100000 in
set_option maxHeartbeats 2000000 in
theorem walkPlanAllNo (s t i h p k : Int) (w : World) (no : Hid (¬ okPlan s t i h)) :
    Calls Try.prog 3 #[.agg #[.int .i64 s, .int .i64 t, .int .i64 i, .int .i64 h], .int .i64 p, .int .i64 k] w fun e w' => e = .returned (.bool true) ∧ Below w.heap.size w w' := by
  go_enter Try.func3, Try.ntmps3
  go_wp2_with fail; refine (shown05 _).mono ?_; rintro e w1 ⟨rfl, hb1⟩; have hz1 := hb1.size; (repeat (first | rw [World.size_alloc] at hz1 | rw [World.size_setCell] at hz1 | rw [World.size_drew] at hz1)); have zl1_w_0 : w.heap.size < w1.heap.size := (by omega); have ac1_w_0 := fun o => hb1.cell (p := ⟨w.heap.size, o, none⟩) (by first | omega | (simp; done) | (simp; omega)); have af1_w_0 := fun o => hb1.frozen (p := ⟨w.heap.size, o, none⟩) (by first | omega | (simp; done) | (simp; omega))
  go_wp2_with fail; refine (rright_f _ _ _ _ _ no.out).mono ?_; rintro e w2 ⟨rfl, hb2⟩; have hz2 := hb2.size; (repeat (first | rw [World.size_alloc] at hz2 | rw [World.size_setCell] at hz2 | rw [World.size_drew] at hz2)); have zl2_w_0 : w.heap.size < w2.heap.size := (by omega); have ac2_w_0 := fun o => hb2.cell (p := ⟨w.heap.size, o, none⟩) (by first | omega | (simp; done) | (simp; omega)); have af2_w_0 := fun o => hb2.frozen (p := ⟨w.heap.size, o, none⟩) (by first | omega | (simp; done) | (simp; omega))
  go_wp2_with fail; refine (size_f _ _ _ _ _ no).mono ?_; rintro e w3 ⟨rfl, hb3⟩; have hz3 := hb3.size; (repeat (first | rw [World.size_alloc] at hz3 | rw [World.size_setCell] at hz3 | rw [World.size_drew] at hz3)); have zl3_w_0 : w.heap.size < w3.heap.size := (by omega); have ac3_w_0 := fun o => hb3.cell (p := ⟨w.heap.size, o, none⟩) (by first | omega | (simp; done) | (simp; omega)); have af3_w_0 := fun o => hb3.frozen (p := ⟨w.heap.size, o, none⟩) (by first | omega | (simp; done) | (simp; omega))
  go_wp2_with fail; refine (at_f _ _ _ _ _ _ _ no).mono ?_; rintro e w4 ⟨rfl, hb4⟩; have hz4 := hb4.size; (repeat (first | rw [World.size_alloc] at hz4 | rw [World.size_setCell] at hz4 | rw [World.size_drew] at hz4)); have zl4_w_0 : w.heap.size < w4.heap.size := (by omega); have ac4_w_0 := fun o => hb4.cell (p := ⟨w.heap.size, o, none⟩) (by first | omega | (simp; done) | (simp; omega)); have af4_w_0 := fun o => hb4.frozen (p := ⟨w.heap.size, o, none⟩) (by first | omega | (simp; done) | (simp; omega))
  go_wp2_with fail; refine (immortal_f _ _ _ _ _ no).mono ?_; rintro e w5 ⟨rfl, hb5⟩; have hz5 := hb5.size; (repeat (first | rw [World.size_alloc] at hz5 | rw [World.size_setCell] at hz5 | rw [World.size_drew] at hz5)); have zl5_w_0 : w.heap.size < w5.heap.size := (by omega); have ac5_w_0 := fun o => hb5.cell (p := ⟨w.heap.size, o, none⟩) (by first | omega | (simp; done) | (simp; omega)); have af5_w_0 := fun o => hb5.frozen (p := ⟨w.heap.size, o, none⟩) (by first | omega | (simp; done) | (simp; omega))
  go_wp2_with fail; refine (heap_f _ _ _ _ _ no).mono ?_; rintro e w6 ⟨rfl, hb6⟩; have hz6 := hb6.size; (repeat (first | rw [World.size_alloc] at hz6 | rw [World.size_setCell] at hz6 | rw [World.size_drew] at hz6)); have zl6_w_0 : w.heap.size < w6.heap.size := (by omega); have ac6_w_0 := fun o => hb6.cell (p := ⟨w.heap.size, o, none⟩) (by first | omega | (simp; done) | (simp; omega)); have af6_w_0 := fun o => hb6.frozen (p := ⟨w.heap.size, o, none⟩) (by first | omega | (simp; done) | (simp; omega)); have zl6_w5_0 : w5.heap.size < w6.heap.size := (by omega); have ac6_w5_0 := fun o => hb6.cell (p := ⟨w5.heap.size, o, none⟩) (by first | omega | (simp; done) | (simp; omega)); have af6_w5_0 := fun o => hb6.frozen (p := ⟨w5.heap.size, o, none⟩) (by first | omega | (simp; done) | (simp; omega))
  go_wp2_with fail; refine (right_f _ _ _ _ _ no.out).mono ?_; rintro e w7 ⟨rfl, hb7⟩; have hz7 := hb7.size; (repeat (first | rw [World.size_alloc] at hz7 | rw [World.size_setCell] at hz7 | rw [World.size_drew] at hz7)); have zl7_w_0 : w.heap.size < w7.heap.size := (by omega); have ac7_w_0 := fun o => hb7.cell (p := ⟨w.heap.size, o, none⟩) (by first | omega | (simp; done) | (simp; omega)); have af7_w_0 := fun o => hb7.frozen (p := ⟨w.heap.size, o, none⟩) (by first | omega | (simp; done) | (simp; omega)); have zl7_w5_0 : w5.heap.size < w7.heap.size := (by omega); have ac7_w5_0 := fun o => hb7.cell (p := ⟨w5.heap.size, o, none⟩) (by first | omega | (simp; done) | (simp; omega)); have af7_w5_0 := fun o => hb7.frozen (p := ⟨w5.heap.size, o, none⟩) (by first | omega | (simp; done) | (simp; omega)); have zl7_w6_0 : w6.heap.size < w7.heap.size := (by omega); have ac7_w6_0 := fun o => hb7.cell (p := ⟨w6.heap.size, o, none⟩) (by first | omega | (simp; done) | (simp; omega)); have af7_w6_0 := fun o => hb7.frozen (p := ⟨w6.heap.size, o, none⟩) (by first | omega | (simp; done) | (simp; omega))
  go_wp2_with fail
  all_goals (go_ret; refine ⟨ret_b (by simp), ?_⟩)
  all_goals repeat (first | exact Below.refl _ _ | (refine Below.setCell ?_ (by first | omega | (simp; done) | (simp; omega)) _) | (refine Below.alloc ?_ (by first | omega | (simp; done) | (simp; omega)) _) | (refine Below.drew ?_) | (refine Below.trans ?_ (Below.mono (by assumption) (by first | omega | (simp; done) | (simp; omega)))))

set_option maxRecDepth 100000 in
set_option maxHeartbeats 2000000 in
theorem walkPlanAllAt (s t i h p k : Int) (w : World) (ok : Hid (okPlan s t i h)) (hs : 1 ≤ s ∧ s ≤ 8) (hi : 0 ≤ i ∧ i ≤ 2048) (hh : 0 ≤ h ∧ h ≤ 8192) (hp : 0 ≤ p ∧ p ≤ 4) (hk : 0 ≤ k ∧ k < s) :
    Calls Try.prog 3 #[.agg #[.int .i64 s, .int .i64 t, .int .i64 i, .int .i64 h], .int .i64 p, .int .i64 k] w fun e w' => e = .returned (.bool true) ∧ Below w.heap.size w w' := by
  go_enter Try.func3, Try.ntmps3
  go_wp2_with fail; refine (shown05 _).mono ?_; rintro e w1 ⟨rfl, hb1⟩; have hz1 := hb1.size; (repeat (first | rw [World.size_alloc] at hz1 | rw [World.size_setCell] at hz1 | rw [World.size_drew] at hz1)); have zl1_w_0 : w.heap.size < w1.heap.size := (by omega); have ac1_w_0 := fun o => hb1.cell (p := ⟨w.heap.size, o, none⟩) (by first | omega | (simp; done) | (simp; omega)); have af1_w_0 := fun o => hb1.frozen (p := ⟨w.heap.size, o, none⟩) (by first | omega | (simp; done) | (simp; omega))
  go_wp2_with fail; refine (rright_t _ _ _ _ _ ok.out).mono ?_; rintro e w2 ⟨rfl, hb2⟩; have hz2 := hb2.size; (repeat (first | rw [World.size_alloc] at hz2 | rw [World.size_setCell] at hz2 | rw [World.size_drew] at hz2)); have zl2_w_0 : w.heap.size < w2.heap.size := (by omega); have ac2_w_0 := fun o => hb2.cell (p := ⟨w.heap.size, o, none⟩) (by first | omega | (simp; done) | (simp; omega)); have af2_w_0 := fun o => hb2.frozen (p := ⟨w.heap.size, o, none⟩) (by first | omega | (simp; done) | (simp; omega))
  go_wp2_with fail; refine (size_t _ _ _ _ _ ok hs hi hh).mono ?_; rintro e w3 ⟨rfl, hb3⟩; have hz3 := hb3.size; (repeat (first | rw [World.size_alloc] at hz3 | rw [World.size_setCell] at hz3 | rw [World.size_drew] at hz3)); have zl3_w_0 : w.heap.size < w3.heap.size := (by omega); have ac3_w_0 := fun o => hb3.cell (p := ⟨w.heap.size, o, none⟩) (by first | omega | (simp; done) | (simp; omega)); have af3_w_0 := fun o => hb3.frozen (p := ⟨w.heap.size, o, none⟩) (by first | omega | (simp; done) | (simp; omega))
  go_wp2_with fail; refine (at_t _ _ _ _ _ _ _ ok hs hp hk).mono ?_; rintro e w4 ⟨rfl, hb4⟩; have hz4 := hb4.size; (repeat (first | rw [World.size_alloc] at hz4 | rw [World.size_setCell] at hz4 | rw [World.size_drew] at hz4)); have zl4_w_0 : w.heap.size < w4.heap.size := (by omega); have ac4_w_0 := fun o => hb4.cell (p := ⟨w.heap.size, o, none⟩) (by first | omega | (simp; done) | (simp; omega)); have af4_w_0 := fun o => hb4.frozen (p := ⟨w.heap.size, o, none⟩) (by first | omega | (simp; done) | (simp; omega))
  go_wp2_with fail; refine (immortal_t _ _ _ _ _ ok hs).mono ?_; rintro e w5 ⟨rfl, hb5⟩; have hz5 := hb5.size; (repeat (first | rw [World.size_alloc] at hz5 | rw [World.size_setCell] at hz5 | rw [World.size_drew] at hz5)); have zl5_w_0 : w.heap.size < w5.heap.size := (by omega); have ac5_w_0 := fun o => hb5.cell (p := ⟨w.heap.size, o, none⟩) (by first | omega | (simp; done) | (simp; omega)); have af5_w_0 := fun o => hb5.frozen (p := ⟨w.heap.size, o, none⟩) (by first | omega | (simp; done) | (simp; omega))
  go_wp2_with fail; refine (heap_t _ _ _ _ _ ok hs hi).mono ?_; rintro e w6 ⟨rfl, hb6⟩; have hz6 := hb6.size; (repeat (first | rw [World.size_alloc] at hz6 | rw [World.size_setCell] at hz6 | rw [World.size_drew] at hz6)); have zl6_w_0 : w.heap.size < w6.heap.size := (by omega); have ac6_w_0 := fun o => hb6.cell (p := ⟨w.heap.size, o, none⟩) (by first | omega | (simp; done) | (simp; omega)); have af6_w_0 := fun o => hb6.frozen (p := ⟨w.heap.size, o, none⟩) (by first | omega | (simp; done) | (simp; omega)); have zl6_w5_0 : w5.heap.size < w6.heap.size := (by omega); have ac6_w5_0 := fun o => hb6.cell (p := ⟨w5.heap.size, o, none⟩) (by first | omega | (simp; done) | (simp; omega)); have af6_w5_0 := fun o => hb6.frozen (p := ⟨w5.heap.size, o, none⟩) (by first | omega | (simp; done) | (simp; omega))
  go_wp2_with fail; refine (right_t _ _ _ _ _ ok.out).mono ?_; rintro e w7 ⟨rfl, hb7⟩; have hz7 := hb7.size; (repeat (first | rw [World.size_alloc] at hz7 | rw [World.size_setCell] at hz7 | rw [World.size_drew] at hz7)); have zl7_w_0 : w.heap.size < w7.heap.size := (by omega); have ac7_w_0 := fun o => hb7.cell (p := ⟨w.heap.size, o, none⟩) (by first | omega | (simp; done) | (simp; omega)); have af7_w_0 := fun o => hb7.frozen (p := ⟨w.heap.size, o, none⟩) (by first | omega | (simp; done) | (simp; omega)); have zl7_w5_0 : w5.heap.size < w7.heap.size := (by omega); have ac7_w5_0 := fun o => hb7.cell (p := ⟨w5.heap.size, o, none⟩) (by first | omega | (simp; done) | (simp; omega)); have af7_w5_0 := fun o => hb7.frozen (p := ⟨w5.heap.size, o, none⟩) (by first | omega | (simp; done) | (simp; omega)); have zl7_w6_0 : w6.heap.size < w7.heap.size := (by omega); have ac7_w6_0 := fun o => hb7.cell (p := ⟨w6.heap.size, o, none⟩) (by first | omega | (simp; done) | (simp; omega)); have af7_w6_0 := fun o => hb7.frozen (p := ⟨w6.heap.size, o, none⟩) (by first | omega | (simp; done) | (simp; omega))
  go_wp2_with fail; refine (rat_t _ _ _ hp (by omega)).mono ?_; rintro e w8 ⟨rfl, hb8⟩; have hz8 := hb8.size; (repeat (first | rw [World.size_alloc] at hz8 | rw [World.size_setCell] at hz8 | rw [World.size_drew] at hz8)); have zl8_w_0 : w.heap.size < w8.heap.size := (by omega); have ac8_w_0 := fun o => hb8.cell (p := ⟨w.heap.size, o, none⟩) (by first | omega | (simp; done) | (simp; omega)); have af8_w_0 := fun o => hb8.frozen (p := ⟨w.heap.size, o, none⟩) (by first | omega | (simp; done) | (simp; omega)); have zl8_w5_0 : w5.heap.size < w8.heap.size := (by omega); have ac8_w5_0 := fun o => hb8.cell (p := ⟨w5.heap.size, o, none⟩) (by first | omega | (simp; done) | (simp; omega)); have af8_w5_0 := fun o => hb8.frozen (p := ⟨w5.heap.size, o, none⟩) (by first | omega | (simp; done) | (simp; omega)); have zl8_w6_0 : w6.heap.size < w8.heap.size := (by omega); have ac8_w6_0 := fun o => hb8.cell (p := ⟨w6.heap.size, o, none⟩) (by first | omega | (simp; done) | (simp; omega)); have af8_w6_0 := fun o => hb8.frozen (p := ⟨w6.heap.size, o, none⟩) (by first | omega | (simp; done) | (simp; omega))
  go_wp2_with fail
  have hB : Below w.heap.size w w8 := by
    repeat (first | exact Below.refl _ _ | (refine Below.setCell ?_ (by first | omega | (simp; done) | (simp; omega)) _) | (refine Below.alloc ?_ (by first | omega | (simp; done) | (simp; omega)) _) | (refine Below.drew ?_) | (refine Below.trans ?_ (Below.mono (by assumption) (by first | omega | (simp; done) | (simp; omega)))))
  have a0 : w8.cell? ⟨w.heap.size, 0, none⟩ = some (.int .i64 s) := by go_simp
  have a1 : w8.cell? ⟨w.heap.size, 1, none⟩ = some (.int .i64 t) := by go_simp
  have a2 : w8.cell? ⟨w.heap.size, 2, none⟩ = some (.int .i64 i) := by go_simp
  have a3 : w8.cell? ⟨w.heap.size, 3, none⟩ = some (.int .i64 h) := by go_simp
  have b0 : w8.cell? ⟨w5.heap.size, 0, none⟩ = some (.int .i64 (s * 64)) := by go_simp
  have b1 : w8.cell? ⟨w5.heap.size, 1, none⟩ = some (.int .i64 i) := by go_simp
  have c0 : w8.cell? ⟨w6.heap.size, 0, none⟩ = some (.int .i64 (s * 64 + i)) := by go_simp
  have c1 : w8.cell? ⟨w6.heap.size, 1, none⟩ = some (.int .i64 h) := by go_simp
  have x0 : ∀ w', Below w8.heap.size w8 w' → w'.cell? ⟨w.heap.size, 0, none⟩ = some (.int .i64 s) := fun w' g => by rw [g.cell (p := ⟨w.heap.size, 0, none⟩) (by simp; omega)]; exact a0
  have x1 : ∀ w', Below w8.heap.size w8 w' → w'.cell? ⟨w.heap.size, 1, none⟩ = some (.int .i64 t) := fun w' g => by rw [g.cell (p := ⟨w.heap.size, 1, none⟩) (by simp; omega)]; exact a1
  have x2 : ∀ w', Below w8.heap.size w8 w' → w'.cell? ⟨w.heap.size, 2, none⟩ = some (.int .i64 i) := fun w' g => by rw [g.cell (p := ⟨w.heap.size, 2, none⟩) (by simp; omega)]; exact a2
  have x3 : ∀ w', Below w8.heap.size w8 w' → w'.cell? ⟨w.heap.size, 3, none⟩ = some (.int .i64 h) := fun w' g => by rw [g.cell (p := ⟨w.heap.size, 3, none⟩) (by simp; omega)]; exact a3
  have y0 : ∀ w', Below w8.heap.size w8 w' → w'.cell? ⟨w5.heap.size, 0, none⟩ = some (.int .i64 (s * 64)) := fun w' g => by rw [g.cell (p := ⟨w5.heap.size, 0, none⟩) (by simp; omega)]; exact b0
  have y1 : ∀ w', Below w8.heap.size w8 w' → w'.cell? ⟨w5.heap.size, 1, none⟩ = some (.int .i64 i) := fun w' g => by rw [g.cell (p := ⟨w5.heap.size, 1, none⟩) (by simp; omega)]; exact b1
  have z0 : ∀ w', Below w8.heap.size w8 w' → w'.cell? ⟨w6.heap.size, 0, none⟩ = some (.int .i64 (s * 64 + i)) := fun w' g => by rw [g.cell (p := ⟨w6.heap.size, 0, none⟩) (by simp; omega)]; exact c0
  have z1 : ∀ w', Below w8.heap.size w8 w' → w'.cell? ⟨w6.heap.size, 1, none⟩ = some (.int .i64 h) := fun w' g => by rw [g.cell (p := ⟨w6.heap.size, 1, none⟩) (by simp; omega)]; exact c1
  have hz : w.heap.size < w8.heap.size := by omega
  clear a0 a1 a2 a3 b0 b1 c0 c1 hb1 hb2 hb3 hb4 hb5 hb6 hb7 hb8 hz1 hz2 hz3 hz4 hz5 hz6 hz7 hz8
  clear ac1_w_0 ac2_w_0 ac3_w_0 ac4_w_0 ac5_w_0 ac6_w_0 ac7_w_0 ac8_w_0 af1_w_0 af2_w_0 af3_w_0 af4_w_0 af5_w_0 af6_w_0 af7_w_0 af8_w_0
  clear ac6_w5_0 ac7_w5_0 ac8_w5_0 af6_w5_0 af7_w5_0 af8_w5_0 ac7_w6_0 ac8_w6_0 af7_w6_0 af8_w6_0
  go_region_held3 (fun w' => Below w8.heap.size w8 w') (first | exact (Below.refl _ _).drew | assumption | exact Below.trans (by assumption) (Below.mono (by assumption) (Below.size (by assumption))))
    (first | (go_at_call 20; refine (rsize_t _ _ _ _ _ hs hi hh).mono ?_; rintro e w9 ⟨rfl, hb9⟩) | (go_at_call 21; refine (rimmortal_c _ _ _ _ _ hs).mono ?_; rintro e w9 ⟨rfl, hb9⟩) | (go_at_call 22; refine (rheap_c _ _ _ _ _ hs hi).mono ?_; rintro e w9 ⟨rfl, hb9⟩))
  go_wp2_with fail
  go_ret; refine ⟨ret_b (by simp), ?_⟩
  exact hB.trans (Below.mono (by assumption) (by omega))

set_option maxRecDepth 100000 in
set_option maxHeartbeats 2000000 in
theorem walkPlanAllP1 (s t i h p k : Int) (w : World) (ok : Hid (okPlan s t i h)) (hs : 1 ≤ s ∧ s ≤ 8) (hi : 0 ≤ i ∧ i ≤ 2048) (hh : 0 ≤ h ∧ h ≤ 8192) (hp : p < 0) :
    Calls Try.prog 3 #[.agg #[.int .i64 s, .int .i64 t, .int .i64 i, .int .i64 h], .int .i64 p, .int .i64 k] w fun e w' => e = .returned (.bool true) ∧ Below w.heap.size w w' := by
  go_enter Try.func3, Try.ntmps3
  go_wp2_with fail; refine (shown05 _).mono ?_; rintro e w1 ⟨rfl, hb1⟩; have hz1 := hb1.size; (repeat (first | rw [World.size_alloc] at hz1 | rw [World.size_setCell] at hz1 | rw [World.size_drew] at hz1)); have zl1_w_0 : w.heap.size < w1.heap.size := (by omega); have ac1_w_0 := fun o => hb1.cell (p := ⟨w.heap.size, o, none⟩) (by first | omega | (simp; done) | (simp; omega)); have af1_w_0 := fun o => hb1.frozen (p := ⟨w.heap.size, o, none⟩) (by first | omega | (simp; done) | (simp; omega))
  go_wp2_with fail; refine (rright_t _ _ _ _ _ ok.out).mono ?_; rintro e w2 ⟨rfl, hb2⟩; have hz2 := hb2.size; (repeat (first | rw [World.size_alloc] at hz2 | rw [World.size_setCell] at hz2 | rw [World.size_drew] at hz2)); have zl2_w_0 : w.heap.size < w2.heap.size := (by omega); have ac2_w_0 := fun o => hb2.cell (p := ⟨w.heap.size, o, none⟩) (by first | omega | (simp; done) | (simp; omega)); have af2_w_0 := fun o => hb2.frozen (p := ⟨w.heap.size, o, none⟩) (by first | omega | (simp; done) | (simp; omega))
  go_wp2_with fail; refine (size_t _ _ _ _ _ ok hs hi hh).mono ?_; rintro e w3 ⟨rfl, hb3⟩; have hz3 := hb3.size; (repeat (first | rw [World.size_alloc] at hz3 | rw [World.size_setCell] at hz3 | rw [World.size_drew] at hz3)); have zl3_w_0 : w.heap.size < w3.heap.size := (by omega); have ac3_w_0 := fun o => hb3.cell (p := ⟨w.heap.size, o, none⟩) (by first | omega | (simp; done) | (simp; omega)); have af3_w_0 := fun o => hb3.frozen (p := ⟨w.heap.size, o, none⟩) (by first | omega | (simp; done) | (simp; omega))
  go_wp2_with fail; refine (at_p _ _ _ _ _ _ _ ok (by omega)).mono ?_; rintro e w4 ⟨rfl, hb4⟩; have hz4 := hb4.size; (repeat (first | rw [World.size_alloc] at hz4 | rw [World.size_setCell] at hz4 | rw [World.size_drew] at hz4)); have zl4_w_0 : w.heap.size < w4.heap.size := (by omega); have ac4_w_0 := fun o => hb4.cell (p := ⟨w.heap.size, o, none⟩) (by first | omega | (simp; done) | (simp; omega)); have af4_w_0 := fun o => hb4.frozen (p := ⟨w.heap.size, o, none⟩) (by first | omega | (simp; done) | (simp; omega))
  go_wp2_with fail; refine (immortal_t _ _ _ _ _ ok hs).mono ?_; rintro e w5 ⟨rfl, hb5⟩; have hz5 := hb5.size; (repeat (first | rw [World.size_alloc] at hz5 | rw [World.size_setCell] at hz5 | rw [World.size_drew] at hz5)); have zl5_w_0 : w.heap.size < w5.heap.size := (by omega); have ac5_w_0 := fun o => hb5.cell (p := ⟨w.heap.size, o, none⟩) (by first | omega | (simp; done) | (simp; omega)); have af5_w_0 := fun o => hb5.frozen (p := ⟨w.heap.size, o, none⟩) (by first | omega | (simp; done) | (simp; omega))
  go_wp2_with fail; refine (heap_t _ _ _ _ _ ok hs hi).mono ?_; rintro e w6 ⟨rfl, hb6⟩; have hz6 := hb6.size; (repeat (first | rw [World.size_alloc] at hz6 | rw [World.size_setCell] at hz6 | rw [World.size_drew] at hz6)); have zl6_w_0 : w.heap.size < w6.heap.size := (by omega); have ac6_w_0 := fun o => hb6.cell (p := ⟨w.heap.size, o, none⟩) (by first | omega | (simp; done) | (simp; omega)); have af6_w_0 := fun o => hb6.frozen (p := ⟨w.heap.size, o, none⟩) (by first | omega | (simp; done) | (simp; omega)); have zl6_w5_0 : w5.heap.size < w6.heap.size := (by omega); have ac6_w5_0 := fun o => hb6.cell (p := ⟨w5.heap.size, o, none⟩) (by first | omega | (simp; done) | (simp; omega)); have af6_w5_0 := fun o => hb6.frozen (p := ⟨w5.heap.size, o, none⟩) (by first | omega | (simp; done) | (simp; omega))
  go_wp2_with fail; refine (right_t _ _ _ _ _ ok.out).mono ?_; rintro e w7 ⟨rfl, hb7⟩; have hz7 := hb7.size; (repeat (first | rw [World.size_alloc] at hz7 | rw [World.size_setCell] at hz7 | rw [World.size_drew] at hz7)); have zl7_w_0 : w.heap.size < w7.heap.size := (by omega); have ac7_w_0 := fun o => hb7.cell (p := ⟨w.heap.size, o, none⟩) (by first | omega | (simp; done) | (simp; omega)); have af7_w_0 := fun o => hb7.frozen (p := ⟨w.heap.size, o, none⟩) (by first | omega | (simp; done) | (simp; omega)); have zl7_w5_0 : w5.heap.size < w7.heap.size := (by omega); have ac7_w5_0 := fun o => hb7.cell (p := ⟨w5.heap.size, o, none⟩) (by first | omega | (simp; done) | (simp; omega)); have af7_w5_0 := fun o => hb7.frozen (p := ⟨w5.heap.size, o, none⟩) (by first | omega | (simp; done) | (simp; omega)); have zl7_w6_0 : w6.heap.size < w7.heap.size := (by omega); have ac7_w6_0 := fun o => hb7.cell (p := ⟨w6.heap.size, o, none⟩) (by first | omega | (simp; done) | (simp; omega)); have af7_w6_0 := fun o => hb7.frozen (p := ⟨w6.heap.size, o, none⟩) (by first | omega | (simp; done) | (simp; omega))
  go_wp2_with fail
  have hB : Below w.heap.size w w7 := by
    repeat (first | exact Below.refl _ _ | (refine Below.setCell ?_ (by first | omega | (simp; done) | (simp; omega)) _) | (refine Below.alloc ?_ (by first | omega | (simp; done) | (simp; omega)) _) | (refine Below.drew ?_) | (refine Below.trans ?_ (Below.mono (by assumption) (by first | omega | (simp; done) | (simp; omega)))))
  have a0 : w7.cell? ⟨w.heap.size, 0, none⟩ = some (.int .i64 s) := by go_simp
  have a1 : w7.cell? ⟨w.heap.size, 1, none⟩ = some (.int .i64 t) := by go_simp
  have a2 : w7.cell? ⟨w.heap.size, 2, none⟩ = some (.int .i64 i) := by go_simp
  have a3 : w7.cell? ⟨w.heap.size, 3, none⟩ = some (.int .i64 h) := by go_simp
  have b0 : w7.cell? ⟨w5.heap.size, 0, none⟩ = some (.int .i64 (s * 64)) := by go_simp
  have b1 : w7.cell? ⟨w5.heap.size, 1, none⟩ = some (.int .i64 i) := by go_simp
  have c0 : w7.cell? ⟨w6.heap.size, 0, none⟩ = some (.int .i64 (s * 64 + i)) := by go_simp
  have c1 : w7.cell? ⟨w6.heap.size, 1, none⟩ = some (.int .i64 h) := by go_simp
  have x0 : ∀ w', Below w7.heap.size w7 w' → w'.cell? ⟨w.heap.size, 0, none⟩ = some (.int .i64 s) := fun w' g => by rw [g.cell (p := ⟨w.heap.size, 0, none⟩) (by simp; omega)]; exact a0
  have x1 : ∀ w', Below w7.heap.size w7 w' → w'.cell? ⟨w.heap.size, 1, none⟩ = some (.int .i64 t) := fun w' g => by rw [g.cell (p := ⟨w.heap.size, 1, none⟩) (by simp; omega)]; exact a1
  have x2 : ∀ w', Below w7.heap.size w7 w' → w'.cell? ⟨w.heap.size, 2, none⟩ = some (.int .i64 i) := fun w' g => by rw [g.cell (p := ⟨w.heap.size, 2, none⟩) (by simp; omega)]; exact a2
  have x3 : ∀ w', Below w7.heap.size w7 w' → w'.cell? ⟨w.heap.size, 3, none⟩ = some (.int .i64 h) := fun w' g => by rw [g.cell (p := ⟨w.heap.size, 3, none⟩) (by simp; omega)]; exact a3
  have y0 : ∀ w', Below w7.heap.size w7 w' → w'.cell? ⟨w5.heap.size, 0, none⟩ = some (.int .i64 (s * 64)) := fun w' g => by rw [g.cell (p := ⟨w5.heap.size, 0, none⟩) (by simp; omega)]; exact b0
  have y1 : ∀ w', Below w7.heap.size w7 w' → w'.cell? ⟨w5.heap.size, 1, none⟩ = some (.int .i64 i) := fun w' g => by rw [g.cell (p := ⟨w5.heap.size, 1, none⟩) (by simp; omega)]; exact b1
  have z0 : ∀ w', Below w7.heap.size w7 w' → w'.cell? ⟨w6.heap.size, 0, none⟩ = some (.int .i64 (s * 64 + i)) := fun w' g => by rw [g.cell (p := ⟨w6.heap.size, 0, none⟩) (by simp; omega)]; exact c0
  have z1 : ∀ w', Below w7.heap.size w7 w' → w'.cell? ⟨w6.heap.size, 1, none⟩ = some (.int .i64 h) := fun w' g => by rw [g.cell (p := ⟨w6.heap.size, 1, none⟩) (by simp; omega)]; exact c1
  have hz : w.heap.size < w7.heap.size := by omega
  clear a0 a1 a2 a3 b0 b1 c0 c1 hb1 hb2 hb3 hb4 hb5 hb6 hb7 hz1 hz2 hz3 hz4 hz5 hz6 hz7 
  clear ac1_w_0 ac2_w_0 ac3_w_0 ac4_w_0 ac5_w_0 ac6_w_0 ac7_w_0 af1_w_0 af2_w_0 af3_w_0 af4_w_0 af5_w_0 af6_w_0 af7_w_0
  clear ac6_w5_0 ac7_w5_0 af6_w5_0 af7_w5_0 ac7_w6_0 af7_w6_0
  go_region_held3 (fun w' => Below w7.heap.size w7 w') (first | exact (Below.refl _ _).drew | assumption | exact Below.trans (by assumption) (Below.mono (by assumption) (Below.size (by assumption))))
    (first | (go_at_call 20; refine (rsize_t _ _ _ _ _ hs hi hh).mono ?_; rintro e w9 ⟨rfl, hb9⟩) | (go_at_call 21; refine (rimmortal_c _ _ _ _ _ hs).mono ?_; rintro e w9 ⟨rfl, hb9⟩) | (go_at_call 22; refine (rheap_c _ _ _ _ _ hs hi).mono ?_; rintro e w9 ⟨rfl, hb9⟩))
  go_wp2_with fail
  go_ret; refine ⟨ret_b (by simp), ?_⟩
  exact hB.trans (Below.mono (by assumption) (by omega))

set_option maxRecDepth 100000 in
set_option maxHeartbeats 2000000 in
theorem walkPlanAllP2 (s t i h p k : Int) (w : World) (ok : Hid (okPlan s t i h)) (hs : 1 ≤ s ∧ s ≤ 8) (hi : 0 ≤ i ∧ i ≤ 2048) (hh : 0 ≤ h ∧ h ≤ 8192) (hp : 4 < p) :
    Calls Try.prog 3 #[.agg #[.int .i64 s, .int .i64 t, .int .i64 i, .int .i64 h], .int .i64 p, .int .i64 k] w fun e w' => e = .returned (.bool true) ∧ Below w.heap.size w w' := by
  go_enter Try.func3, Try.ntmps3
  go_wp2_with fail; refine (shown05 _).mono ?_; rintro e w1 ⟨rfl, hb1⟩; have hz1 := hb1.size; (repeat (first | rw [World.size_alloc] at hz1 | rw [World.size_setCell] at hz1 | rw [World.size_drew] at hz1)); have zl1_w_0 : w.heap.size < w1.heap.size := (by omega); have ac1_w_0 := fun o => hb1.cell (p := ⟨w.heap.size, o, none⟩) (by first | omega | (simp; done) | (simp; omega)); have af1_w_0 := fun o => hb1.frozen (p := ⟨w.heap.size, o, none⟩) (by first | omega | (simp; done) | (simp; omega))
  go_wp2_with fail; refine (rright_t _ _ _ _ _ ok.out).mono ?_; rintro e w2 ⟨rfl, hb2⟩; have hz2 := hb2.size; (repeat (first | rw [World.size_alloc] at hz2 | rw [World.size_setCell] at hz2 | rw [World.size_drew] at hz2)); have zl2_w_0 : w.heap.size < w2.heap.size := (by omega); have ac2_w_0 := fun o => hb2.cell (p := ⟨w.heap.size, o, none⟩) (by first | omega | (simp; done) | (simp; omega)); have af2_w_0 := fun o => hb2.frozen (p := ⟨w.heap.size, o, none⟩) (by first | omega | (simp; done) | (simp; omega))
  go_wp2_with fail; refine (size_t _ _ _ _ _ ok hs hi hh).mono ?_; rintro e w3 ⟨rfl, hb3⟩; have hz3 := hb3.size; (repeat (first | rw [World.size_alloc] at hz3 | rw [World.size_setCell] at hz3 | rw [World.size_drew] at hz3)); have zl3_w_0 : w.heap.size < w3.heap.size := (by omega); have ac3_w_0 := fun o => hb3.cell (p := ⟨w.heap.size, o, none⟩) (by first | omega | (simp; done) | (simp; omega)); have af3_w_0 := fun o => hb3.frozen (p := ⟨w.heap.size, o, none⟩) (by first | omega | (simp; done) | (simp; omega))
  go_wp2_with fail; refine (at_p _ _ _ _ _ _ _ ok (by omega)).mono ?_; rintro e w4 ⟨rfl, hb4⟩; have hz4 := hb4.size; (repeat (first | rw [World.size_alloc] at hz4 | rw [World.size_setCell] at hz4 | rw [World.size_drew] at hz4)); have zl4_w_0 : w.heap.size < w4.heap.size := (by omega); have ac4_w_0 := fun o => hb4.cell (p := ⟨w.heap.size, o, none⟩) (by first | omega | (simp; done) | (simp; omega)); have af4_w_0 := fun o => hb4.frozen (p := ⟨w.heap.size, o, none⟩) (by first | omega | (simp; done) | (simp; omega))
  go_wp2_with fail; refine (immortal_t _ _ _ _ _ ok hs).mono ?_; rintro e w5 ⟨rfl, hb5⟩; have hz5 := hb5.size; (repeat (first | rw [World.size_alloc] at hz5 | rw [World.size_setCell] at hz5 | rw [World.size_drew] at hz5)); have zl5_w_0 : w.heap.size < w5.heap.size := (by omega); have ac5_w_0 := fun o => hb5.cell (p := ⟨w.heap.size, o, none⟩) (by first | omega | (simp; done) | (simp; omega)); have af5_w_0 := fun o => hb5.frozen (p := ⟨w.heap.size, o, none⟩) (by first | omega | (simp; done) | (simp; omega))
  go_wp2_with fail; refine (heap_t _ _ _ _ _ ok hs hi).mono ?_; rintro e w6 ⟨rfl, hb6⟩; have hz6 := hb6.size; (repeat (first | rw [World.size_alloc] at hz6 | rw [World.size_setCell] at hz6 | rw [World.size_drew] at hz6)); have zl6_w_0 : w.heap.size < w6.heap.size := (by omega); have ac6_w_0 := fun o => hb6.cell (p := ⟨w.heap.size, o, none⟩) (by first | omega | (simp; done) | (simp; omega)); have af6_w_0 := fun o => hb6.frozen (p := ⟨w.heap.size, o, none⟩) (by first | omega | (simp; done) | (simp; omega)); have zl6_w5_0 : w5.heap.size < w6.heap.size := (by omega); have ac6_w5_0 := fun o => hb6.cell (p := ⟨w5.heap.size, o, none⟩) (by first | omega | (simp; done) | (simp; omega)); have af6_w5_0 := fun o => hb6.frozen (p := ⟨w5.heap.size, o, none⟩) (by first | omega | (simp; done) | (simp; omega))
  go_wp2_with fail; refine (right_t _ _ _ _ _ ok.out).mono ?_; rintro e w7 ⟨rfl, hb7⟩; have hz7 := hb7.size; (repeat (first | rw [World.size_alloc] at hz7 | rw [World.size_setCell] at hz7 | rw [World.size_drew] at hz7)); have zl7_w_0 : w.heap.size < w7.heap.size := (by omega); have ac7_w_0 := fun o => hb7.cell (p := ⟨w.heap.size, o, none⟩) (by first | omega | (simp; done) | (simp; omega)); have af7_w_0 := fun o => hb7.frozen (p := ⟨w.heap.size, o, none⟩) (by first | omega | (simp; done) | (simp; omega)); have zl7_w5_0 : w5.heap.size < w7.heap.size := (by omega); have ac7_w5_0 := fun o => hb7.cell (p := ⟨w5.heap.size, o, none⟩) (by first | omega | (simp; done) | (simp; omega)); have af7_w5_0 := fun o => hb7.frozen (p := ⟨w5.heap.size, o, none⟩) (by first | omega | (simp; done) | (simp; omega)); have zl7_w6_0 : w6.heap.size < w7.heap.size := (by omega); have ac7_w6_0 := fun o => hb7.cell (p := ⟨w6.heap.size, o, none⟩) (by first | omega | (simp; done) | (simp; omega)); have af7_w6_0 := fun o => hb7.frozen (p := ⟨w6.heap.size, o, none⟩) (by first | omega | (simp; done) | (simp; omega))
  go_wp2_with fail
  have hB : Below w.heap.size w w7 := by
    repeat (first | exact Below.refl _ _ | (refine Below.setCell ?_ (by first | omega | (simp; done) | (simp; omega)) _) | (refine Below.alloc ?_ (by first | omega | (simp; done) | (simp; omega)) _) | (refine Below.drew ?_) | (refine Below.trans ?_ (Below.mono (by assumption) (by first | omega | (simp; done) | (simp; omega)))))
  have a0 : w7.cell? ⟨w.heap.size, 0, none⟩ = some (.int .i64 s) := by go_simp
  have a1 : w7.cell? ⟨w.heap.size, 1, none⟩ = some (.int .i64 t) := by go_simp
  have a2 : w7.cell? ⟨w.heap.size, 2, none⟩ = some (.int .i64 i) := by go_simp
  have a3 : w7.cell? ⟨w.heap.size, 3, none⟩ = some (.int .i64 h) := by go_simp
  have b0 : w7.cell? ⟨w5.heap.size, 0, none⟩ = some (.int .i64 (s * 64)) := by go_simp
  have b1 : w7.cell? ⟨w5.heap.size, 1, none⟩ = some (.int .i64 i) := by go_simp
  have c0 : w7.cell? ⟨w6.heap.size, 0, none⟩ = some (.int .i64 (s * 64 + i)) := by go_simp
  have c1 : w7.cell? ⟨w6.heap.size, 1, none⟩ = some (.int .i64 h) := by go_simp
  have x0 : ∀ w', Below w7.heap.size w7 w' → w'.cell? ⟨w.heap.size, 0, none⟩ = some (.int .i64 s) := fun w' g => by rw [g.cell (p := ⟨w.heap.size, 0, none⟩) (by simp; omega)]; exact a0
  have x1 : ∀ w', Below w7.heap.size w7 w' → w'.cell? ⟨w.heap.size, 1, none⟩ = some (.int .i64 t) := fun w' g => by rw [g.cell (p := ⟨w.heap.size, 1, none⟩) (by simp; omega)]; exact a1
  have x2 : ∀ w', Below w7.heap.size w7 w' → w'.cell? ⟨w.heap.size, 2, none⟩ = some (.int .i64 i) := fun w' g => by rw [g.cell (p := ⟨w.heap.size, 2, none⟩) (by simp; omega)]; exact a2
  have x3 : ∀ w', Below w7.heap.size w7 w' → w'.cell? ⟨w.heap.size, 3, none⟩ = some (.int .i64 h) := fun w' g => by rw [g.cell (p := ⟨w.heap.size, 3, none⟩) (by simp; omega)]; exact a3
  have y0 : ∀ w', Below w7.heap.size w7 w' → w'.cell? ⟨w5.heap.size, 0, none⟩ = some (.int .i64 (s * 64)) := fun w' g => by rw [g.cell (p := ⟨w5.heap.size, 0, none⟩) (by simp; omega)]; exact b0
  have y1 : ∀ w', Below w7.heap.size w7 w' → w'.cell? ⟨w5.heap.size, 1, none⟩ = some (.int .i64 i) := fun w' g => by rw [g.cell (p := ⟨w5.heap.size, 1, none⟩) (by simp; omega)]; exact b1
  have z0 : ∀ w', Below w7.heap.size w7 w' → w'.cell? ⟨w6.heap.size, 0, none⟩ = some (.int .i64 (s * 64 + i)) := fun w' g => by rw [g.cell (p := ⟨w6.heap.size, 0, none⟩) (by simp; omega)]; exact c0
  have z1 : ∀ w', Below w7.heap.size w7 w' → w'.cell? ⟨w6.heap.size, 1, none⟩ = some (.int .i64 h) := fun w' g => by rw [g.cell (p := ⟨w6.heap.size, 1, none⟩) (by simp; omega)]; exact c1
  have hz : w.heap.size < w7.heap.size := by omega
  clear a0 a1 a2 a3 b0 b1 c0 c1 hb1 hb2 hb3 hb4 hb5 hb6 hb7 hz1 hz2 hz3 hz4 hz5 hz6 hz7 
  clear ac1_w_0 ac2_w_0 ac3_w_0 ac4_w_0 ac5_w_0 ac6_w_0 ac7_w_0 af1_w_0 af2_w_0 af3_w_0 af4_w_0 af5_w_0 af6_w_0 af7_w_0
  clear ac6_w5_0 ac7_w5_0 af6_w5_0 af7_w5_0 ac7_w6_0 af7_w6_0
  go_region_held3 (fun w' => Below w7.heap.size w7 w') (first | exact (Below.refl _ _).drew | assumption | exact Below.trans (by assumption) (Below.mono (by assumption) (Below.size (by assumption))))
    (first | (go_at_call 20; refine (rsize_t _ _ _ _ _ hs hi hh).mono ?_; rintro e w9 ⟨rfl, hb9⟩) | (go_at_call 21; refine (rimmortal_c _ _ _ _ _ hs).mono ?_; rintro e w9 ⟨rfl, hb9⟩) | (go_at_call 22; refine (rheap_c _ _ _ _ _ hs hi).mono ?_; rintro e w9 ⟨rfl, hb9⟩))
  go_wp2_with fail
  go_ret; refine ⟨ret_b (by simp), ?_⟩
  exact hB.trans (Below.mono (by assumption) (by omega))

set_option maxRecDepth 100000 in
set_option maxHeartbeats 2000000 in
theorem walkPlanAllK1 (s t i h p k : Int) (w : World) (ok : Hid (okPlan s t i h)) (hs : 1 ≤ s ∧ s ≤ 8) (hi : 0 ≤ i ∧ i ≤ 2048) (hh : 0 ≤ h ∧ h ≤ 8192) (hp : 0 ≤ p ∧ p ≤ 4) (hk : k < 0) :
    Calls Try.prog 3 #[.agg #[.int .i64 s, .int .i64 t, .int .i64 i, .int .i64 h], .int .i64 p, .int .i64 k] w fun e w' => e = .returned (.bool true) ∧ Below w.heap.size w w' := by
  go_enter Try.func3, Try.ntmps3
  go_wp2_with fail; refine (shown05 _).mono ?_; rintro e w1 ⟨rfl, hb1⟩; have hz1 := hb1.size; (repeat (first | rw [World.size_alloc] at hz1 | rw [World.size_setCell] at hz1 | rw [World.size_drew] at hz1)); have zl1_w_0 : w.heap.size < w1.heap.size := (by omega); have ac1_w_0 := fun o => hb1.cell (p := ⟨w.heap.size, o, none⟩) (by first | omega | (simp; done) | (simp; omega)); have af1_w_0 := fun o => hb1.frozen (p := ⟨w.heap.size, o, none⟩) (by first | omega | (simp; done) | (simp; omega))
  go_wp2_with fail; refine (rright_t _ _ _ _ _ ok.out).mono ?_; rintro e w2 ⟨rfl, hb2⟩; have hz2 := hb2.size; (repeat (first | rw [World.size_alloc] at hz2 | rw [World.size_setCell] at hz2 | rw [World.size_drew] at hz2)); have zl2_w_0 : w.heap.size < w2.heap.size := (by omega); have ac2_w_0 := fun o => hb2.cell (p := ⟨w.heap.size, o, none⟩) (by first | omega | (simp; done) | (simp; omega)); have af2_w_0 := fun o => hb2.frozen (p := ⟨w.heap.size, o, none⟩) (by first | omega | (simp; done) | (simp; omega))
  go_wp2_with fail; refine (size_t _ _ _ _ _ ok hs hi hh).mono ?_; rintro e w3 ⟨rfl, hb3⟩; have hz3 := hb3.size; (repeat (first | rw [World.size_alloc] at hz3 | rw [World.size_setCell] at hz3 | rw [World.size_drew] at hz3)); have zl3_w_0 : w.heap.size < w3.heap.size := (by omega); have ac3_w_0 := fun o => hb3.cell (p := ⟨w.heap.size, o, none⟩) (by first | omega | (simp; done) | (simp; omega)); have af3_w_0 := fun o => hb3.frozen (p := ⟨w.heap.size, o, none⟩) (by first | omega | (simp; done) | (simp; omega))
  go_wp2_with fail; refine (at_k _ _ _ _ _ _ _ ok hs hp (by omega)).mono ?_; rintro e w4 ⟨rfl, hb4⟩; have hz4 := hb4.size; (repeat (first | rw [World.size_alloc] at hz4 | rw [World.size_setCell] at hz4 | rw [World.size_drew] at hz4)); have zl4_w_0 : w.heap.size < w4.heap.size := (by omega); have ac4_w_0 := fun o => hb4.cell (p := ⟨w.heap.size, o, none⟩) (by first | omega | (simp; done) | (simp; omega)); have af4_w_0 := fun o => hb4.frozen (p := ⟨w.heap.size, o, none⟩) (by first | omega | (simp; done) | (simp; omega))
  go_wp2_with fail; refine (immortal_t _ _ _ _ _ ok hs).mono ?_; rintro e w5 ⟨rfl, hb5⟩; have hz5 := hb5.size; (repeat (first | rw [World.size_alloc] at hz5 | rw [World.size_setCell] at hz5 | rw [World.size_drew] at hz5)); have zl5_w_0 : w.heap.size < w5.heap.size := (by omega); have ac5_w_0 := fun o => hb5.cell (p := ⟨w.heap.size, o, none⟩) (by first | omega | (simp; done) | (simp; omega)); have af5_w_0 := fun o => hb5.frozen (p := ⟨w.heap.size, o, none⟩) (by first | omega | (simp; done) | (simp; omega))
  go_wp2_with fail; refine (heap_t _ _ _ _ _ ok hs hi).mono ?_; rintro e w6 ⟨rfl, hb6⟩; have hz6 := hb6.size; (repeat (first | rw [World.size_alloc] at hz6 | rw [World.size_setCell] at hz6 | rw [World.size_drew] at hz6)); have zl6_w_0 : w.heap.size < w6.heap.size := (by omega); have ac6_w_0 := fun o => hb6.cell (p := ⟨w.heap.size, o, none⟩) (by first | omega | (simp; done) | (simp; omega)); have af6_w_0 := fun o => hb6.frozen (p := ⟨w.heap.size, o, none⟩) (by first | omega | (simp; done) | (simp; omega)); have zl6_w5_0 : w5.heap.size < w6.heap.size := (by omega); have ac6_w5_0 := fun o => hb6.cell (p := ⟨w5.heap.size, o, none⟩) (by first | omega | (simp; done) | (simp; omega)); have af6_w5_0 := fun o => hb6.frozen (p := ⟨w5.heap.size, o, none⟩) (by first | omega | (simp; done) | (simp; omega))
  go_wp2_with fail; refine (right_t _ _ _ _ _ ok.out).mono ?_; rintro e w7 ⟨rfl, hb7⟩; have hz7 := hb7.size; (repeat (first | rw [World.size_alloc] at hz7 | rw [World.size_setCell] at hz7 | rw [World.size_drew] at hz7)); have zl7_w_0 : w.heap.size < w7.heap.size := (by omega); have ac7_w_0 := fun o => hb7.cell (p := ⟨w.heap.size, o, none⟩) (by first | omega | (simp; done) | (simp; omega)); have af7_w_0 := fun o => hb7.frozen (p := ⟨w.heap.size, o, none⟩) (by first | omega | (simp; done) | (simp; omega)); have zl7_w5_0 : w5.heap.size < w7.heap.size := (by omega); have ac7_w5_0 := fun o => hb7.cell (p := ⟨w5.heap.size, o, none⟩) (by first | omega | (simp; done) | (simp; omega)); have af7_w5_0 := fun o => hb7.frozen (p := ⟨w5.heap.size, o, none⟩) (by first | omega | (simp; done) | (simp; omega)); have zl7_w6_0 : w6.heap.size < w7.heap.size := (by omega); have ac7_w6_0 := fun o => hb7.cell (p := ⟨w6.heap.size, o, none⟩) (by first | omega | (simp; done) | (simp; omega)); have af7_w6_0 := fun o => hb7.frozen (p := ⟨w6.heap.size, o, none⟩) (by first | omega | (simp; done) | (simp; omega))
  go_wp2_with fail
  have hB : Below w.heap.size w w7 := by
    repeat (first | exact Below.refl _ _ | (refine Below.setCell ?_ (by first | omega | (simp; done) | (simp; omega)) _) | (refine Below.alloc ?_ (by first | omega | (simp; done) | (simp; omega)) _) | (refine Below.drew ?_) | (refine Below.trans ?_ (Below.mono (by assumption) (by first | omega | (simp; done) | (simp; omega)))))
  have a0 : w7.cell? ⟨w.heap.size, 0, none⟩ = some (.int .i64 s) := by go_simp
  have a1 : w7.cell? ⟨w.heap.size, 1, none⟩ = some (.int .i64 t) := by go_simp
  have a2 : w7.cell? ⟨w.heap.size, 2, none⟩ = some (.int .i64 i) := by go_simp
  have a3 : w7.cell? ⟨w.heap.size, 3, none⟩ = some (.int .i64 h) := by go_simp
  have b0 : w7.cell? ⟨w5.heap.size, 0, none⟩ = some (.int .i64 (s * 64)) := by go_simp
  have b1 : w7.cell? ⟨w5.heap.size, 1, none⟩ = some (.int .i64 i) := by go_simp
  have c0 : w7.cell? ⟨w6.heap.size, 0, none⟩ = some (.int .i64 (s * 64 + i)) := by go_simp
  have c1 : w7.cell? ⟨w6.heap.size, 1, none⟩ = some (.int .i64 h) := by go_simp
  have x0 : ∀ w', Below w7.heap.size w7 w' → w'.cell? ⟨w.heap.size, 0, none⟩ = some (.int .i64 s) := fun w' g => by rw [g.cell (p := ⟨w.heap.size, 0, none⟩) (by simp; omega)]; exact a0
  have x1 : ∀ w', Below w7.heap.size w7 w' → w'.cell? ⟨w.heap.size, 1, none⟩ = some (.int .i64 t) := fun w' g => by rw [g.cell (p := ⟨w.heap.size, 1, none⟩) (by simp; omega)]; exact a1
  have x2 : ∀ w', Below w7.heap.size w7 w' → w'.cell? ⟨w.heap.size, 2, none⟩ = some (.int .i64 i) := fun w' g => by rw [g.cell (p := ⟨w.heap.size, 2, none⟩) (by simp; omega)]; exact a2
  have x3 : ∀ w', Below w7.heap.size w7 w' → w'.cell? ⟨w.heap.size, 3, none⟩ = some (.int .i64 h) := fun w' g => by rw [g.cell (p := ⟨w.heap.size, 3, none⟩) (by simp; omega)]; exact a3
  have y0 : ∀ w', Below w7.heap.size w7 w' → w'.cell? ⟨w5.heap.size, 0, none⟩ = some (.int .i64 (s * 64)) := fun w' g => by rw [g.cell (p := ⟨w5.heap.size, 0, none⟩) (by simp; omega)]; exact b0
  have y1 : ∀ w', Below w7.heap.size w7 w' → w'.cell? ⟨w5.heap.size, 1, none⟩ = some (.int .i64 i) := fun w' g => by rw [g.cell (p := ⟨w5.heap.size, 1, none⟩) (by simp; omega)]; exact b1
  have z0 : ∀ w', Below w7.heap.size w7 w' → w'.cell? ⟨w6.heap.size, 0, none⟩ = some (.int .i64 (s * 64 + i)) := fun w' g => by rw [g.cell (p := ⟨w6.heap.size, 0, none⟩) (by simp; omega)]; exact c0
  have z1 : ∀ w', Below w7.heap.size w7 w' → w'.cell? ⟨w6.heap.size, 1, none⟩ = some (.int .i64 h) := fun w' g => by rw [g.cell (p := ⟨w6.heap.size, 1, none⟩) (by simp; omega)]; exact c1
  have hz : w.heap.size < w7.heap.size := by omega
  clear a0 a1 a2 a3 b0 b1 c0 c1 hb1 hb2 hb3 hb4 hb5 hb6 hb7 hz1 hz2 hz3 hz4 hz5 hz6 hz7 
  clear ac1_w_0 ac2_w_0 ac3_w_0 ac4_w_0 ac5_w_0 ac6_w_0 ac7_w_0 af1_w_0 af2_w_0 af3_w_0 af4_w_0 af5_w_0 af6_w_0 af7_w_0
  clear ac6_w5_0 ac7_w5_0 af6_w5_0 af7_w5_0 ac7_w6_0 af7_w6_0
  go_region_held3 (fun w' => Below w7.heap.size w7 w') (first | exact (Below.refl _ _).drew | assumption | exact Below.trans (by assumption) (Below.mono (by assumption) (Below.size (by assumption))))
    (first | (go_at_call 20; refine (rsize_t _ _ _ _ _ hs hi hh).mono ?_; rintro e w9 ⟨rfl, hb9⟩) | (go_at_call 21; refine (rimmortal_c _ _ _ _ _ hs).mono ?_; rintro e w9 ⟨rfl, hb9⟩) | (go_at_call 22; refine (rheap_c _ _ _ _ _ hs hi).mono ?_; rintro e w9 ⟨rfl, hb9⟩))
  go_wp2_with fail
  go_ret; refine ⟨ret_b (by simp), ?_⟩
  exact hB.trans (Below.mono (by assumption) (by omega))

set_option maxRecDepth 100000 in
set_option maxHeartbeats 2000000 in
theorem walkPlanAllK2 (s t i h p k : Int) (w : World) (ok : Hid (okPlan s t i h)) (hs : 1 ≤ s ∧ s ≤ 8) (hi : 0 ≤ i ∧ i ≤ 2048) (hh : 0 ≤ h ∧ h ≤ 8192) (hp : 0 ≤ p ∧ p ≤ 4) (hk : 0 ≤ k) (hk2 : s ≤ k) :
    Calls Try.prog 3 #[.agg #[.int .i64 s, .int .i64 t, .int .i64 i, .int .i64 h], .int .i64 p, .int .i64 k] w fun e w' => e = .returned (.bool true) ∧ Below w.heap.size w w' := by
  go_enter Try.func3, Try.ntmps3
  go_wp2_with fail; refine (shown05 _).mono ?_; rintro e w1 ⟨rfl, hb1⟩; have hz1 := hb1.size; (repeat (first | rw [World.size_alloc] at hz1 | rw [World.size_setCell] at hz1 | rw [World.size_drew] at hz1)); have zl1_w_0 : w.heap.size < w1.heap.size := (by omega); have ac1_w_0 := fun o => hb1.cell (p := ⟨w.heap.size, o, none⟩) (by first | omega | (simp; done) | (simp; omega)); have af1_w_0 := fun o => hb1.frozen (p := ⟨w.heap.size, o, none⟩) (by first | omega | (simp; done) | (simp; omega))
  go_wp2_with fail; refine (rright_t _ _ _ _ _ ok.out).mono ?_; rintro e w2 ⟨rfl, hb2⟩; have hz2 := hb2.size; (repeat (first | rw [World.size_alloc] at hz2 | rw [World.size_setCell] at hz2 | rw [World.size_drew] at hz2)); have zl2_w_0 : w.heap.size < w2.heap.size := (by omega); have ac2_w_0 := fun o => hb2.cell (p := ⟨w.heap.size, o, none⟩) (by first | omega | (simp; done) | (simp; omega)); have af2_w_0 := fun o => hb2.frozen (p := ⟨w.heap.size, o, none⟩) (by first | omega | (simp; done) | (simp; omega))
  go_wp2_with fail; refine (size_t _ _ _ _ _ ok hs hi hh).mono ?_; rintro e w3 ⟨rfl, hb3⟩; have hz3 := hb3.size; (repeat (first | rw [World.size_alloc] at hz3 | rw [World.size_setCell] at hz3 | rw [World.size_drew] at hz3)); have zl3_w_0 : w.heap.size < w3.heap.size := (by omega); have ac3_w_0 := fun o => hb3.cell (p := ⟨w.heap.size, o, none⟩) (by first | omega | (simp; done) | (simp; omega)); have af3_w_0 := fun o => hb3.frozen (p := ⟨w.heap.size, o, none⟩) (by first | omega | (simp; done) | (simp; omega))
  go_wp2_with fail; refine (at_k _ _ _ _ _ _ _ ok hs hp (by omega)).mono ?_; rintro e w4 ⟨rfl, hb4⟩; have hz4 := hb4.size; (repeat (first | rw [World.size_alloc] at hz4 | rw [World.size_setCell] at hz4 | rw [World.size_drew] at hz4)); have zl4_w_0 : w.heap.size < w4.heap.size := (by omega); have ac4_w_0 := fun o => hb4.cell (p := ⟨w.heap.size, o, none⟩) (by first | omega | (simp; done) | (simp; omega)); have af4_w_0 := fun o => hb4.frozen (p := ⟨w.heap.size, o, none⟩) (by first | omega | (simp; done) | (simp; omega))
  go_wp2_with fail; refine (immortal_t _ _ _ _ _ ok hs).mono ?_; rintro e w5 ⟨rfl, hb5⟩; have hz5 := hb5.size; (repeat (first | rw [World.size_alloc] at hz5 | rw [World.size_setCell] at hz5 | rw [World.size_drew] at hz5)); have zl5_w_0 : w.heap.size < w5.heap.size := (by omega); have ac5_w_0 := fun o => hb5.cell (p := ⟨w.heap.size, o, none⟩) (by first | omega | (simp; done) | (simp; omega)); have af5_w_0 := fun o => hb5.frozen (p := ⟨w.heap.size, o, none⟩) (by first | omega | (simp; done) | (simp; omega))
  go_wp2_with fail; refine (heap_t _ _ _ _ _ ok hs hi).mono ?_; rintro e w6 ⟨rfl, hb6⟩; have hz6 := hb6.size; (repeat (first | rw [World.size_alloc] at hz6 | rw [World.size_setCell] at hz6 | rw [World.size_drew] at hz6)); have zl6_w_0 : w.heap.size < w6.heap.size := (by omega); have ac6_w_0 := fun o => hb6.cell (p := ⟨w.heap.size, o, none⟩) (by first | omega | (simp; done) | (simp; omega)); have af6_w_0 := fun o => hb6.frozen (p := ⟨w.heap.size, o, none⟩) (by first | omega | (simp; done) | (simp; omega)); have zl6_w5_0 : w5.heap.size < w6.heap.size := (by omega); have ac6_w5_0 := fun o => hb6.cell (p := ⟨w5.heap.size, o, none⟩) (by first | omega | (simp; done) | (simp; omega)); have af6_w5_0 := fun o => hb6.frozen (p := ⟨w5.heap.size, o, none⟩) (by first | omega | (simp; done) | (simp; omega))
  go_wp2_with fail; refine (right_t _ _ _ _ _ ok.out).mono ?_; rintro e w7 ⟨rfl, hb7⟩; have hz7 := hb7.size; (repeat (first | rw [World.size_alloc] at hz7 | rw [World.size_setCell] at hz7 | rw [World.size_drew] at hz7)); have zl7_w_0 : w.heap.size < w7.heap.size := (by omega); have ac7_w_0 := fun o => hb7.cell (p := ⟨w.heap.size, o, none⟩) (by first | omega | (simp; done) | (simp; omega)); have af7_w_0 := fun o => hb7.frozen (p := ⟨w.heap.size, o, none⟩) (by first | omega | (simp; done) | (simp; omega)); have zl7_w5_0 : w5.heap.size < w7.heap.size := (by omega); have ac7_w5_0 := fun o => hb7.cell (p := ⟨w5.heap.size, o, none⟩) (by first | omega | (simp; done) | (simp; omega)); have af7_w5_0 := fun o => hb7.frozen (p := ⟨w5.heap.size, o, none⟩) (by first | omega | (simp; done) | (simp; omega)); have zl7_w6_0 : w6.heap.size < w7.heap.size := (by omega); have ac7_w6_0 := fun o => hb7.cell (p := ⟨w6.heap.size, o, none⟩) (by first | omega | (simp; done) | (simp; omega)); have af7_w6_0 := fun o => hb7.frozen (p := ⟨w6.heap.size, o, none⟩) (by first | omega | (simp; done) | (simp; omega))
  go_wp2_with fail
  have hB : Below w.heap.size w w7 := by
    repeat (first | exact Below.refl _ _ | (refine Below.setCell ?_ (by first | omega | (simp; done) | (simp; omega)) _) | (refine Below.alloc ?_ (by first | omega | (simp; done) | (simp; omega)) _) | (refine Below.drew ?_) | (refine Below.trans ?_ (Below.mono (by assumption) (by first | omega | (simp; done) | (simp; omega)))))
  have a0 : w7.cell? ⟨w.heap.size, 0, none⟩ = some (.int .i64 s) := by go_simp
  have a1 : w7.cell? ⟨w.heap.size, 1, none⟩ = some (.int .i64 t) := by go_simp
  have a2 : w7.cell? ⟨w.heap.size, 2, none⟩ = some (.int .i64 i) := by go_simp
  have a3 : w7.cell? ⟨w.heap.size, 3, none⟩ = some (.int .i64 h) := by go_simp
  have b0 : w7.cell? ⟨w5.heap.size, 0, none⟩ = some (.int .i64 (s * 64)) := by go_simp
  have b1 : w7.cell? ⟨w5.heap.size, 1, none⟩ = some (.int .i64 i) := by go_simp
  have c0 : w7.cell? ⟨w6.heap.size, 0, none⟩ = some (.int .i64 (s * 64 + i)) := by go_simp
  have c1 : w7.cell? ⟨w6.heap.size, 1, none⟩ = some (.int .i64 h) := by go_simp
  have x0 : ∀ w', Below w7.heap.size w7 w' → w'.cell? ⟨w.heap.size, 0, none⟩ = some (.int .i64 s) := fun w' g => by rw [g.cell (p := ⟨w.heap.size, 0, none⟩) (by simp; omega)]; exact a0
  have x1 : ∀ w', Below w7.heap.size w7 w' → w'.cell? ⟨w.heap.size, 1, none⟩ = some (.int .i64 t) := fun w' g => by rw [g.cell (p := ⟨w.heap.size, 1, none⟩) (by simp; omega)]; exact a1
  have x2 : ∀ w', Below w7.heap.size w7 w' → w'.cell? ⟨w.heap.size, 2, none⟩ = some (.int .i64 i) := fun w' g => by rw [g.cell (p := ⟨w.heap.size, 2, none⟩) (by simp; omega)]; exact a2
  have x3 : ∀ w', Below w7.heap.size w7 w' → w'.cell? ⟨w.heap.size, 3, none⟩ = some (.int .i64 h) := fun w' g => by rw [g.cell (p := ⟨w.heap.size, 3, none⟩) (by simp; omega)]; exact a3
  have y0 : ∀ w', Below w7.heap.size w7 w' → w'.cell? ⟨w5.heap.size, 0, none⟩ = some (.int .i64 (s * 64)) := fun w' g => by rw [g.cell (p := ⟨w5.heap.size, 0, none⟩) (by simp; omega)]; exact b0
  have y1 : ∀ w', Below w7.heap.size w7 w' → w'.cell? ⟨w5.heap.size, 1, none⟩ = some (.int .i64 i) := fun w' g => by rw [g.cell (p := ⟨w5.heap.size, 1, none⟩) (by simp; omega)]; exact b1
  have z0 : ∀ w', Below w7.heap.size w7 w' → w'.cell? ⟨w6.heap.size, 0, none⟩ = some (.int .i64 (s * 64 + i)) := fun w' g => by rw [g.cell (p := ⟨w6.heap.size, 0, none⟩) (by simp; omega)]; exact c0
  have z1 : ∀ w', Below w7.heap.size w7 w' → w'.cell? ⟨w6.heap.size, 1, none⟩ = some (.int .i64 h) := fun w' g => by rw [g.cell (p := ⟨w6.heap.size, 1, none⟩) (by simp; omega)]; exact c1
  have hz : w.heap.size < w7.heap.size := by omega
  clear a0 a1 a2 a3 b0 b1 c0 c1 hb1 hb2 hb3 hb4 hb5 hb6 hb7 hz1 hz2 hz3 hz4 hz5 hz6 hz7 
  clear ac1_w_0 ac2_w_0 ac3_w_0 ac4_w_0 ac5_w_0 ac6_w_0 ac7_w_0 af1_w_0 af2_w_0 af3_w_0 af4_w_0 af5_w_0 af6_w_0 af7_w_0
  clear ac6_w5_0 ac7_w5_0 af6_w5_0 af7_w5_0 ac7_w6_0 af7_w6_0
  go_region_held3 (fun w' => Below w7.heap.size w7 w') (first | exact (Below.refl _ _).drew | assumption | exact Below.trans (by assumption) (Below.mono (by assumption) (Below.size (by assumption))))
    (first | (go_at_call 20; refine (rsize_t _ _ _ _ _ hs hi hh).mono ?_; rintro e w9 ⟨rfl, hb9⟩) | (go_at_call 21; refine (rimmortal_c _ _ _ _ _ hs).mono ?_; rintro e w9 ⟨rfl, hb9⟩) | (go_at_call 22; refine (rheap_c _ _ _ _ _ hs hi).mono ?_; rintro e w9 ⟨rfl, hb9⟩))
  go_wp2_with fail
  go_ret; refine ⟨ret_b (by simp), ?_⟩
  exact hB.trans (Below.mono (by assumption) (by omega))

theorem walkPlanAll (s t i h p k : Int) (w : World) :
    Calls Try.prog 3 #[.agg #[.int .i64 s, .int .i64 t, .int .i64 i, .int .i64 h], .int .i64 p, .int .i64 k] w fun e w' => e = .returned (.bool true) ∧ Below w.heap.size w w' := by
  by_cases ok : okPlan s t i h
  · have hs := ok.1
    have hi := ok.2.2.1
    have hh := ok.2.2.2.1
    by_cases h1 : p < 0
    · exact walkPlanAllP1 _ _ _ _ _ _ _ ok hs hi hh h1
    by_cases h2 : 4 < p
    · exact walkPlanAllP2 _ _ _ _ _ _ _ ok hs hi hh h2
    by_cases h3 : k < 0
    · exact walkPlanAllK1 _ _ _ _ _ _ _ ok hs hi hh (by omega) h3
    by_cases h4 : s ≤ k
    · exact walkPlanAllK2 _ _ _ _ _ _ _ ok hs hi hh (by omega) (by omega) h4
    exact walkPlanAllAt _ _ _ _ _ _ _ ok hs hi hh (by omega) (by omega)
  · exact walkPlanAllNo _ _ _ _ _ _ _ ok

end Go.Proofs.Ytnknkdcpdimpnaa
