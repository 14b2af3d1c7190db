/- ThingAll: walk. -/
import Derived.Test.YtahkplakdbbmmaaThing08
import Derived.Test.YtahkplakdbbmmaaWf
import Derived.Deep.RegionHeld3
namespace Go.Proofs.Ytahkplakdbbmmaa
set_option linter.unusedVariables false
set_option linter.unusedSimpArgs false
open Go.RowKit

set_option maxHeartbeats 8000000 in
set_option maxRecDepth 100000 in
theorem walkThingAll (A : Option Addr) (n c : Nat) (F : Nat → Int) (n0 n1 n2 : Int) (w : World) (hn : n ≤ maxLen) (R : rd w w.heap.size A n 1 (ints1 .u64 F)) (hF : ∀ i, inU (F i)) (h0 : inR n0) (h1 : inR n1) (h2 : inR n2) :
    Calls Try.prog 10 #[.slice A n c, .agg #[.int .i64 n0, .int .i64 n1, .int .i64 n2]] w fun e w' => e = .returned (.bool true) ∧ Below w.heap.size w w' := by
  unfold maxLen at hn
  go_enter Try.func10, Try.ntmps10
  go_wp2_with fail
  refine (shown08_t _).mono ?_
  rintro e w1 ⟨rfl, hb1⟩
  have hz1 := hb1.size
  simp at hz1
  have B1 := (Blk.new w 60 #[.int .i64 n0, .int .i64 n1, .int .i64 n2]).below hb1 (by simp)
  have R1 := (R.alloc (Nat.le_refl _) (.cells #[.int .i64 n0, .int .i64 n1, .int .i64 n2] 60)).below hb1 (by simp)
  have hBw : Below w.heap.size w w1 := ((Below.refl _ _).alloc (Nat.le_refl _) _).trans (hb1.mono (by simp))
  go_wp2_with fail
  refine (laid_t _ _ _ _ _ _ (by omega) R1 hF (by omega)).mono ?_
  rintro e w2 ⟨p, g, q, h, V, rfl, ha2, hy2, hb2, hp, hg, hq, hh, d1, d2, d3, d4⟩
  have hz2 := hb2.size
  have hl2 := ha2.lts
  have hm2 := hy2.lts
  have B2 := B1.below hb2 (by omega)
  have hBw2 : Below w.heap.size w w2 := hBw.trans (hb2.mono (by omega))
  have hV : ∀ i, i < 60 → inU (V i) := fun i hi => ha2.bd i hi
  obtain ⟨z, l, t, d, s, e, c0, A0, A1⟩ := both_at p g q h 60 V hV n0 h0
  obtain ⟨r, c1, S0, S1⟩ := both_slot p g q h 60 V hV n0 n1 h0
  obtain ⟨ys, c2, hys, K0, K1⟩ := both_walk p g q h 60 V hV n0 n2 h0 h2
  obtain ⟨c3, V', M0, M1⟩ := both_mark p g q h 60 V hV n0 h0
  have q20 := B2.cell 0
  go_wp2_with fail
  refine (A0 _ ha2).mono ?_
  rintro x w3 ⟨rfl, hb3⟩
  have hz3 := hb3.size
  have ha3 := ha2.below hb3 ha2.lts.1 ha2.lts.2.1
  have hy3 := hy2.below hb3 hy2.lts.1 hy2.lts.2.1
  have B3 := B2.below hb3 B2.lt
  have q30 := B3.cell 0
  have q31 := B3.cell 1
  have q32 := B3.cell 2
  have l3 := B3.lt
  obtain ⟨W3, E3, HP0⟩ : ∃ W3, Hid (w3.alloc (.cells #[.int .i64 z, .int .i64 l, .int .i64 t, .bool d, .int .i64 s, .int .i64 e] 64) = W3) ∧ Blk W3 w3.heap.size 64 #[.int .i64 z, .int .i64 l, .int .i64 t, .bool d, .int .i64 s, .int .i64 e] := ⟨_, Lib.hid rfl, Blk.new _ _ _⟩
  have haP : isW W3 p g 60 V := by rw [← E3.out]; exact ha3.alloc _
  have hyP : isY W3 q h 60 V := by rw [← E3.out]; exact hy3.alloc _
  have BP : Blk W3 w.heap.size 60 #[.int .i64 n0, .int .i64 n1, .int .i64 n2] := by rw [← E3.out]; exact B3.alloc _
  have zP : W3.heap.size = w3.heap.size + 1 := by rw [← E3.out]; simp
  have hBP : Below w.heap.size w W3 := by rw [← E3.out]; exact (hBw2.trans (hb3.mono (by omega))).alloc (by omega) _
  go_wp2_with fail
  rw [E3.out]
  clear E3
  refine (A1 _ hyP).mono ?_
  rintro x w4 ⟨rfl, hb4⟩
  have hz4 := hb4.size
  have ha4 := haP.below hb4 haP.lts.1 haP.lts.2.1
  have hy4 := hyP.below hb4 hyP.lts.1 hyP.lts.2.1
  have B4 := BP.below hb4 BP.lt
  have q40 := B4.cell 0
  have q41 := B4.cell 1
  have q42 := B4.cell 2
  have l4 := B4.lt
  have HP4 := HP0.below hb4 HP0.lt
  obtain ⟨W4, E4, HQ0⟩ : ∃ W4, Hid (w4.alloc (.cells #[.int .i64 z, .int .i64 l, .int .i64 t, .bool d, .int .i64 s, .int .i64 e] 64) = W4) ∧ Blk W4 w4.heap.size 64 #[.int .i64 z, .int .i64 l, .int .i64 t, .bool d, .int .i64 s, .int .i64 e] := ⟨_, Lib.hid rfl, Blk.new _ _ _⟩
  have haQ : isW W4 p g 60 V := by rw [← E4.out]; exact ha4.alloc _
  have hyQ : isY W4 q h 60 V := by rw [← E4.out]; exact hy4.alloc _
  have BQ : Blk W4 w.heap.size 60 #[.int .i64 n0, .int .i64 n1, .int .i64 n2] := by rw [← E4.out]; exact B4.alloc _
  have HPQ : Blk W4 w3.heap.size 64 #[.int .i64 z, .int .i64 l, .int .i64 t, .bool d, .int .i64 s, .int .i64 e] := by rw [← E4.out]; exact HP4.alloc _
  have zQ : W4.heap.size = w4.heap.size + 1 := by rw [← E4.out]; simp
  have hBQ : Below w.heap.size w W4 := by rw [← E4.out]; exact (hBP.trans (hb4.mono (by omega))).alloc (by omega) _
  go_wp2_with fail
  rw [E4.out]
  clear E4
  refine (S0 _ haQ).mono ?_
  rintro x w5 ⟨rfl, hb5⟩
  have hz5 := hb5.size
  have ha5 := haQ.below hb5 haQ.lts.1 haQ.lts.2.1
  have hy5 := hyQ.below hb5 hyQ.lts.1 hyQ.lts.2.1
  have B5 := BQ.below hb5 BQ.lt
  have q50 := B5.cell 0
  have q51 := B5.cell 1
  have q52 := B5.cell 2
  have l5 := B5.lt
  have HP5 := HPQ.below hb5 HPQ.lt
  have HQ5 := HQ0.below hb5 HQ0.lt
  go_wp2_with fail
  refine (S1 _ hy5).mono ?_
  rintro x w6 ⟨rfl, hb6⟩
  have hz6 := hb6.size
  have ha6 := ha5.below hb6 ha5.lts.1 ha5.lts.2.1
  have hy6 := hy5.below hb6 hy5.lts.1 hy5.lts.2.1
  have B6 := B5.below hb6 B5.lt
  have q60 := B6.cell 0
  have q61 := B6.cell 1
  have q62 := B6.cell 2
  have l6 := B6.lt
  have HP6 := HP5.below hb6 HP5.lt
  have HQ6 := HQ5.below hb6 HQ5.lt
  have hB6 : Below w.heap.size w w6 := hBQ.trans ((hb5.mono (by omega)).trans (hb6.mono (by omega)))
  go_wp2_with fail
  refine (K0 _ ha6).mono ?_
  rintro x w7 ⟨⟨v, rfl, ho⟩, hb7⟩
  have hz7 := hb7.size
  have ha7 := ha6.below hb7 ha6.lts.1 ha6.lts.2.1
  have hy7 := hy6.below hb7 hy6.lts.1 hy6.lts.2.1
  have B7 := B6.below hb7 B6.lt
  have q70 := B7.cell 0
  have q71 := B7.cell 1
  have q72 := B7.cell 2
  have l7 := B7.lt
  have HP7 := HP6.below hb7 HP6.lt
  have HQ7 := HQ6.below hb7 HQ6.lt
  obtain ⟨Av, cv, rfl, _, _, Rv⟩ := own_rd ho
  go_wp2_with fail
  refine (K1 _ hy7).mono ?_
  rintro x w8 ⟨⟨u, rfl, ho2⟩, hb8⟩
  have hz8 := hb8.size
  have ha8 := ha7.below hb8 ha7.lts.1 ha7.lts.2.1
  have hy8 := hy7.below hb8 hy7.lts.1 hy7.lts.2.1
  have B8 := B7.below hb8 B7.lt
  have q80 := B8.cell 0
  have q81 := B8.cell 1
  have q82 := B8.cell 2
  have l8 := B8.lt
  have HP8 := HP7.below hb8 HP7.lt
  have HQ8 := HQ7.below hb8 HQ7.lt
  obtain ⟨Au, cu, rfl, _, _, Ru⟩ := own_rd ho2
  have hB8 : Below w.heap.size w w8 := hB6.trans ((hb7.mono (by omega)).trans (hb8.mono (by omega)))
  go_wp2_with fail
  refine (ints_t _ _ _ _ _ _ _ _ _ (Rv.below hb8 (Nat.le_refl _)) Ru (by omega)).mono ?_
  rintro x w9 ⟨rfl, m, rfl⟩
  have ha9 := ha8.drewN m
  have hy9 := hy8.drewN m
  have B9 := B8.drewN m
  have HP9 := HP8.drewN m
  have HQ9 := HQ8.drewN m
  have hB9 : Below w.heap.size w (w8.drewN m) := below_drewN' hB8 m
  go_wp2_with fail
  have hzX : w8.heap.size ≤ (w8.drewN m).heap.size := Nat.le_refl _
  have zb3 : w3.heap.size < w8.heap.size := HP8.lt
  have zb4 : w4.heap.size < w8.heap.size := HQ8.lt
  have zb0 : w.heap.size < w8.heap.size := B8.lt
  have dis : p < w3.heap.size ∧ g < w3.heap.size ∧ q < w3.heap.size ∧ h < w3.heap.size ∧ w3.heap.size < w4.heap.size ∧ w.heap.size < p ∧ w.heap.size < g ∧ w.heap.size < q ∧ w.heap.size < h := by omega
  clear hz1 hz2 hz3 hz4 hz5 hz6 hz7 hz8 q30 q31 q32 q40 q41 q42 q50 q51 q52 q60 q61 q62 q70 q71 q72 q80 q81 q82 q20
  clear A0 A1 S0 S1 K0 K1 hb1 hb2 hb3 hb4 hb5 hb6 hb7 hb8
  generalize w3.heap.size = b3 at *
  generalize w4.heap.size = b4 at *
  generalize w8.drewN m = X at *
  have HS : (fun w' => Blk w' b3 64 #[.int .i64 z, .int .i64 l, .int .i64 t, .bool d, .int .i64 s, .int .i64 e] ∧ Blk w' b4 64 #[.int .i64 z, .int .i64 l, .int .i64 t, .bool d, .int .i64 s, .int .i64 e] ∧ Blk w' w.heap.size 60 #[.int .i64 n0, .int .i64 n1, .int .i64 n2]) X.drew := ⟨HP9.drew, HQ9.drew, B9.drew⟩
  have hzD : X.heap.size ≤ X.drew.heap.size := Nat.le_refl _
  have x3_0 : ∀ w', (fun w' => Blk w' b3 64 #[.int .i64 z, .int .i64 l, .int .i64 t, .bool d, .int .i64 s, .int .i64 e] ∧ Blk w' b4 64 #[.int .i64 z, .int .i64 l, .int .i64 t, .bool d, .int .i64 s, .int .i64 e] ∧ Blk w' w.heap.size 60 #[.int .i64 n0, .int .i64 n1, .int .i64 n2]) w' → w'.cell? ⟨b3, 0, none⟩ = some (.int .i64 z) := fun w' h => h.1.cell 0
  have x3_1 : ∀ w', (fun w' => Blk w' b3 64 #[.int .i64 z, .int .i64 l, .int .i64 t, .bool d, .int .i64 s, .int .i64 e] ∧ Blk w' b4 64 #[.int .i64 z, .int .i64 l, .int .i64 t, .bool d, .int .i64 s, .int .i64 e] ∧ Blk w' w.heap.size 60 #[.int .i64 n0, .int .i64 n1, .int .i64 n2]) w' → w'.cell? ⟨b3, 1, none⟩ = some (.int .i64 l) := fun w' h => h.1.cell 1
  have x3_2 : ∀ w', (fun w' => Blk w' b3 64 #[.int .i64 z, .int .i64 l, .int .i64 t, .bool d, .int .i64 s, .int .i64 e] ∧ Blk w' b4 64 #[.int .i64 z, .int .i64 l, .int .i64 t, .bool d, .int .i64 s, .int .i64 e] ∧ Blk w' w.heap.size 60 #[.int .i64 n0, .int .i64 n1, .int .i64 n2]) w' → w'.cell? ⟨b3, 2, none⟩ = some (.int .i64 t) := fun w' h => h.1.cell 2
  have x3_3 : ∀ w', (fun w' => Blk w' b3 64 #[.int .i64 z, .int .i64 l, .int .i64 t, .bool d, .int .i64 s, .int .i64 e] ∧ Blk w' b4 64 #[.int .i64 z, .int .i64 l, .int .i64 t, .bool d, .int .i64 s, .int .i64 e] ∧ Blk w' w.heap.size 60 #[.int .i64 n0, .int .i64 n1, .int .i64 n2]) w' → w'.cell? ⟨b3, 3, none⟩ = some (.bool d) := fun w' h => h.1.cell 3
  have x3_4 : ∀ w', (fun w' => Blk w' b3 64 #[.int .i64 z, .int .i64 l, .int .i64 t, .bool d, .int .i64 s, .int .i64 e] ∧ Blk w' b4 64 #[.int .i64 z, .int .i64 l, .int .i64 t, .bool d, .int .i64 s, .int .i64 e] ∧ Blk w' w.heap.size 60 #[.int .i64 n0, .int .i64 n1, .int .i64 n2]) w' → w'.cell? ⟨b3, 4, none⟩ = some (.int .i64 s) := fun w' h => h.1.cell 4
  have x3_5 : ∀ w', (fun w' => Blk w' b3 64 #[.int .i64 z, .int .i64 l, .int .i64 t, .bool d, .int .i64 s, .int .i64 e] ∧ Blk w' b4 64 #[.int .i64 z, .int .i64 l, .int .i64 t, .bool d, .int .i64 s, .int .i64 e] ∧ Blk w' w.heap.size 60 #[.int .i64 n0, .int .i64 n1, .int .i64 n2]) w' → w'.cell? ⟨b3, 5, none⟩ = some (.int .i64 e) := fun w' h => h.1.cell 5
  have x4_0 : ∀ w', (fun w' => Blk w' b3 64 #[.int .i64 z, .int .i64 l, .int .i64 t, .bool d, .int .i64 s, .int .i64 e] ∧ Blk w' b4 64 #[.int .i64 z, .int .i64 l, .int .i64 t, .bool d, .int .i64 s, .int .i64 e] ∧ Blk w' w.heap.size 60 #[.int .i64 n0, .int .i64 n1, .int .i64 n2]) w' → w'.cell? ⟨b4, 0, none⟩ = some (.int .i64 z) := fun w' h => h.2.1.cell 0
  have x4_1 : ∀ w', (fun w' => Blk w' b3 64 #[.int .i64 z, .int .i64 l, .int .i64 t, .bool d, .int .i64 s, .int .i64 e] ∧ Blk w' b4 64 #[.int .i64 z, .int .i64 l, .int .i64 t, .bool d, .int .i64 s, .int .i64 e] ∧ Blk w' w.heap.size 60 #[.int .i64 n0, .int .i64 n1, .int .i64 n2]) w' → w'.cell? ⟨b4, 1, none⟩ = some (.int .i64 l) := fun w' h => h.2.1.cell 1
  have x4_2 : ∀ w', (fun w' => Blk w' b3 64 #[.int .i64 z, .int .i64 l, .int .i64 t, .bool d, .int .i64 s, .int .i64 e] ∧ Blk w' b4 64 #[.int .i64 z, .int .i64 l, .int .i64 t, .bool d, .int .i64 s, .int .i64 e] ∧ Blk w' w.heap.size 60 #[.int .i64 n0, .int .i64 n1, .int .i64 n2]) w' → w'.cell? ⟨b4, 2, none⟩ = some (.int .i64 t) := fun w' h => h.2.1.cell 2
  have x4_3 : ∀ w', (fun w' => Blk w' b3 64 #[.int .i64 z, .int .i64 l, .int .i64 t, .bool d, .int .i64 s, .int .i64 e] ∧ Blk w' b4 64 #[.int .i64 z, .int .i64 l, .int .i64 t, .bool d, .int .i64 s, .int .i64 e] ∧ Blk w' w.heap.size 60 #[.int .i64 n0, .int .i64 n1, .int .i64 n2]) w' → w'.cell? ⟨b4, 3, none⟩ = some (.bool d) := fun w' h => h.2.1.cell 3
  have x4_4 : ∀ w', (fun w' => Blk w' b3 64 #[.int .i64 z, .int .i64 l, .int .i64 t, .bool d, .int .i64 s, .int .i64 e] ∧ Blk w' b4 64 #[.int .i64 z, .int .i64 l, .int .i64 t, .bool d, .int .i64 s, .int .i64 e] ∧ Blk w' w.heap.size 60 #[.int .i64 n0, .int .i64 n1, .int .i64 n2]) w' → w'.cell? ⟨b4, 4, none⟩ = some (.int .i64 s) := fun w' h => h.2.1.cell 4
  have x4_5 : ∀ w', (fun w' => Blk w' b3 64 #[.int .i64 z, .int .i64 l, .int .i64 t, .bool d, .int .i64 s, .int .i64 e] ∧ Blk w' b4 64 #[.int .i64 z, .int .i64 l, .int .i64 t, .bool d, .int .i64 s, .int .i64 e] ∧ Blk w' w.heap.size 60 #[.int .i64 n0, .int .i64 n1, .int .i64 n2]) w' → w'.cell? ⟨b4, 5, none⟩ = some (.int .i64 e) := fun w' h => h.2.1.cell 5
  have xn : ∀ w', (fun w' => Blk w' b3 64 #[.int .i64 z, .int .i64 l, .int .i64 t, .bool d, .int .i64 s, .int .i64 e] ∧ Blk w' b4 64 #[.int .i64 z, .int .i64 l, .int .i64 t, .bool d, .int .i64 s, .int .i64 e] ∧ Blk w' w.heap.size 60 #[.int .i64 n0, .int .i64 n1, .int .i64 n2]) w' → w'.cell? ⟨w.heap.size, 0, none⟩ = some (.int .i64 n0) := fun w' h => h.2.2.cell 0
  go_region_held3 (fun w' => Blk w' b3 64 #[.int .i64 z, .int .i64 l, .int .i64 t, .bool d, .int .i64 s, .int .i64 e] ∧ Blk w' b4 64 #[.int .i64 z, .int .i64 l, .int .i64 t, .bool d, .int .i64 s, .int .i64 e] ∧ Blk w' w.heap.size 60 #[.int .i64 n0, .int .i64 n1, .int .i64 n2])
    (first | assumption | exact HS | (have h := HS; exact ⟨h.1.but hbA (by omega) (by omega), h.2.1.but hbA (by omega) (by omega), h.2.2.but hbA (by omega) (by omega)⟩) | (have h := HS; exact ⟨h.1.but hbY (by omega) (by omega), h.2.1.but hbY (by omega) (by omega), h.2.2.but hbY (by omega) (by omega)⟩) | (have h0 := HS; have h : (fun w' => Blk w' b3 64 #[.int .i64 z, .int .i64 l, .int .i64 t, .bool d, .int .i64 s, .int .i64 e] ∧ Blk w' b4 64 #[.int .i64 z, .int .i64 l, .int .i64 t, .bool d, .int .i64 s, .int .i64 e] ∧ Blk w' w.heap.size 60 #[.int .i64 n0, .int .i64 n1, .int .i64 n2]) _ := ⟨h0.1.but hbA (by omega) (by omega), h0.2.1.but hbA (by omega) (by omega), h0.2.2.but hbA (by omega) (by omega)⟩; exact ⟨h.1.but hbY (by omega) (by omega), h.2.1.but hbY (by omega) (by omega), h.2.2.but hbY (by omega) (by omega)⟩))
    (first | (go_at_call 42; refine (M0 _ ha9.drew).mono ?_; rintro x wa ⟨rfl, haA, hbA⟩; have hzA := hbA.size) | (go_at_call 43; refine (M1 _ (hy9.drewN 1)).mono ?_; rintro x wy ⟨rfl, hyA, hbY⟩; have hzY := hbY.size) | (go_at_call 42; refine (M0 _ (ha9.drew.but hbY (by omega) (by omega) (by omega) (by omega))).mono ?_; rintro x wa ⟨rfl, haA, hbA⟩; have hzA := hbA.size) | (go_at_call 43; refine (M1 _ ((hy9.drewN 1).but hbA (by omega) (by omega) (by omega) (by omega))).mono ?_; rintro x wy ⟨rfl, hyA, hbY⟩; have hzY := hbY.size))
  have haF := haA.but hbY (by omega) (by omega) (by omega) (by omega)
  have hBF : Below w.heap.size w wy := hB9.drew.trans ((hbA.below (by omega) (by omega)).trans (hbY.below (by omega) (by omega)))
  clear x3_0 x3_1 x3_2 x3_3 x3_4 x3_5 x4_0 x4_1 x4_2 x4_3 x4_4 x4_5 xn HS M0 M1
  go_wp2_with fail
  go_loopw [21] (fun i wr => ∃ j : Nat, j ≤ 60 ∧ i = .int .i64 j ∧ wr = wy) (fun i _ => 60 - (intOf i).toNat)
  case atStart => exact ⟨0, by omega, rfl, rfl⟩
  case round =>
    obtain ⟨j, hj, rfl, rfl⟩ := hrel
    by_cases hlt : j < 60
    · have hs := hyA.slice
      have hc := hyA.row.cell j hlt
      obtain ⟨u, U⟩ : ∃ u, Hid (V' j = u) := ⟨_, Lib.hid rfl⟩
      rw [U.out] at hc
      go_wp2_with fail
      refine (wword_t _ _ _ _ _ _ j haF (by omega) hlt).mono ?_
      rintro e w' ⟨rfl, rfl⟩
      rw [U.out]
      go_wp2_with fail
      go_roundw
      case rel => exact ⟨j + 1, by omega, by go_num, by first | rfl | trivial⟩
      case measure => simp [intOf]; omega
    · obtain rfl : j = 60 := by omega
      go_wp2_with fail
      go_ret
      exact ⟨rfl, hBF⟩

end Go.Proofs.Ytahkplakdbbmmaa
