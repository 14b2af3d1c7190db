/- ArenaPlays: walk. -/
import Derived.Test.YtahkplakdbbmmaaArenaBoth
import Derived.Test.YtahkplakdbbmmaaArenaLaws
import Derived.Test.YtahkplakdbbmmaaSliceArg
import Derived.Test.YtahkplakdbbmmaaWf
import Derived.Deep.RegionHeld3
namespace Go.Proofs.Ytahkplakdbbmmaa
set_option linter.unusedVariables false
set_option linter.unusedSimpArgs false
open Go.RowKit

set_option maxHeartbeats 8000000 in
set_option maxRecDepth 100000 in
theorem walkArenaPlays (b0 : Int) (A : Option Addr) (n c : Nat) (F : Nat → List Value) (w : World) (hb0 : 0 ≤ b0 ∧ b0 ≤ 255) (hn : n ≤ maxLen) (R : rd w w.heap.size A n 6 F)
    (hF : ∀ i, i < n → FitsK [some .u8, some .i64, some .i64, some .u64, some .u64, some .u64] (F i)) :
    Calls Try.prog 9 #[.int .u8 b0, .slice A n c] w fun e w' => e = .returned (.bool true) ∧ Below w.heap.size w w' := by
  unfold maxLen at hn
  go_enter Try.func9, Try.ntmps9
  go_wp2_with fail
  refine (shown_t _).mono ?_
  rintro e w1 ⟨rfl, hb1⟩
  have hz1 := hb1.size
  have R1 := R.below hb1 (Nat.le_refl _)
  have hk0 : 0 ≤ b0 % 21 ∧ b0 % 21 < 21 := by omega
  obtain ⟨k, K⟩ : ∃ k : Nat, Hid (b0 % 21 = k) := ⟨(b0 % 21).toNat, Lib.hid (by omega)⟩
  have hk : k ≤ 20 := by have := K.out; omega
  go_wp2_with fail
  rw [K.out]
  refine (wnew_t k _ _ (by omega) (by omega)).mono ?_
  rintro e w2 ⟨p, g, rfl, ha2, hb2, hp, hg⟩
  have hz2 := hb2.size
  have R2 := R1.below hb2 (by omega)
  go_wp2_with fail
  refine (ynew_t k _ _ (by omega) (by omega)).mono ?_
  rintro e w3 ⟨q, h, rfl, hy3, hb3, hq, hh⟩
  have hz3 := hb3.size
  have hla := ha2.lts
  have hly := hy3.lts
  have R3 := R2.below hb3 (by omega)
  have ha3 := ha2.below hb3 hla.1 hla.2.1
  have hB3 : Below w.heap.size w w3 := hb1.trans ((hb2.mono hz1).trans (hb3.mono (by omega)))
  go_wp2_with fail
  go_loopw [10] (fun i wr => ∃ j : Nat, j ≤ n ∧ j ≤ 60 ∧ i = .int .i64 j ∧ Below w.heap.size w wr ∧ w3.heap.size ≤ wr.heap.size ∧ ∃ V, isW wr p g k V ∧ isY wr q h k V) (fun i _ => 60 - (intOf i).toNat)
  case atStart => exact ⟨0, by omega, by omega, rfl, hB3, Nat.le_refl _, _, ha3, hy3⟩
  case round =>
    obtain ⟨j, hj1, hj2, rfl, hBr, hzr, V, haV, hyV⟩ := hrel
    by_cases c1 : j < n
    · by_cases c2 : j < 60
      · have Rr := R.below hBr (Nat.le_refl _)
        obtain ⟨b, off, rfl, hbb, hc⟩ := Rr.at_ c1
        obtain ⟨kd, _, ef, fkd, at', _, rfl, fat, nn, _, rfl, fnn, x, _, rfl, fx, y, _, rfl, fy, z, _, rfl, fz, rfl⟩ := hF j c1
        rw [ef] at hc
        have hc0 := hc 0 _ rfl
        have hc1 := hc 1 _ rfl
        have hc2 := hc 2 _ rfl
        have hc3 := hc 3 _ rfl
        have hc4 := hc 4 _ rfl
        have hc5 := hc 5 _ rfl
        rw [Nat.add_zero] at hc0
        rw [← Nat.add_assoc] at hc1 hc2 hc3 hc4 hc5
        have bk := wf_u8' fkd
        have ba := wf_i64' fat
        have bn := wf_i64' fnn
        have bx := wf_u64' fx
        have by' := wf_u64' fy
        have bz := wf_u64' fz
        clear fkd fat fnn fx fy fz
        have EF := Lib.hid ef
        clear hc ef
        have hl8 : 0 ≤ kd % 8 ∧ kd % 8 < 8 := by omega
        obtain ⟨ob, OB⟩ : ∃ ob, Hid (wr.heap.size = ob) := ⟨_, Lib.hid rfl⟩
        by_cases d2 : kd % 8 = 2
        · obtain ⟨v, r, Ca, Cy⟩ := both_word p g q h k V at'
          as_aux_lemma =>
            go_wp2_with fail
            generalize hX : wr.alloc (.cells #[.int .u8 kd, .int .i64 at', .int .i64 nn, .int .u64 x, .int .u64 y, .int .u64 z] 55) = X
            have BX : Blk X wr.heap.size 55 #[.int .u8 kd, .int .i64 at', .int .i64 nn, .int .u64 x, .int .u64 y, .int .u64 z] := by rw [← hX]; exact Blk.new _ _ _
            have haX : isW X p g k V := by rw [← hX]; exact haV.alloc _
            have hyX : isY X q h k V := by rw [← hX]; exact hyV.alloc _
            have hzX : wr.heap.size < X.heap.size := by rw [← hX]; simp
            have hBX : Below w.heap.size w X := by rw [← hX]; exact hBr.alloc (by omega) _
            clear hX
            refine (Ca _ haX).mono ?_
            rintro e w4 ⟨rfl, ha4, hb4⟩
            have hz4 := hb4.size
            have hy4 := hyX.but hb4 (by omega) (by omega) (by omega) (by omega)
            have B4 := BX.but hb4 (by omega) (by omega)
            have c0 := B4.cell 0
            have c1' := B4.cell 1
            have c2' := B4.cell 2
            have c3' := B4.cell 3
            have c4' := B4.cell 4
            have c5' := B4.cell 5
            go_wp2_with fail
            refine (Cy _ hy4).mono ?_
            rintro e w5 ⟨rfl, hy5, hb5⟩
            have hz5 := hb5.size
            have ha5 := ha4.but hb5 (by omega) (by omega) (by omega) (by omega)
            go_wp2_with fail
            go_roundw
            case rel => exact ⟨j + 1, by omega, by omega, by go_num, hBX.trans ((hb4.below (by omega) (by omega)).trans (hb5.below (by omega) (by omega))), by omega, _, ha5, hy5⟩
            case measure => simp [intOf]; omega
        by_cases d3 : kd % 8 = 3
        · obtain ⟨v, r, Ca, Cy⟩ := both_byte p g q h k V at'
          as_aux_lemma =>
            go_wp2_with fail
            generalize hX : wr.alloc (.cells #[.int .u8 kd, .int .i64 at', .int .i64 nn, .int .u64 x, .int .u64 y, .int .u64 z] 55) = X
            have BX : Blk X wr.heap.size 55 #[.int .u8 kd, .int .i64 at', .int .i64 nn, .int .u64 x, .int .u64 y, .int .u64 z] := by rw [← hX]; exact Blk.new _ _ _
            have haX : isW X p g k V := by rw [← hX]; exact haV.alloc _
            have hyX : isY X q h k V := by rw [← hX]; exact hyV.alloc _
            have hzX : wr.heap.size < X.heap.size := by rw [← hX]; simp
            have hBX : Below w.heap.size w X := by rw [← hX]; exact hBr.alloc (by omega) _
            clear hX
            refine (Ca _ haX).mono ?_
            rintro e w4 ⟨rfl, ha4, hb4⟩
            have hz4 := hb4.size
            have hy4 := hyX.but hb4 (by omega) (by omega) (by omega) (by omega)
            have B4 := BX.but hb4 (by omega) (by omega)
            have c0 := B4.cell 0
            have c1' := B4.cell 1
            have c2' := B4.cell 2
            have c3' := B4.cell 3
            have c4' := B4.cell 4
            have c5' := B4.cell 5
            go_wp2_with fail
            refine (Cy _ hy4).mono ?_
            rintro e w5 ⟨rfl, hy5, hb5⟩
            have hz5 := hb5.size
            have ha5 := ha4.but hb5 (by omega) (by omega) (by omega) (by omega)
            go_wp2_with fail
            go_roundw
            case rel => exact ⟨j + 1, by omega, by omega, by go_num, hBX.trans ((hb4.below (by omega) (by omega)).trans (hb5.below (by omega) (by omega))), by omega, _, ha5, hy5⟩
            case measure => simp [intOf]; omega
        by_cases d4 : kd % 8 = 4
        · have hx5 : bits .and .u64 x 255 = x % 256 := u64_and255 x bx
          have hx6 : IntKind.u8.wrap (x % 256) = x % 256 := by rw [IntKind.wrap_u8]; omega
          obtain ⟨r, V', Ca, Cy⟩ := both_putByte p g q h k V at' (x % 256) (by omega)
          as_aux_lemma =>
            go_wp2_with fail
            generalize hX : wr.alloc (.cells #[.int .u8 kd, .int .i64 at', .int .i64 nn, .int .u64 x, .int .u64 y, .int .u64 z] 55) = X
            have BX : Blk X wr.heap.size 55 #[.int .u8 kd, .int .i64 at', .int .i64 nn, .int .u64 x, .int .u64 y, .int .u64 z] := by rw [← hX]; exact Blk.new _ _ _
            have haX : isW X p g k V := by rw [← hX]; exact haV.alloc _
            have hyX : isY X q h k V := by rw [← hX]; exact hyV.alloc _
            have hzX : wr.heap.size < X.heap.size := by rw [← hX]; simp
            have hBX : Below w.heap.size w X := by rw [← hX]; exact hBr.alloc (by omega) _
            clear hX
            have hzD : X.heap.size ≤ X.drew.heap.size := Nat.le_refl _
            have x1 : ∀ w', Blk w' wr.heap.size 55 #[.int .u8 kd, .int .i64 at', .int .i64 nn, .int .u64 x, .int .u64 y, .int .u64 z] → w'.cell? ⟨wr.heap.size, 1, none⟩ = some (.int .i64 at') := fun w' h => h.cell 1
            have x2 : ∀ w', Blk w' wr.heap.size 55 #[.int .u8 kd, .int .i64 at', .int .i64 nn, .int .u64 x, .int .u64 y, .int .u64 z] → w'.cell? ⟨wr.heap.size, 2, none⟩ = some (.int .i64 nn) := fun w' h => h.cell 2
            have x3 : ∀ w', Blk w' wr.heap.size 55 #[.int .u8 kd, .int .i64 at', .int .i64 nn, .int .u64 x, .int .u64 y, .int .u64 z] → w'.cell? ⟨wr.heap.size, 3, none⟩ = some (.int .u64 x) := fun w' h => h.cell 3
            go_region_held3 (fun w' => Blk w' wr.heap.size 55 #[.int .u8 kd, .int .i64 at', .int .i64 nn, .int .u64 x, .int .u64 y, .int .u64 z])
              (first | assumption | exact BX.drew | exact BX.drew.but hbA (by omega) (by omega) | exact BX.drew.but hbY (by omega) (by omega) | exact (BX.drew.but hbA (by omega) (by omega)).but hbY (by omega) (by omega) | exact (BX.drew.but hbY (by omega) (by omega)).but hbA (by omega) (by omega))
              (first | (go_at_call 20; refine (Ca _ (by first | exact haX.drew | exact haX.drew.but hbY (by omega) (by omega) (by omega) (by omega))).mono ?_; rintro e wa ⟨rfl, haA, hbA⟩; have hzA := hbA.size) | (go_at_call 28; refine (Cy _ (by first | exact hyX.drewN 1 | exact (hyX.drewN 1).but hbA (by omega) (by omega) (by omega) (by omega))).mono ?_; rintro e wy ⟨rfl, hyA, hbY⟩; have hzY := hbY.size))
            all_goals
              go_wp2_with fail
              go_roundw
              case rel => first
                | exact ⟨j + 1, by omega, by omega, by go_num, (hBX.drew).trans ((hbA.below (by omega) (by omega)).trans (hbY.below (by omega) (by omega))), by omega, _, haA.but hbY (by omega) (by omega) (by omega) (by omega), hyA⟩
                | exact ⟨j + 1, by omega, by omega, by go_num, (hBX.drew).trans ((hbY.below (by omega) (by omega)).trans (hbA.below (by omega) (by omega))), by omega, _, haA, hyA.but hbA (by omega) (by omega) (by omega) (by omega)⟩
              case measure => simp [intOf]; omega
        by_cases d5 : kd % 8 = 5
        · obtain ⟨b', r, V', Ca, Cy⟩ := both_cas p g q h k V at' x y by'
          as_aux_lemma =>
            go_wp2_with fail
            generalize hX : wr.alloc (.cells #[.int .u8 kd, .int .i64 at', .int .i64 nn, .int .u64 x, .int .u64 y, .int .u64 z] 55) = X
            have BX : Blk X wr.heap.size 55 #[.int .u8 kd, .int .i64 at', .int .i64 nn, .int .u64 x, .int .u64 y, .int .u64 z] := by rw [← hX]; exact Blk.new _ _ _
            have haX : isW X p g k V := by rw [← hX]; exact haV.alloc _
            have hyX : isY X q h k V := by rw [← hX]; exact hyV.alloc _
            have hzX : wr.heap.size < X.heap.size := by rw [← hX]; simp
            have hBX : Below w.heap.size w X := by rw [← hX]; exact hBr.alloc (by omega) _
            clear hX
            refine (Ca _ haX).mono ?_
            rintro e w4 ⟨rfl, ha4, hb4⟩
            have hz4 := hb4.size
            have hy4 := hyX.but hb4 (by omega) (by omega) (by omega) (by omega)
            have B4 := BX.but hb4 (by omega) (by omega)
            have c0 := B4.cell 0
            have c1' := B4.cell 1
            have c2' := B4.cell 2
            have c3' := B4.cell 3
            have c4' := B4.cell 4
            have c5' := B4.cell 5
            go_wp2_with fail
            refine (Cy _ hy4).mono ?_
            rintro e w5 ⟨rfl, hy5, hb5⟩
            have hz5 := hb5.size
            have ha5 := ha4.but hb5 (by omega) (by omega) (by omega) (by omega)
            go_wp2_with fail
            go_roundw
            case rel => exact ⟨j + 1, by omega, by omega, by go_num, hBX.trans ((hb4.below (by omega) (by omega)).trans (hb5.below (by omega) (by omega))), by omega, _, ha5, hy5⟩
            case measure => simp [intOf]; omega
        by_cases d6 : kd % 8 = 6
        · obtain ⟨v, b', r, V', Ca, Cy⟩ := both_claim p g q h k V at' x y nn z x (fun i hi => haV.bd i hi) haV.most bx by' bz bx
          as_aux_lemma =>
            go_wp2_with fail
            generalize hX : wr.alloc (.cells #[.int .u8 kd, .int .i64 at', .int .i64 nn, .int .u64 x, .int .u64 y, .int .u64 z] 55) = X
            have BX : Blk X wr.heap.size 55 #[.int .u8 kd, .int .i64 at', .int .i64 nn, .int .u64 x, .int .u64 y, .int .u64 z] := by rw [← hX]; exact Blk.new _ _ _
            have haX : isW X p g k V := by rw [← hX]; exact haV.alloc _
            have hyX : isY X q h k V := by rw [← hX]; exact hyV.alloc _
            have hzX : wr.heap.size < X.heap.size := by rw [← hX]; simp
            have hBX : Below w.heap.size w X := by rw [← hX]; exact hBr.alloc (by omega) _
            clear hX
            refine (Ca _ haX).mono ?_
            rintro e w4 ⟨rfl, ha4, hb4⟩
            have hz4 := hb4.size
            have hy4 := hyX.but hb4 (by omega) (by omega) (by omega) (by omega)
            have B4 := BX.but hb4 (by omega) (by omega)
            have c0 := B4.cell 0
            have c1' := B4.cell 1
            have c2' := B4.cell 2
            have c3' := B4.cell 3
            have c4' := B4.cell 4
            have c5' := B4.cell 5
            go_wp2_with fail
            refine (Cy _ hy4).mono ?_
            rintro e w5 ⟨rfl, hy5, hb5⟩
            have hz5 := hb5.size
            have ha5 := ha4.but hb5 (by omega) (by omega) (by omega) (by omega)
            go_wp2_with fail
            go_roundw
            case rel => exact ⟨j + 1, by omega, by omega, by go_num, hBX.trans ((hb4.below (by omega) (by omega)).trans (hb5.below (by omega) (by omega))), by omega, _, ha5, hy5⟩
            case measure => simp [intOf]; omega
        by_cases d7 : kd % 8 = 7
        · obtain ⟨r, V', Ca, Cy⟩ := both_zero p g q h k V at' nn bn
          as_aux_lemma =>
            go_wp2_with fail
            generalize hX : wr.alloc (.cells #[.int .u8 kd, .int .i64 at', .int .i64 nn, .int .u64 x, .int .u64 y, .int .u64 z] 55) = X
            have BX : Blk X wr.heap.size 55 #[.int .u8 kd, .int .i64 at', .int .i64 nn, .int .u64 x, .int .u64 y, .int .u64 z] := by rw [← hX]; exact Blk.new _ _ _
            have haX : isW X p g k V := by rw [← hX]; exact haV.alloc _
            have hyX : isY X q h k V := by rw [← hX]; exact hyV.alloc _
            have hzX : wr.heap.size < X.heap.size := by rw [← hX]; simp
            have hBX : Below w.heap.size w X := by rw [← hX]; exact hBr.alloc (by omega) _
            clear hX
            have hzD : X.heap.size ≤ X.drew.heap.size := Nat.le_refl _
            have x1 : ∀ w', Blk w' wr.heap.size 55 #[.int .u8 kd, .int .i64 at', .int .i64 nn, .int .u64 x, .int .u64 y, .int .u64 z] → w'.cell? ⟨wr.heap.size, 1, none⟩ = some (.int .i64 at') := fun w' h => h.cell 1
            have x2 : ∀ w', Blk w' wr.heap.size 55 #[.int .u8 kd, .int .i64 at', .int .i64 nn, .int .u64 x, .int .u64 y, .int .u64 z] → w'.cell? ⟨wr.heap.size, 2, none⟩ = some (.int .i64 nn) := fun w' h => h.cell 2
            have x3 : ∀ w', Blk w' wr.heap.size 55 #[.int .u8 kd, .int .i64 at', .int .i64 nn, .int .u64 x, .int .u64 y, .int .u64 z] → w'.cell? ⟨wr.heap.size, 3, none⟩ = some (.int .u64 x) := fun w' h => h.cell 3
            go_region_held3 (fun w' => Blk w' wr.heap.size 55 #[.int .u8 kd, .int .i64 at', .int .i64 nn, .int .u64 x, .int .u64 y, .int .u64 z])
              (first | assumption | exact BX.drew | exact BX.drew.but hbA (by omega) (by omega) | exact BX.drew.but hbY (by omega) (by omega) | exact (BX.drew.but hbA (by omega) (by omega)).but hbY (by omega) (by omega) | exact (BX.drew.but hbY (by omega) (by omega)).but hbA (by omega) (by omega))
              (first | (go_at_call 23; refine (Ca _ (by first | exact haX.drew | exact haX.drew.but hbY (by omega) (by omega) (by omega) (by omega))).mono ?_; rintro e wa ⟨rfl, haA, hbA⟩; have hzA := hbA.size) | (go_at_call 31; refine (Cy _ (by first | exact hyX.drewN 1 | exact (hyX.drewN 1).but hbA (by omega) (by omega) (by omega) (by omega))).mono ?_; rintro e wy ⟨rfl, hyA, hbY⟩; have hzY := hbY.size))
            all_goals
              go_wp2_with fail
              go_roundw
              case rel => first
                | exact ⟨j + 1, by omega, by omega, by go_num, (hBX.drew).trans ((hbA.below (by omega) (by omega)).trans (hbY.below (by omega) (by omega))), by omega, _, haA.but hbY (by omega) (by omega) (by omega) (by omega), hyA⟩
                | exact ⟨j + 1, by omega, by omega, by go_num, (hBX.drew).trans ((hbY.below (by omega) (by omega)).trans (hbA.below (by omega) (by omega))), by omega, _, haA, hyA.but hbA (by omega) (by omega) (by omega) (by omega)⟩
              case measure => simp [intOf]; omega
        obtain ⟨r, V', Ca, Cy⟩ := both_put p g q h k V at' x bx
        by_cases d0 : kd % 8 = 0
        · as_aux_lemma =>
            go_wp2_with fail
            generalize hX : wr.alloc (.cells #[.int .u8 kd, .int .i64 at', .int .i64 nn, .int .u64 x, .int .u64 y, .int .u64 z] 55) = X
            have BX : Blk X wr.heap.size 55 #[.int .u8 kd, .int .i64 at', .int .i64 nn, .int .u64 x, .int .u64 y, .int .u64 z] := by rw [← hX]; exact Blk.new _ _ _
            have haX : isW X p g k V := by rw [← hX]; exact haV.alloc _
            have hyX : isY X q h k V := by rw [← hX]; exact hyV.alloc _
            have hzX : wr.heap.size < X.heap.size := by rw [← hX]; simp
            have hBX : Below w.heap.size w X := by rw [← hX]; exact hBr.alloc (by omega) _
            clear hX
            have hzD : X.heap.size ≤ X.drew.heap.size := Nat.le_refl _
            have x1 : ∀ w', Blk w' wr.heap.size 55 #[.int .u8 kd, .int .i64 at', .int .i64 nn, .int .u64 x, .int .u64 y, .int .u64 z] → w'.cell? ⟨wr.heap.size, 1, none⟩ = some (.int .i64 at') := fun w' h => h.cell 1
            have x2 : ∀ w', Blk w' wr.heap.size 55 #[.int .u8 kd, .int .i64 at', .int .i64 nn, .int .u64 x, .int .u64 y, .int .u64 z] → w'.cell? ⟨wr.heap.size, 2, none⟩ = some (.int .i64 nn) := fun w' h => h.cell 2
            have x3 : ∀ w', Blk w' wr.heap.size 55 #[.int .u8 kd, .int .i64 at', .int .i64 nn, .int .u64 x, .int .u64 y, .int .u64 z] → w'.cell? ⟨wr.heap.size, 3, none⟩ = some (.int .u64 x) := fun w' h => h.cell 3
            go_region_held3 (fun w' => Blk w' wr.heap.size 55 #[.int .u8 kd, .int .i64 at', .int .i64 nn, .int .u64 x, .int .u64 y, .int .u64 z])
              (first | assumption | exact BX.drew | exact BX.drew.but hbA (by omega) (by omega) | exact BX.drew.but hbY (by omega) (by omega) | exact (BX.drew.but hbA (by omega) (by omega)).but hbY (by omega) (by omega) | exact (BX.drew.but hbY (by omega) (by omega)).but hbA (by omega) (by omega))
              (first | (go_at_call 19; refine (Ca _ (by first | exact haX.drew | exact haX.drew.but hbY (by omega) (by omega) (by omega) (by omega))).mono ?_; rintro e wa ⟨rfl, haA, hbA⟩; have hzA := hbA.size) | (go_at_call 32; refine (Cy _ (by first | exact hyX.drewN 1 | exact (hyX.drewN 1).but hbA (by omega) (by omega) (by omega) (by omega))).mono ?_; rintro e wy ⟨rfl, hyA, hbY⟩; have hzY := hbY.size))
            all_goals
              go_wp2_with fail
              go_roundw
              case rel => first
                | exact ⟨j + 1, by omega, by omega, by go_num, (hBX.drew).trans ((hbA.below (by omega) (by omega)).trans (hbY.below (by omega) (by omega))), by omega, _, haA.but hbY (by omega) (by omega) (by omega) (by omega), hyA⟩
                | exact ⟨j + 1, by omega, by omega, by go_num, (hBX.drew).trans ((hbY.below (by omega) (by omega)).trans (hbA.below (by omega) (by omega))), by omega, _, haA, hyA.but hbA (by omega) (by omega) (by omega) (by omega)⟩
              case measure => simp [intOf]; omega
        have d1 : kd % 8 = 1 := by omega
        as_aux_lemma =>
          go_wp2_with fail
          generalize hX : wr.alloc (.cells #[.int .u8 kd, .int .i64 at', .int .i64 nn, .int .u64 x, .int .u64 y, .int .u64 z] 55) = X
          have BX : Blk X wr.heap.size 55 #[.int .u8 kd, .int .i64 at', .int .i64 nn, .int .u64 x, .int .u64 y, .int .u64 z] := by rw [← hX]; exact Blk.new _ _ _
          have haX : isW X p g k V := by rw [← hX]; exact haV.alloc _
          have hyX : isY X q h k V := by rw [← hX]; exact hyV.alloc _
          have hzX : wr.heap.size < X.heap.size := by rw [← hX]; simp
          have hBX : Below w.heap.size w X := by rw [← hX]; exact hBr.alloc (by omega) _
          clear hX
          have hzD : X.heap.size ≤ X.drew.heap.size := Nat.le_refl _
          have x1 : ∀ w', Blk w' wr.heap.size 55 #[.int .u8 kd, .int .i64 at', .int .i64 nn, .int .u64 x, .int .u64 y, .int .u64 z] → w'.cell? ⟨wr.heap.size, 1, none⟩ = some (.int .i64 at') := fun w' h => h.cell 1
          have x2 : ∀ w', Blk w' wr.heap.size 55 #[.int .u8 kd, .int .i64 at', .int .i64 nn, .int .u64 x, .int .u64 y, .int .u64 z] → w'.cell? ⟨wr.heap.size, 2, none⟩ = some (.int .i64 nn) := fun w' h => h.cell 2
          have x3 : ∀ w', Blk w' wr.heap.size 55 #[.int .u8 kd, .int .i64 at', .int .i64 nn, .int .u64 x, .int .u64 y, .int .u64 z] → w'.cell? ⟨wr.heap.size, 3, none⟩ = some (.int .u64 x) := fun w' h => h.cell 3
          go_region_held3 (fun w' => Blk w' wr.heap.size 55 #[.int .u8 kd, .int .i64 at', .int .i64 nn, .int .u64 x, .int .u64 y, .int .u64 z])
            (first | assumption | exact BX.drew | exact BX.drew.but hbA (by omega) (by omega) | exact BX.drew.but hbY (by omega) (by omega) | exact (BX.drew.but hbA (by omega) (by omega)).but hbY (by omega) (by omega) | exact (BX.drew.but hbY (by omega) (by omega)).but hbA (by omega) (by omega))
            (first | (go_at_call 19; refine (Ca _ (by first | exact haX.drew | exact haX.drew.but hbY (by omega) (by omega) (by omega) (by omega))).mono ?_; rintro e wa ⟨rfl, haA, hbA⟩; have hzA := hbA.size) | (go_at_call 32; refine (Cy _ (by first | exact hyX.drewN 1 | exact (hyX.drewN 1).but hbA (by omega) (by omega) (by omega) (by omega))).mono ?_; rintro e wy ⟨rfl, hyA, hbY⟩; have hzY := hbY.size))
          all_goals
            go_wp2_with fail
            go_roundw
            case rel => first
              | exact ⟨j + 1, by omega, by omega, by go_num, (hBX.drew).trans ((hbA.below (by omega) (by omega)).trans (hbY.below (by omega) (by omega))), by omega, _, haA.but hbY (by omega) (by omega) (by omega) (by omega), hyA⟩
              | exact ⟨j + 1, by omega, by omega, by go_num, (hBX.drew).trans ((hbY.below (by omega) (by omega)).trans (hbA.below (by omega) (by omega))), by omega, _, haA, hyA.but hbA (by omega) (by omega) (by omega) (by omega)⟩
            case measure => simp [intOf]; omega
      · obtain rfl : j = 60 := by omega
        as_aux_lemma =>
          go_wp2_with fail
          go_loop [30] (fun i => ∃ m : Nat, m ≤ k ∧ i = .int .i64 m) (fun i => k - (intOf i).toNat)
          case atStart => exact ⟨0, by omega, rfl⟩
          case round =>
            obtain ⟨m, hm, rfl⟩ := hrel
            by_cases hlt : m < k
            · have hs := hyV.slice
              have hc := hyV.row.cell m hlt
              obtain ⟨u, U⟩ : ∃ u, Hid (V m = u) := ⟨_, Lib.hid rfl⟩
              rw [U.out] at hc
              go_wp2_with fail
              refine (wword_t _ _ _ _ _ _ m haV (by omega) hlt).mono ?_
              rintro e w' ⟨rfl, rfl⟩
              rw [U.out]
              go_wp2_with fail
              go_round
              case rel => exact ⟨m + 1, by omega, by go_num⟩
              case measure => simp [intOf]; omega
            · obtain rfl : k = m := by omega
              go_wp2_with fail
              refine (wlen_t _ _ _ _ _ haV).mono ?_
              rintro e w' ⟨rfl, rfl⟩
              go_wp2_with fail
              go_ret
              exact ⟨rfl, hBr⟩
    · obtain rfl : n = j := by omega
      as_aux_lemma =>
        go_wp2_with fail
        go_loop [30] (fun i => ∃ m : Nat, m ≤ k ∧ i = .int .i64 m) (fun i => k - (intOf i).toNat)
        case atStart => exact ⟨0, by omega, rfl⟩
        case round =>
          obtain ⟨m, hm, rfl⟩ := hrel
          by_cases hlt : m < k
          · have hs := hyV.slice
            have hc := hyV.row.cell m hlt
            obtain ⟨u, U⟩ : ∃ u, Hid (V m = u) := ⟨_, Lib.hid rfl⟩
            rw [U.out] at hc
            go_wp2_with fail
            refine (wword_t _ _ _ _ _ _ m haV (by omega) hlt).mono ?_
            rintro e w' ⟨rfl, rfl⟩
            rw [U.out]
            go_wp2_with fail
            go_round
            case rel => exact ⟨m + 1, by omega, by go_num⟩
            case measure => simp [intOf]; omega
          · obtain rfl : k = m := by omega
            go_wp2_with fail
            refine (wlen_t _ _ _ _ _ haV).mono ?_
            rintro e w' ⟨rfl, rfl⟩
            go_wp2_with fail
            go_ret
            exact ⟨rfl, hBr⟩

end Go.Proofs.Ytahkplakdbbmmaa
