/- ThingCuts: walk. -/
import Derived.Test.YtahkplakdbbmmaaRowX
import Derived.Test.YtahkplakdbbmmaaWf
import Derived.Deep.RegionHeld3
namespace Go.Proofs.Ytahkplakdbbmmaa
set_option linter.unusedVariables false
set_option linter.unusedSimpArgs false
open Go.RowKit

set_option maxHeartbeats 8000000 in
set_option maxRecDepth 100000 in
theorem walkThingCuts (A : Option Addr) (n c : Nat) (F : Nat → List Value) (m : Int) (w : World) (hn : n ≤ maxLen) (R : rd w w.heap.size A n 6 F)
    (hFit : ∀ i, i < n → FitsK [some .i64, some .i64, some .i64, .none, some .i64, some .i64] (F i)) (hm : 0 ≤ m ∧ m ≤ 255) :
    Calls Try.prog 11 #[.slice A n c, .int .u8 m] w fun e w' => e = .returned (.bool true) ∧ Below w.heap.size w w' := by
  unfold maxLen at hn
  go_enter Try.func11, Try.ntmps11
  go_wp2_with fail
  refine (shown08_t _).mono ?_
  rintro e w1 ⟨rfl, hb1⟩
  have hz1 := hb1.size
  go_wp2_with fail
  refine (row_t _ _ _ _ _ _ (by omega) (R.below hb1 (Nat.le_refl _)) (by omega) hFit).mono ?_
  rintro e w2 ⟨p, g, V, N, H, vh, vp, B, rfl, st, hp, hg, hB, hb2⟩
  have hz2 := hb2.size
  have hBw2 : Below w.heap.size w w2 := hb1.trans (hb2.mono hz1)
  have a2 := st.arena
  have r2 := st.row
  have hN := st.most
  have hlt := st.lt
  have hle := wAt_le r2.ok
  have hge := wAt_ge H N
  obtain ⟨Ah, ch, rfl, _, _, Rh, _⟩ := own_rd6 st.heads
  obtain ⟨Ap, cp, rfl, hcp, _, Rp, hbB⟩ := own_rdP st.places
  have HU := Lib.hid (st.row.used)
  clear st R
  rcases Nat.eq_zero_or_pos N with rfl | hpos
  · go_wp2_with fail
    go_ret
    exact ⟨rfl, hBw2⟩
  have hN0 : ((N : Int) == 0) = false := by simp; omega
  obtain ⟨k, K⟩ : ∃ k : Nat, Hid (m % (N : Int) = k) := ⟨(m % (N : Int)).toNat, Lib.hid (by have := Int.emod_nonneg m (b := (N : Int)) (by omega); omega)⟩
  have hk : k < N := by have := Int.emod_lt_of_pos m (b := (N : Int)) (by omega); have := K.out; omega
  have hgk := wAt_ge H k
  have hkN := wAt_mono r2.ok hk (Nat.le_refl _)
  have hzk := (r2.ok k hk).bd
  obtain ⟨b, off, rfl, hbb, hc⟩ := Rp.int_at hk
  have hbB' : B ≤ b := hbB _ rfl
  clear hbB
  have hK := K.out
  go_wp2_with fail
  rw [hK]
  clear hK
  have hk0 : wAt H 0 = 8 := rfl
  refine (r2.walk hN _ _ _ a2 0 k (by omega) _ _ (by rw [hk0]; rfl) (by rw [hk0, Nat.zero_add]; omega)).mono ?_
  rintro x w3 ⟨A1, c1, rfl, R1, hb3⟩
  have hz3 := hb3.size
  have a3 := a2.below hb3 (by omega) (by omega)
  have Rp3 := Rp.below hb3 (Nat.le_refl _)
  have hc3 : w3.cell? ⟨b, off + k, none⟩ = some (.int .i64 (8 * (wAt H k : Int))) := (hb3.cell (p := ⟨b, off + k, none⟩) hbb).trans hc
  have hB3 : Below w.heap.size w w3 := hBw2.trans (hb3.mono (by omega))
  go_wp2_with fail
  have xp : ∀ w', (fun w' => Below w3.heap.size w3 w') w' → w'.cell? ⟨b, off + k, none⟩ = some (.int .i64 (8 * (wAt H k : Int))) := fun w' h => (h.cell (p := ⟨b, off + k, none⟩) (by simp; omega)).trans hc3
  go_region_held3 (fun w' => Below w3.heap.size w3 w') (first | exact (Below.refl _ _).drew | assumption | exact (Below.refl _ _).drew.trans (by assumption))
    (first | (go_at_call 39; refine (r2.walk hN _ _ _ a3.drew k (N - k) (by omega) _ _ ?q1 ?q2).mono ?_; (case q1 => rfl); (case q2 => (rw [show k + (N - k) = N from by omega]; exact left_4 _ _ (by omega) (by omega))); rintro x w4 ⟨A2, c2, rfl, R2, hb4⟩))
  have hz4 := hb4.size
  have hz4' : w3.heap.size ≤ w4.heap.size := hz4
  have a4 := a3.drew.below hb4 (by show p < w3.heap.size; omega) (by show g < w3.heap.size; omega)
  have Rp4 := (Rp3.drewN 1).below hb4 (by show w2.heap.size ≤ w3.heap.size; omega)
  have R14 := (R1.drewN 1).below hb4 (Nat.le_refl _)
  have hc4 : w4.cell? ⟨b, off + k, none⟩ = some (.int .i64 (8 * (wAt H k : Int))) := (hb4.cell (p := ⟨b, off + k, none⟩) (by show b < w3.heap.size; omega)).trans hc3
  have hB4 : Below w.heap.size w w4 := hB3.drew.trans (hb4.mono (by show w.heap.size ≤ w3.heap.size; omega))
  clear xp
  go_wp2_with fail
  refine (ints_t _ _ _ _ _ _ _ _ _ R14 ((Rp4.front (by omega)).same fun i hi => by rw [Nat.zero_add]) (by omega)).mono ?_
  rintro x w5 ⟨rfl, m5, rfl⟩
  have Rp5 := Rp4.drewN m5
  go_wp2_with fail
  refine (ints_t _ _ _ _ _ _ _ _ _ (R2.drewN m5) Rp5.back (by omega)).mono ?_
  rintro x w6 ⟨rfl, m6, rfl⟩
  have zv := zeroValue_80
  have zs := store_80d
  go_wp2_with fail
  clear zv zs
  obtain ⟨X, HX, rwX, hrX⟩ : ∃ X, Hid ((w4.drewN (m5 + m6)).alloc (.cells (cellsF .u64 80 fun _ => 0) 82) = X) ∧ isRow X w4.heap.size .u64 82 80 (fun _ => 0) ∧ Below w4.heap.size w4 X :=
    ⟨_, Lib.hid rfl, heap_alloc_new (w4.drewN (m5 + m6)) _, (below_drewN' (Below.refl _ _) _).alloc (Nat.le_refl _) _⟩
  rw [HX.out]
  have zX : X.heap.size = w4.heap.size + 1 := by rw [← HX.out]; simp
  clear HX
  have aX := a4.below hrX (by omega) (by omega)
  have RpX := Rp4.below hrX (by omega)
  have hcX : X.cell? ⟨b, off + k, none⟩ = some (.int .i64 (8 * (wAt H k : Int))) := (hrX.cell (p := ⟨b, off + k, none⟩) (by simp; omega)).trans hc4
  have hBX : Below w.heap.size w X := hB4.trans (hrX.mono (by omega))
  go_loopw [19] (fun i wr => ∃ j : Nat, j ≤ 80 ∧ i = .int .i64 j ∧ isRow wr w4.heap.size .u64 82 80 (fun q => if q < j then V q else 0) ∧ But X.heap.size w4.heap.size X wr) (fun i _ => 80 - (intOf i).toNat)
  case atStart => exact ⟨0, by omega, rfl, rwX.ext fun i _ => by simp, But.refl _ _ _⟩
  case round =>
    obtain ⟨j, hj, rfl, rwr, hbr⟩ := hrel
    have ar := aX.but hbr (by omega) (by omega) (by omega) (by omega)
    have hzr := hbr.size
    by_cases hlt : j < 80
    · have hcj := rwr.cell j hlt
      have hfj := rwr.free j
      obtain ⟨u, U⟩ : ∃ u, Hid (V j = u) := ⟨_, Lib.hid rfl⟩
      go_wp2_with fail
      refine (wword_t _ _ _ _ _ _ j ar (by omega) hlt).mono ?_
      rintro x w' ⟨rfl, rfl⟩
      rw [U.out]
      go_wp2_with fail
      go_roundw
      case rel => exact ⟨j + 1, by omega, by go_num, (rwr.set j u).ext fun i hi => by unfold upd; by_cases e : i = j; (· subst e; simp [U.out]); (· simp only [e, if_false]; by_cases e2 : i < j; (· rw [if_pos e2, if_pos (by omega)]); (· rw [if_neg e2, if_neg (by omega)])), hbr.set j _⟩
      case measure => simp [intOf]; omega
    · obtain rfl : j = 80 := by omega
      have rw1 : isRow wr w4.heap.size .u64 82 80 V := rwr.ext fun i hi => by simp [hi]
      have hc1 : wr.cell? ⟨b, off + k, none⟩ = some (.int .i64 (8 * (wAt H k : Int))) := (hbr.cell (p := ⟨b, off + k, none⟩) (by simp; omega) (by simp; omega)).trans hcX
      have hB1 : Below w.heap.size w wr := hBX.trans (hbr.below (by omega) (by omega))
      clear rwr rwX hcX hbr hBX
      have o1 := r2.head k hk
      have hbit := mark_bit o1
      have o2 := o1.mark
      obtain ⟨u, U⟩ : ∃ u, Hid (hF (H k).z (H k).l (H k).t 1 = u) := ⟨_, Lib.hid rfl⟩
      obtain ⟨f0, F0⟩ : ∃ f0, Hid (V (wAt H k) = f0) := ⟨_, Lib.hid rfl⟩
      have hk62 : wAt H k + 2 ≤ 62 := by omega
      obtain ⟨J, HJ⟩ : ∃ J : Nat, Hid (wAt H k = J) := ⟨_, Lib.hid rfl⟩
      have hnn : 8 ≤ J ∧ J + 2 ≤ 62 := by rw [← HJ.out]; omega
      rw [HJ.out] at hc1 o1 o2 F0 hbit
      clear hk62 hkN hgk hge hle hc R1 R2 Rp Rp3 Rp4 Rp5 RpX R14 hc3 hc4 hN0 a2 a3 a4 aX hb2 hb3 hb4 hrX Rh hzk hcp
      go_wp2_with fail
      refine (tmark_t _ _ _ _ _ _ J _ _ _ _ _ _ ar rfl (by omega) o1).mono ?_
      rintro x w5 ⟨rfl, a5, hb5⟩
      rw [U.out] at a5
      have hz5 := hb5.size
      have rw5 := hb5.row rw1 (by omega) (by omega)
      have hc5 : w5.cell? ⟨b, off + k, none⟩ = some (.int .i64 (8 * (J : Int))) := (hb5.cell (p := ⟨b, off + k, none⟩) (by simp; omega) (by simp; omega)).trans hc1
      go_wp2_with fail
      refine (wword_t _ _ _ _ _ _ J a5 rfl (by omega)).mono ?_
      rintro x w' ⟨rfl, rfl⟩
      rw [show upd V J u J = u from by simp [upd]]
      go_wp2_with fail
      refine (tmark_t _ _ _ _ _ _ J (H k).z (H k).l (H k).t true (H k).s (H k).e a5 rfl (by omega) (by rw [show upd V J u J = u from by simp [upd], show upd V J u (J + 1) = V (J + 1) from by simp [upd], ← U.out]; exact o2)).mono ?_
      rintro x w6 ⟨rfl, a6, hb6⟩
      rw [U.out, upd_same (upd V J u) J u (by simp [upd])] at a6
      have hz6 := hb6.size
      have rw6 := hb6.row rw5 (by omega) (by omega)
      have hc6 : w6.cell? ⟨b, off + k, none⟩ = some (.int .i64 (8 * (J : Int))) := (hb6.cell (p := ⟨b, off + k, none⟩) (by simp; omega) (by simp; omega)).trans hc5
      have hB6 : Below w.heap.size w w6 := hB1.trans ((hb5.below (by omega) (by omega)).trans (hb6.below (by omega) (by omega)))
      go_wp2_with fail
      go_loopw [24] (fun i wr => ∃ j : Nat, j ≤ 80 ∧ i = .int .i64 j ∧ wr = w6) (fun i _ => 80 - (intOf i).toNat)
      case atStart => exact ⟨0, by omega, rfl, rfl⟩
      case round =>
        obtain ⟨j, hj, rfl, rfl⟩ := hrel
        by_cases hlt : j < 80
        · have hcj := rw6.cell j hlt
          obtain ⟨v, Hv⟩ : ∃ v, Hid (V j = v) := ⟨_, Lib.hid rfl⟩
          rw [Hv.out] at hcj
          by_cases e : j = J
          · obtain rfl := e
            have e1 : (8 * (j : Int) == 8 * (j : Int)) = true := by simp
            have e2 : (8 * (j : Int) != 8 * (j : Int)) = false := by simp
            by_cases hv : u = v
            · have e3 : (u != v) = false := by simp [hv]
              have HVV := Lib.hid hv
              clear hv
              go_wp2_with fail
              refine (wword_t _ _ _ _ _ _ j a6 rfl hlt).mono ?_
              rintro x w' ⟨rfl, rfl⟩
              rw [show upd V j u j = u from by simp [upd]]
              go_wp2_with fail
              go_roundw
              case rel => exact ⟨j + 1, by omega, by go_num, by first | rfl | trivial⟩
              case measure => simp [intOf]; omega
            · have e3 : (u != v) = true := by simp [hv]
              have HVV := Lib.hid hv
              clear hv
              go_wp2_with fail
              refine (wword_t _ _ _ _ _ _ j a6 rfl hlt).mono ?_
              rintro x w' ⟨rfl, rfl⟩
              rw [show upd V j u j = u from by simp [upd]]
              go_wp2_with fail
              go_roundw
              case rel => exact ⟨j + 1, by omega, by go_num, by first | rfl | trivial⟩
              case measure => simp [intOf]; omega
          · have e1 : (8 * (j : Int) == 8 * (J : Int)) = false := by simp; omega
            have E := Lib.hid e
            clear e
            go_wp2_with fail
            refine (wword_t _ _ _ _ _ _ j a6 rfl hlt).mono ?_
            rintro x w' ⟨rfl, rfl⟩
            rw [show upd V J u j = v from by simp [upd, E.out, Hv.out]]
            go_wp2_with fail
            all_goals
              go_roundw
              case rel => exact ⟨j + 1, by omega, by go_num, by first | rfl | trivial⟩
              case measure => simp [intOf]; omega
        · obtain rfl : j = 80 := by omega
          have hcJ := rw6.cell J (by omega)
          rw [F0.out] at hcJ hbit
          rw [U.out] at hbit
          go_wp2_with fail
          go_ret
          exact ⟨rfl, hB6⟩

end Go.Proofs.Ytahkplakdbbmmaa
