/- ThingSlots: walk. -/
import Derived.Test.YtahkplakdbbmmaaSlots
import Derived.Test.YtahkplakdbbmmaaWf
import Derived.Deep.RegionHeld3
namespace Go.Proofs.Ytahkplakdbbmmaa
set_option linter.unusedVariables false
set_option linter.unusedSimpArgs false
open Go.RowKit

set_option maxHeartbeats 8000000 in
set_option maxRecDepth 100000 in
theorem walkThingSlots (A : Option Addr) (n c : Nat) (F : Nat → List Value) (w : World) (hn : n ≤ maxLen) (R : rd w w.heap.size A n 6 F)
    (hFit : ∀ i, i < n → FitsK [some .i64, some .i64, some .i64, .none, some .i64, some .i64] (F i)) :
    Calls Try.prog 12 #[.slice A n c] w fun e w' => e = .returned (.bool true) ∧ Below w.heap.size w w' := by
  unfold maxLen at hn
  go_enter Try.func12, Try.ntmps12
  go_wp2_with fail
  refine (shown08_t _).mono ?_
  rintro e w1 ⟨rfl, hb1⟩
  have hz1 := hb1.size
  go_wp2_with fail
  refine (row_t _ _ _ _ _ _ (by omega) (R.below hb1 (Nat.le_refl _)) (by omega) hFit).mono ?_
  rintro e w2 ⟨p, g, V, N, H, vh, vp, B, rfl, st, hp, hg, hB, hb2⟩
  have hz2 := hb2.size
  have hBw2 : Below w.heap.size w w2 := hb1.trans (hb2.mono hz1)
  have a2 := st.arena
  have r2 := st.row
  have hN := st.most
  have hlt := st.lt
  obtain ⟨Ah, ch, rfl, _, _, Rh, hBh⟩ := own_rd6 st.heads
  obtain ⟨Ap, cp, rfl, hcp, _, Rp, hbB⟩ := own_rdP st.places
  clear st R
  go_wp2_with fail
  go_loopw [9] (fun i wr => ∃ (j : Nat) (V' : Nat → Int), j ≤ N ∧ i = .int .i64 j ∧ filledS V' N H j 0 ∧ isW wr p g 80 V' ∧ But w2.heap.size g w2 wr) (fun i _ => N - (intOf i).toNat)
  case atStart => exact ⟨0, V, by omega, rfl, .start r2, a2, But.refl _ _ _⟩
  case round =>
    obtain ⟨j, V', hj, rfl, fl, ar, hbr⟩ := hrel
    have hzr := hbr.size
    by_cases hlt' : j < N
    · obtain ⟨bh, oh, rfl, hbh, hch⟩ := Rh.at_ hlt'
      obtain ⟨bp, op, rfl, hbp, hcp⟩ := Rp.int_at hlt'
      have hBh' := (hBh _ rfl).1
      have hBp' := hbB _ rfl
      clear hBh hbB
      have hz := (fl.ok j hlt').bd
      have h62 := wAt_62 fl.ok hN hlt'
      obtain ⟨J, HJ⟩ : ∃ J : Nat, Hid (wAt H j = J) := ⟨_, Lib.hid rfl⟩
      obtain ⟨l, HL⟩ : ∃ l : Nat, Hid ((H j).l = l) := ⟨(H j).l.toNat, Lib.hid (by omega)⟩
      obtain ⟨z, HZ⟩ : ∃ z : Nat, Hid ((H j).z = z) := ⟨_, Lib.hid rfl⟩
      have hd0 := hch 0 _ rfl
      have hd1 := hch 1 _ rfl
      rw [Nat.add_zero] at hd0
      rw [← Nat.add_assoc] at hd1
      rw [HL.out] at hd1 hz
      rw [HZ.out] at hd0 hz h62
      rw [HJ.out] at hcp h62
      simp only at hd0 hd1 hBh' hBp'
      go_wp2_with fail
      go_loopw [10] (fun i wr => ∃ (k : Nat) (V' : Nat → Int), k ≤ l ∧ i = .int .i64 k ∧ filledS V' N H j k ∧ isW wr p g 80 V' ∧ But w2.heap.size g w2 wr) (fun i _ => l - (intOf i).toNat)
      case atStart => exact ⟨0, V', by omega, rfl, fl, ar, hbr⟩
      case round =>
        obtain ⟨k, V1, hk, rfl, f1, a1, hb1'⟩ := hrel
        have hzr1 := hb1'.size
        have c0 : wr.cell? ⟨bh, oh + j * 6, none⟩ = some (.int .i64 (z : Int)) := (hb1'.cell (p := ⟨bh, oh + j * 6, none⟩) (by simp; omega) (by simp; omega)).trans hd0
        have c1 : wr.cell? ⟨bh, oh + j * 6 + 1, none⟩ = some (.int .i64 (l : Int)) := (hb1'.cell (p := ⟨bh, oh + j * 6 + 1, none⟩) (by simp; omega) (by simp; omega)).trans hd1
        have cp0 : wr.cell? ⟨bp, op + j, none⟩ = some (.int .i64 (8 * (J : Int))) := (hb1'.cell (p := ⟨bp, op + j, none⟩) (by simp; omega) (by simp; omega)).trans hcp
        by_cases hkl : k < l
        · have o1 := f1.head j hlt'
          have hput := Lib.hid (f1.put hlt' (k := k) (by rw [HL.out]; omega))
          rw [HJ.out] at o1
          go_wp2_with fail
          refine (tslot_t _ _ _ _ _ _ _ J _ _ _ _ _ _ a1 rfl (by omega) o1 (by rw [HL.out]; omega)).mono ?_
          rintro x w3 ⟨rfl, hb3⟩
          have hz3 := hb3.size
          have a3 := a1.below hb3 (by omega) (by omega)
          have e0 : w3.cell? ⟨bh, oh + j * 6, none⟩ = some (.int .i64 (z : Int)) := (hb3.cell (p := ⟨bh, oh + j * 6, none⟩) (by simp; omega)).trans c0
          have ep : w3.cell? ⟨bp, op + j, none⟩ = some (.int .i64 (8 * (J : Int))) := (hb3.cell (p := ⟨bp, op + j, none⟩) (by simp; omega)).trans cp0
          have hb3' : But w2.heap.size g w2 w3 := hb1'.trans (.of_below (hb3.mono (by omega)))
          go_wp2_with fail
          have HS : (fun w' : World => w'.cell? ⟨bh, oh + j * 6, none⟩ = some (.int .i64 (z : Int)) ∧ w'.cell? ⟨bp, op + j, none⟩ = some (.int .i64 (8 * (J : Int)))) w3.drew := ⟨e0, ep⟩
          have x0 : ∀ w', (fun w' : World => w'.cell? ⟨bh, oh + j * 6, none⟩ = some (.int .i64 (z : Int)) ∧ w'.cell? ⟨bp, op + j, none⟩ = some (.int .i64 (8 * (J : Int)))) w' → w'.cell? ⟨bh, oh + j * 6, none⟩ = some (.int .i64 (z : Int)) := fun _ h => h.1
          have x1 : ∀ w', (fun w' : World => w'.cell? ⟨bh, oh + j * 6, none⟩ = some (.int .i64 (z : Int)) ∧ w'.cell? ⟨bp, op + j, none⟩ = some (.int .i64 (8 * (J : Int)))) w' → w'.cell? ⟨bp, op + j, none⟩ = some (.int .i64 (8 * (J : Int))) := fun _ h => h.2
          have hzD : w3.heap.size ≤ w3.drew.heap.size := Nat.le_refl _
          have v1 : IntKind.i64.wrap (8 * (J : Int) + 16) = 8 * (J : Int) + 16 := by rw [IntKind.wrap_i64]; omega
          have v2 : IntKind.i64.wrap (8 * (J : Int) + 16 + 8 * (k : Int) + 8) = 8 * (J : Int) + 16 + 8 * (k : Int) + 8 := by rw [IntKind.wrap_i64]; omega
          have v3 : IntKind.i64.wrap (8 * (z : Int)) = 8 * (z : Int) := by rw [IntKind.wrap_i64]; omega
          have v3' : IntKind.i64.wrap ((z : Int) * 8) = (z : Int) * 8 := by rw [IntKind.wrap_i64]; omega
          have v4 : IntKind.i64.wrap (8 * (J : Int) + 8 * (z : Int)) = 8 * (J : Int) + 8 * (z : Int) := by rw [IntKind.wrap_i64]; omega
          have v4' : IntKind.i64.wrap (8 * (J : Int) + (z : Int) * 8) = 8 * (J : Int) + 8 * (z : Int) := by rw [IntKind.wrap_i64]; omega
          have v5 : IntKind.i64.wrap (100 * (j : Int)) = 100 * (j : Int) := by rw [IntKind.wrap_i64]; omega
          have v6 : IntKind.i64.wrap (100 * (j : Int) + (k : Int)) = 100 * (j : Int) + (k : Int) := by rw [IntKind.wrap_i64]; omega
          have v7 : IntKind.i64.wrap (100 * (j : Int) + (k : Int) + 1) = 100 * (j : Int) + (k : Int) + 1 := by rw [IntKind.wrap_i64]; omega
          have v8 : IntKind.u64.wrap (100 * (j : Int) + (k : Int) + 1) = 100 * (j : Int) + (k : Int) + 1 := by rw [IntKind.wrap_u64]; omega
          have d1 : decide (8 * (J : Int) + 16 + 8 * (k : Int) < 8 * (J : Int) + 16) = false := by simp; omega
          have d2 : decide (8 * (J : Int) + 8 * (z : Int) < 8 * (J : Int) + 16 + 8 * (k : Int) + 8) = false := by simp; omega
          go_region_held3 (fun w' : World => w'.cell? ⟨bh, oh + j * 6, none⟩ = some (.int .i64 (z : Int)) ∧ w'.cell? ⟨bp, op + j, none⟩ = some (.int .i64 (8 * (J : Int))))
            (first | assumption | exact HS | exact ⟨(hbA.cell (p := ⟨bh, oh + j * 6, none⟩) (by simp; omega) (by simp; omega)).trans HS.1, (hbA.cell (p := ⟨bp, op + j, none⟩) (by simp; omega) (by simp; omega)).trans HS.2⟩)
            (first | (go_at_call 19; refine (wput_t _ _ _ _ _ _ _ (J + 2 + k) a3.drew ?q1 ?q2 ?q3).mono ?_; (case q1 => omega); (case q2 => omega); (case q3 => (unfold inU; omega)); rintro x wa ⟨rfl, haA, hbA⟩; have hzA := hbA.size))
          clear v1 v2 v3 v3' v4 v4' v5 v6 v7 v8 d1 d2 x0 x1 HS
          go_wp2_with fail
          go_roundw
          case rel => exact ⟨k + 1, _, by omega, by go_num, by have := hput.out; rw [HJ.out] at this; exact this, haA, hb3'.drew.trans (hbA.mono (by omega))⟩
          case measure => simp [intOf]; omega
        · obtain rfl : k = l := by omega
          go_wp2_with fail
          go_roundw
          case rel => exact ⟨j + 1, V1, by omega, by go_num, f1.next (by rw [HL.out]; omega), a1, hb1'⟩
          case measure => simp [intOf]; omega
    · obtain rfl : j = N := by omega
      obtain ⟨wo, hwo⟩ : ∃ wo, wo = wr := ⟨_, rfl⟩
      subst hwo
      have hBr : Below w.heap.size w wo := hBw2.trans (hbr.below (by omega) (by omega))
      go_wp2_with fail
      go_loopw [13] (fun i wr => ∃ i' : Nat, i' ≤ j ∧ i = .int .i64 i' ∧ Below wo.heap.size wo wr) (fun i _ => j - (intOf i).toNat)
      case atStart => exact ⟨0, by omega, rfl, Below.refl _ _⟩
      case round =>
        obtain ⟨i, hi, rfl, hbq⟩ := hrel
        have hzq := hbq.size
        by_cases hij : i < j
        · obtain ⟨bh, oh, rfl, hbh, hch⟩ := Rh.at_ hij
          obtain ⟨bp, op, rfl, hbp, hcp⟩ := Rp.int_at hij
          have hBh' := (hBh _ rfl).1
          have hBp' := hbB _ rfl
          clear hBh hbB
          have hz := (fl.ok i hij).bd
          have h62 := wAt_62 fl.ok hN hij
          have o1 := fl.head i hij
          have hsl := Lib.hid (fl.slot i)
          obtain ⟨J, HJ⟩ : ∃ J : Nat, Hid (wAt H i = J) := ⟨_, Lib.hid rfl⟩
          obtain ⟨⟨z, l0, t, d, s, e⟩, Hh⟩ : ∃ h : Hd, Hid (H i = h) := ⟨_, Lib.hid rfl⟩
          rw [Hh.out] at hz h62 o1 hch
          rw [HJ.out] at hcp h62 o1
          simp only at hz h62 o1 hBh' hBp'
          obtain ⟨l, rfl⟩ := Int.eq_ofNat_of_zero_le hz.2.1
          have hcr : ∀ (c : Nat) (u : Value), (Hd.cells ⟨z, (l : Int), t, d, s, e⟩)[c]? = some u → wo.cell? ⟨bh, oh + (i * 6 + c), none⟩ = some u := fun c u hu => (hbr.cell (p := ⟨bh, oh + (i * 6 + c), none⟩) (by simp; omega) (by simp; omega)).trans (hch c u hu)
          have cpr : wo.cell? ⟨bp, op + i, none⟩ = some (.int .i64 (8 * (J : Int))) := (hbr.cell (p := ⟨bp, op + i, none⟩) (by simp; omega) (by simp; omega)).trans hcp
          have hbhr : bh < wo.heap.size := by omega
          have hbpr : bp < wo.heap.size := by omega
          clear hch hcp
          have aq := ar.below hbq (by omega) (by omega)
          have cpq : wr.cell? ⟨bp, op + i, none⟩ = some (.int .i64 (8 * (J : Int))) := (hbq.cell (p := ⟨bp, op + i, none⟩) hbpr).trans cpr
          go_wp2_with fail
          refine (tat_t _ _ _ _ _ _ J _ _ _ _ _ _ aq rfl (by omega) o1).mono ?_
          rintro x w3 ⟨rfl, hb3⟩
          have hz3 := hb3.size
          have k0 : w3.cell? ⟨bh, oh + i * 6, none⟩ = some (.int .i64 (z : Int)) := (hb3.cell (p := ⟨bh, oh + i * 6, none⟩) (by simp; omega)).trans ((hbq.cell (p := ⟨bh, oh + i * 6, none⟩) hbhr).trans (hcr 0 _ rfl))
          have k1 : w3.cell? ⟨bh, oh + i * 6 + 1, none⟩ = some (.int .i64 (l : Int)) := (hb3.cell (p := ⟨bh, oh + i * 6 + 1, none⟩) (by simp; omega)).trans ((hbq.cell (p := ⟨bh, oh + i * 6 + 1, none⟩) hbhr).trans (hcr 1 _ rfl))
          have k2 : w3.cell? ⟨bh, oh + i * 6 + 2, none⟩ = some (.int .i64 t) := (hb3.cell (p := ⟨bh, oh + i * 6 + 2, none⟩) (by simp; omega)).trans ((hbq.cell (p := ⟨bh, oh + i * 6 + 2, none⟩) hbhr).trans (hcr 2 _ rfl))
          have k3 : w3.cell? ⟨bh, oh + i * 6 + 3, none⟩ = some (.bool d) := (hb3.cell (p := ⟨bh, oh + i * 6 + 3, none⟩) (by simp; omega)).trans ((hbq.cell (p := ⟨bh, oh + i * 6 + 3, none⟩) hbhr).trans (hcr 3 _ rfl))
          have k4 : w3.cell? ⟨bh, oh + i * 6 + 4, none⟩ = some (.int .i64 s) := (hb3.cell (p := ⟨bh, oh + i * 6 + 4, none⟩) (by simp; omega)).trans ((hbq.cell (p := ⟨bh, oh + i * 6 + 4, none⟩) hbhr).trans (hcr 4 _ rfl))
          have k5 : w3.cell? ⟨bh, oh + i * 6 + 5, none⟩ = some (.int .i64 e) := (hb3.cell (p := ⟨bh, oh + i * 6 + 5, none⟩) (by simp; omega)).trans ((hbq.cell (p := ⟨bh, oh + i * 6 + 5, none⟩) hbhr).trans (hcr 5 _ rfl))
          have lt3 : bh < w3.heap.size := by omega
          obtain ⟨X, HX, hrX, gX⟩ : ∃ X, Hid ((w3.alloc (.cells #[.int .i64 (z : Int), .int .i64 (l : Int), .int .i64 t, .bool d, .int .i64 s, .int .i64 e] 64)).drew = X) ∧ Below w3.heap.size w3 X ∧ X.heap.size = w3.heap.size + 1 :=
            ⟨_, Lib.hid rfl, ((Below.refl _ _).alloc (Nat.le_refl _) _).drew, by show (w3.alloc _).heap.size = _; simp⟩
          go_wp2_with fail
          go_region
          rw [HX.out]
          clear HX
          have aX := (aq.below hb3 (by omega) (by omega)).below hrX (by omega) (by omega)
          have k1X : X.cell? ⟨bh, oh + i * 6 + 1, none⟩ = some (.int .i64 (l : Int)) := (hrX.cell (p := ⟨bh, oh + i * 6 + 1, none⟩) lt3).trans k1
          have cpX : X.cell? ⟨bp, op + i, none⟩ = some (.int .i64 (8 * (J : Int))) := (hrX.cell (p := ⟨bp, op + i, none⟩) (by simp; omega)).trans ((hb3.cell (p := ⟨bp, op + i, none⟩) (by simp; omega)).trans cpq)
          have hBX : Below wo.heap.size wo X := hbq.trans ((hb3.mono (by omega)).trans (hrX.mono (by omega)))
          clear k0 k1 k2 k3 k4 k5 cpq hcr cpr
          go_wp2_with fail
          go_loopw [16] (fun i wr => ∃ k : Nat, k ≤ l ∧ i = .int .i64 k ∧ Below X.heap.size X wr) (fun i _ => l - (intOf i).toNat)
          case atStart => exact ⟨0, by omega, rfl, Below.refl _ _⟩
          case round =>
            obtain ⟨k, hk, rfl, hby⟩ := hrel
            have hzy := hby.size
            have k1r : wr.cell? ⟨bh, oh + i * 6 + 1, none⟩ = some (.int .i64 (l : Int)) := (hby.cell (p := ⟨bh, oh + i * 6 + 1, none⟩) (by simp; omega)).trans k1X
            have cpr : wr.cell? ⟨bp, op + i, none⟩ = some (.int .i64 (8 * (J : Int))) := (hby.cell (p := ⟨bp, op + i, none⟩) (by simp; omega)).trans cpX
            have ay := aX.below hby (by omega) (by omega)
            by_cases hkl : k < l
            · have hv := hsl.out k hij (by rw [Hh.out]; exact Int.ofNat_lt.2 hkl) (by omega)
              rw [HJ.out] at hv
              have HV := Lib.hid hv
              clear hv
              go_wp2_with fail
              refine (tslot_t _ _ _ _ _ _ _ J _ _ _ _ _ _ ay rfl (by omega) o1 (by omega)).mono ?_
              rintro x w4 ⟨rfl, hb4⟩
              have hz4 := hb4.size
              have a4 := ay.below hb4 (by omega) (by omega)
              go_wp2_with fail
              refine (wword_t _ _ _ _ _ _ (J + 2 + k) a4 (by omega) (by omega)).mono ?_
              rintro x w' ⟨rfl, rfl⟩
              rw [HV.out]
              go_wp2_with fail
              go_roundw
              case rel => exact ⟨k + 1, by omega, by go_num, hby.trans (hb4.mono (by omega))⟩
              case measure => simp [intOf]; omega
            · obtain rfl : k = l := by omega
              go_wp2_with fail
              go_roundw
              case rel => exact ⟨i + 1, by omega, by go_num, hBX.trans (hby.mono (by omega))⟩
              case measure => simp [intOf]; omega
        · obtain rfl : i = j := by omega
          go_wp2_with fail
          go_ret
          exact ⟨rfl, hBr.trans (hbq.mono (by omega))⟩

end Go.Proofs.Ytahkplakdbbmmaa
