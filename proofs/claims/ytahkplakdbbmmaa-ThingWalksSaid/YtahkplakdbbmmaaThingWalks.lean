/- ThingWalks: walk. -/
import Derived.Test.YtahkplakdbbmmaaMarks
import Derived.Test.YtahkplakdbbmmaaWf
import Derived.Deep.RegionHeld3
import Derived.Deep.QuietTactic
namespace Go.Proofs.Ytahkplakdbbmmaa
set_option linter.unusedVariables false
set_option linter.unusedSimpArgs false
open Go.RowKit

set_option maxHeartbeats 16000000 in
set_option maxRecDepth 100000 in
theorem walkThingWalks (A : Option Addr) (n c : Nat) (F : Nat → List Value) (m : Int) (w : World) (hn : n ≤ maxLen) (R : rd w w.heap.size A n 6 F)
    (hFit : ∀ i, i < n → FitsK [some .i64, some .i64, some .i64, .none, some .i64, some .i64] (F i)) (hm : 0 ≤ m ∧ m ≤ 255) :
    Calls Try.prog 13 #[.slice A n c, .int .u8 m] w fun e w' => e = .returned (.bool true) ∧ Below w.heap.size w w' := by
  unfold maxLen at hn
  obtain ⟨i0, ihi, ihz, ihs, ihb⟩ := info_parts info_int
  obtain ⟨i6, hi6, hz60, hs61, hz62⟩ := info_parts info_head
  go_enter Try.func13, Try.ntmps13
  go_wp2_with fail
  refine (shown08_t _).mono ?_
  rintro e ws ⟨rfl, hbs⟩
  have hzs := hbs.size
  go_wp2_with fail
  refine (wnew_t 80 _ _ (by omega) (by omega)).mono ?_
  rintro x w1 ⟨p, g, rfl, ha1, hb1, hp, hg⟩
  have hz1 := hb1.size
  have hl1 := ha1.lts
  have hB1 : Below w.heap.size w w1 := hbs.trans (hb1.mono hzs)
  go_wp2_with fail
  go_loopw [8, 9, 10, 11] (fun vh vp u i wr => ∃ (k : Nat) (H : Nat → Hd) (V : Nat → Int), k ≤ n ∧ i = .int .i64 k ∧ u = .int .i64 (8 * (wAt H k : Int) - 64) ∧ isRowSt wr w1.heap.size p g V k H vh vp ∧ Below w.heap.size w wr) (fun _ _ _ i _ => 6 - (intOf i).toNat)
  case atStart =>
    refine ⟨0, fun _ => ⟨0, 0, 0, false, 0, 0⟩, fun _ => 0, by omega, rfl, rfl, ⟨(ha1.alloc _).alloc _, ⟨by simp [wAt], fun i h => by omega, fun i h => by omega, fun m h => rfl⟩, by omega, ?_, ?_, by simp; omega⟩, ?_⟩
    · exact ⟨rfl, .inr ⟨w1.heap.size, 0, #[], rfl, Nat.le_refl _, (Below.heap_alloc _ _ _ (by simp)).trans (heap_alloc_new w1 _), Nat.le_refl _, Nat.zero_le _, rfl, rfl⟩⟩
    · exact ⟨rfl, .inr ⟨w1.heap.size + 1, 0, #[], rfl, by omega, heap_new' (by simp), Nat.le_refl _, Nat.zero_le _, rfl, rfl⟩⟩
    · exact (hB1.alloc (by omega) _).alloc (by simp; omega) _
  case round =>
    obtain ⟨k, H, V, hkn, rfl, rfl, st, hBr⟩ := hrel
    have hzr := hBr.size
    have hstl := st.lt
    have hgr := wAt_ge H k
    have hlr := wAt_le st.row.ok
    have hm6 := st.most
    have Rr := R.below hBr (Nat.le_refl _)
    by_cases c1 : k < n
    · by_cases c2 : k < 6
      · obtain ⟨b, off, rfl, hbb, hc⟩ := Rr.at_ c1
        obtain ⟨z0, _, ef, fz, l0, _, rfl, fl, t0, _, rfl, ft, d0, _, rfl, s0, _, rfl, fs, e0, _, rfl, fe, rfl⟩ := hFit k c1
        rw [ef] at hc
        have hc0 := hc 0 _ rfl
        have hc1 := hc 1 _ rfl
        have hc2 := hc 2 _ rfl
        have hc3 := hc 3 _ rfl
        have hc4 := hc 4 _ rfl
        have hc5 := hc 5 _ rfl
        rw [Nat.add_zero] at hc0
        rw [← Nat.add_assoc] at hc1 hc2 hc3 hc4 hc5
        clear fz fl ft fs fe hc
        have EF := Lib.hid ef
        clear ef
        go_wp2_with fail
        refine (fit07_e _ _ _ _ _ _ _).mono ?_
        rintro x w2 ⟨zf, l1, t1, s1, e1, rfl, hl1, hzf, ht1, hs1', he1, hb2⟩
        have hz2 := hb2.size
        have a1 := i64_and1 z0
        obtain ⟨z, Z⟩ : ∃ z : Nat, Hid (2 + l1 + z0 % 2 = (z : Int)) := ⟨(2 + l1 + z0 % 2).toNat, Lib.hid (by omega)⟩
        have hz9 : 2 ≤ z ∧ z ≤ 9 ∧ 2 + l1 ≤ z ∧ (l1 = z - 2 ∨ l1 = z - 3) := by have := Z.out; omega
        obtain ⟨Y, HY, BY, hrY, zY⟩ : ∃ Y, Hid (w2.alloc (.cells #[.int .i64 zf, .int .i64 l1, .int .i64 t1, .bool d0, .int .i64 s1, .int .i64 e1] 64) = Y) ∧ Blk Y w2.heap.size 64 #[.int .i64 zf, .int .i64 l1, .int .i64 t1, .bool d0, .int .i64 s1, .int .i64 e1] ∧ Below wr.heap.size wr Y ∧ Y.heap.size = w2.heap.size + 1 :=
          ⟨_, Lib.hid rfl, Blk.new _ _ _, hb2.alloc (by omega) _, by simp⟩
        have hcY : Y.cell? ⟨b, off + k * 6, none⟩ = some (.int .i64 z0) := by rw [← HY.out, World.cell?_alloc_old _ _ _ (by simp; omega), hb2.cell (p := ⟨b, off + k * 6, none⟩) (by simp; omega)]; exact hc0
        go_wp2_with fail
        rw [HY.out]
        refine tail_still 11 (by kernel_rfl) (by kernel_rfl) ?_
        intro W hW
        have hcW : W.cell? ⟨b, off + k * 6, none⟩ = some (.int .i64 z0) := by rw [hW]; exact hcY
        have BW : Blk W w2.heap.size 64 #[.int .i64 zf, .int .i64 l1, .int .i64 t1, .bool d0, .int .i64 s1, .int .i64 e1] := by rw [hW]; exact BY
        have hW0 := BW.cell 0
        have hW1 := BW.cell 1
        have hW2 := BW.cell 2
        have hW3 := BW.cell 3
        have hW4 := BW.cell 4
        have hW5 := BW.cell 5
        have hWf := BW.frozen 0
        have HW := Lib.hid hW
        clear hW hc0 hc1 hc2 hc3 hc4 hc5
        simp only [List.take_succ_cons, List.take_zero, List.drop_succ_cons, List.drop_zero]
        repeat still_step
        try refine wpStill_nil ?_
        go_wp2_with fail
        rw [Z.out]
        obtain ⟨X, HX, BX, hrX, zX⟩ : ∃ X, Hid (W.setCell ⟨w2.heap.size, 0, none⟩ (.int .i64 (z : Int)) = X) ∧ Blk X w2.heap.size 64 #[.int .i64 z, .int .i64 l1, .int .i64 t1, .bool d0, .int .i64 s1, .int .i64 e1] ∧ Below wr.heap.size wr X ∧ X.heap.size = w2.heap.size + 1 :=
          ⟨_, Lib.hid rfl, (by have := BW.set_ 0 (.int .i64 (z : Int)); simpa using this), (by rw [HW.out]; exact (hrY.drew).setCell (p := ⟨w2.heap.size, 0, none⟩) (by simp; omega) _), (by rw [HW.out]; simp [World.setCell]; exact zY)⟩
        rw [HX.out]
        clear HX HW hW0 hW1 hW2 hW3 hW4 hW5 hWf hcW BW BY HY hcY hrY zY
        have aX := st.arena.below hrX (by omega) (by omega)
        have ohX := own_below st.heads hrX
        have opX := own_below st.places hrX
        have okh : okHead (z : Int) l1 t1 s1 e1 := by unfold okHead; omega
        have oobj := isObj.mk (f := hF z l1 t1 (bi d0)) (t := s1 + 256 * e1) (d := d0) okh rfl rfl
        have obd := oobj.bd
        refine (hrpack_o _ _ _ _ _ _ _ okh).mono ?_
        rintro x w3 ⟨rfl, hb3⟩
        have hz3 := hb3.size
        have BX3 := BX.below hb3 BX.lt
        have a3 := aX.below hb3 (by omega) (by omega)
        have oh3 := own_below ohX hb3
        have op3 := own_below opX hb3
        have hc0 := BX3.cell 0
        obtain ⟨f1, F1⟩ : ∃ f1, Hid (hF z l1 t1 (bi d0) = f1) := ⟨_, Lib.hid rfl⟩
        obtain ⟨f2, F2⟩ : ∃ f2, Hid (s1 + 256 * e1 = f2) := ⟨_, Lib.hid rfl⟩
        rw [F1.out, F2.out]
        rw [F1.out, F2.out] at oobj obd
        go_wp2_with fail
        refine (wclaim_t _ _ _ _ _ _ _ _ _ _ _ _ 0 (wAt H k) a3 (by omega) (by omega) (by unfold inU; omega) (by unfold inU; omega) st.row.used (by omega) (by omega) (by omega) (by omega) (by omega) (by omega) obd.1 obd.2).mono ?_
        rintro x w4 ⟨rfl, a4, hb4⟩
        have hz4 := hb4.size
        have BX4 := BX3.but hb4 BX3.lt (by omega)
        have oh4 := own_blocks oh3 fun j h1 h2 => hb4.block j h2 (by omega)
        have op4 := own_blocks op3 fun j h1 h2 => hb4.block j h2 (by omega)
        have q0 := BX4.cell 0
        have q1 := BX4.cell 1
        have q2 := BX4.cell 2
        have q3 := BX4.cell 3
        have q4 := BX4.cell 4
        have q5 := BX4.cell 5
        have hr4 : Below g wr w4 := (hrX.mono (by omega)).trans ((hb3.mono (by omega)).trans ((hb4.below (B' := g) (by omega) (Nat.le_refl _))))
        have lX4 := BX4.lt
        obtain ⟨V', HV⟩ : ∃ V', Hid (V' = upd (upd (upd V 0 (8 * (wAt H k : Int) - 64 + 8 * (z : Int))) (wAt H k) f1) (wAt H k + 1) f2) := ⟨_, Lib.hid rfl⟩
        rw [← HV.out] at a4
        have Hh : Hid ((⟨z, l1, t1, d0, s1, e1⟩ : Hd).ok) := Lib.hid ⟨okh, (show z ≤ 9 by omega), (show l1 = (z : Int) - 2 ∨ l1 = (z : Int) - 3 by omega)⟩
        have hrow : Hid (rowV V' (k + 1) (updH H k ⟨z, l1, t1, d0, s1, e1⟩)) := Lib.hid (by rw [HV.out]; exact st.row.push ⟨z, l1, t1, d0, s1, e1⟩ Hh.out st.row.zero _ _ _ (by simp; omega) oobj)
        go_wp2_with (at_builtin; refine wpList_append_own _ rfl _ _ 79 rfl w1.heap.size 64 i6 (.agg #[.int .i64 0, .int .i64 0, .int .i64 0, .bool false, .int .i64 0, .int .i64 0]) 6 48 under_heads hi6 hz60 hs61 hz62 rfl (by decide) u8 k (headCells H k) (by go_simp) (own_alloc oh4 _) ⟨w4.heap.size, 0, none⟩ 1 1 (Hd.cells ⟨z, l1, t1, d0, s1, e1⟩) (by go_simp) rfl (by intro j u hj; match j, hj with | 0, hj | 1, hj | 2, hj | 3, hj | 4, hj | 5, hj => (simp [Hd.cells] at hj; subst hj; simp [Addr.add, go_sem])) (by intro u hu; simp [Hd.cells] at hu; rcases hu with rfl | rfl | rfl | rfl | rfl | rfl <;> rfl) (by unfold maxLen; omega) (by omega) (by simp; omega) ?_; intro vh' w5 hown5 hgrow5 _; refine stop_here ?_)
        replace hgrow5 : (w4.alloc (.cells #[.int .i64 z, .int .i64 l1, .int .i64 t1, .bool d0, .int .i64 s1, .int .i64 e1] 64)).grownBy w5 (u8).ownBlock := hgrow5
        have op5 := own_grown_ne oh4 op4 (by decide) ((Below.refl _ _).alloc (Nat.le_refl _) _) hgrow5
        have BX5 := (BX4.alloc _).grown hgrow5 (fun e => by have := (own_block st.heads e).2; omega)
        have a5 := (a4.alloc _).grown hgrow5 (own_row_ge oh4) (by omega) (by omega)
        have hr5 : Below w.heap.size w w5 := ((hBr.trans (hr4.mono (by omega))).alloc (by omega) _).grown hgrow5 (by simp; omega) (fun j e => by have := own_row_ge oh4 j e; omega)
        have hz5 := hgrow5.size
        simp only [World.size_alloc] at hz5
        clear hgrow5
        unfold Stop
        go_wp2_with (at_builtin; refine wpList_append_own _ rfl _ _ 71 rfl w1.heap.size 3 i0 (.int .i64 0) 1 8 under_ints ihi ihz ihs ihb rfl (by decide) u9 k (placeCells H k) (by go_simp) (own_alloc op5 _) ⟨w5.heap.size, 0, none⟩ 1 1 [.int .i64 (64 + (8 * (wAt H k : Int) - 64))] (by go_simp) rfl (by intro j u hj; match j, hj with | 0, hj => (simp at hj; subst hj; simp [Addr.add, go_sem])) (by intro u hu; simp at hu; subst hu; rfl) (by unfold maxLen; omega) (by omega) (by simp; omega) ?_; intro vp' w6 hown6 hgrow6 _; refine stop_here ?_)
        rw [show (64 : Int) + (8 * (wAt H k : Int) - 64) = 8 * (wAt H k : Int) from by omega] at hown6
        replace hgrow6 : (w5.alloc (.cells #[.int .i64 (64 + (8 * (wAt H k : Int) - 64))] 3)).grownBy w6 (u9).ownBlock := hgrow6
        have BX6 := (BX5.alloc _).grown hgrow6 (blk_row_ne op5 BX5 (by decide))
        have oh6 := own_grown_ne op5 hown5 (by decide) ((Below.refl _ _).alloc (Nat.le_refl _) _) hgrow6
        have a6 := (a5.alloc _).grown hgrow6 (own_row_ge op5) (by omega) (by omega)
        have hr6 := (hr5.alloc (by omega) _).grown hgrow6 (by simp; omega) (fun j e => by have := own_row_ge op5 j e; omega)
        have p6 := BX6.cell 0
        have hz6 := hgrow6.size
        simp only [World.size_alloc] at hz6
        clear hgrow6
        unfold Stop
        have hze := Z.out
        clear q0 q1 q2 q3 q4 q5 hc0
        go_wp2_with fail
        go_roundw
        case rel => exact ⟨k + 1, updH H k ⟨z, l1, t1, d0, s1, e1⟩, V', by omega, by go_num, by rw [wAt_push]; simp; omega, ⟨a6, hrow.out, by omega, by rw [headCells_push]; exact oh6, by rw [placeCells_push]; exact hown6, by omega⟩, hr6⟩
        case measure => simp [intOf]; omega
      · have hpos : 0 < k := by omega
        clear Rr R
        have r2 := st.row
        have ar := st.arena
        obtain ⟨Ah, ch, rfl, _, _, Rh, hBh⟩ := own_rd6 st.heads
        obtain ⟨Ap, cp, rfl, _, _, Rp, hbP⟩ := own_rdP st.places
        obtain ⟨bh, oh, rfl, hbh, _⟩ := Rh.at_ hpos
        obtain ⟨bp, op, rfl, hbp, _⟩ := Rp.int_at hpos
        have hne : bh ≠ bp := own_two_ne st.heads st.places (by decide)
        have hBh0 := (hBh _ rfl).1
        have hFh0 := (hBh _ rfl).2
        have hBp0 := hbP _ rfl
        simp only at hBh0 hFh0 hBp0
        have used0 := Lib.hid r2.used
        clear hBh hbP st
        obtain ⟨kk, K⟩ : ∃ kk : Nat, Hid (m % (k : Int) = kk) := ⟨(m % (k : Int)).toNat, Lib.hid (by have := Int.emod_nonneg m (b := (k : Int)) (by omega); omega)⟩
        have hkk : kk < k := by have := Int.emod_lt_of_pos m (b := (k : Int)) (by omega); have := K.out; omega
        obtain ⟨b1, o1, e1, _, hcp⟩ := Rp.int_at hkk
        cases e1
        obtain ⟨b2, o2, e2, _, hch⟩ := Rh.at_ hkk
        cases e2
        have hJ62 := wAt_62' r2.ok hm6 hkk
        have ob := r2.head kk hkk
        obtain ⟨J, HJ⟩ : ∃ J : Nat, Hid (wAt H kk = J) := ⟨_, Lib.hid rfl⟩
        rw [HJ.out] at hcp hJ62 ob
        have hK := K.out
        go_wp2_with fail
        refine (tmark_t _ _ _ _ _ _ J _ _ _ _ _ _ ar rfl (by omega) ob).mono ?_
        rintro x w3 ⟨rfl, a3, hb3⟩
        have hz3 := hb3.size
        have hd3 : w3.cell? ⟨bh, oh + kk * 6 + 3, none⟩ = some (.bool (H kk).d) := (hb3.cell (p := ⟨bh, oh + kk * 6 + 3, none⟩) (by simp; omega) (by simp; omega)).trans (by have := hch 3 _ rfl; rw [← Nat.add_assoc] at this; exact this)
        have hf3 : w3.frozen? ⟨bh, oh + kk * 6 + 3, none⟩ = false := (hb3.frozen (p := ⟨bh, oh + kk * 6 + 3, none⟩) (by simp; omega) (by simp; omega)).trans (hFh0 _)
        obtain ⟨H', HH⟩ : ∃ H', Hid (H' = updH H kk { H kk with d := true }) := ⟨_, Lib.hid rfl⟩
        obtain ⟨V', HV⟩ : ∃ V', Hid (V' = upd V J (hF (H kk).z (H kk).l (H kk).t 1)) := ⟨_, Lib.hid rfl⟩
        have r3 : rowV V' k H' := by rw [HV.out, HH.out, ← HJ.out]; exact r2.mark hkk
        rw [← HV.out] at a3
        have hw' : Hid (∀ i, wAt H' i = wAt H i) := Lib.hid fun i => by rw [HH.out]; exact wAt_marked H kk i
        obtain ⟨X, HX, RhX, RpX, aX, hBX, zX⟩ : ∃ X, Hid (w3.setCell ⟨bh, oh + kk * 6 + 3, none⟩ (.bool true) = X) ∧ rd X wr.heap.size (some ⟨bh, oh, none⟩) k 6 (fun i => (H' i).cells) ∧ rd X wr.heap.size (some ⟨bp, op, none⟩) k 1 (ints1 .i64 fun i => 8 * (wAt H' i : Int)) ∧ isW X p g 80 V' ∧ Below w.heap.size w X ∧ (w3.heap.size ≤ X.heap.size ∧ X.heap.size ≤ w3.heap.size) :=
          ⟨_, Lib.hid rfl, by rw [HH.out]; exact (Rh.butb hb3 (Nat.le_refl _) (by omega)).mark hkk, ((Rp.butb hb3 (Nat.le_refl _) (by omega)).farset hne _).same fun i _ => by rw [hw'.out], a3.far (a := ⟨bh, oh + kk * 6 + 3, none⟩) (by simp; omega) (by simp; omega) _, (hBr.trans (hb3.below (by omega) (by omega))).setCell (p := ⟨bh, oh + kk * 6 + 3, none⟩) (by simp; omega) _, ⟨by simp [World.setCell], by simp [World.setCell]⟩⟩
        have hwk := hw'.out k
        have hk0 : wAt H' 0 = 8 := rfl
        have hlr' := wAt_le r3.ok
        have hgr' := wAt_ge H' k
        go_wp2_with fail
        rw [HX.out, ← hwk]
        clear HX hd3 hf3 hcp hch ob r2 ar Rh Rp hb3 a3 hK hwk hgr hlr hJ62 K used0
        refine (r3.walk hm6 _ _ _ aX 0 k (by omega) _ _ (by rw [hk0]; rfl) (by rw [hk0, Nat.zero_add]; omega)).mono ?_
        rintro x w4 ⟨A1, c1', rfl, R1, hb4⟩
        have hz4 := hb4.size
        go_wp2_with fail
        refine (ints_t _ _ _ _ _ _ _ _ _ R1 ((RpX.below hb4 (by omega)).same fun i hi => by rw [Nat.zero_add]) (by omega)).mono ?_
        rintro x w5 ⟨rfl, m5, rfl⟩
        obtain ⟨Y, HY, RhY, RpY, aY, hBY, zY⟩ : ∃ Y, Hid (w4.drewN m5 = Y) ∧ rd Y wr.heap.size (some ⟨bh, oh, none⟩) k 6 (fun i => (H' i).cells) ∧ rd Y wr.heap.size (some ⟨bp, op, none⟩) k 1 (ints1 .i64 fun i => 8 * (wAt H' i : Int)) ∧ isW Y p g 80 V' ∧ Below w.heap.size w Y ∧ (w4.heap.size ≤ Y.heap.size ∧ Y.heap.size ≤ w4.heap.size) :=
          ⟨_, Lib.hid rfl, (RhX.below hb4 (by omega)).drewN m5, (RpX.below hb4 (by omega)).drewN m5, (aX.below hb4 (by omega) (by omega)).drewN m5, below_drewN' (hBX.trans (hb4.mono (by omega))) m5, ⟨Nat.le_refl _, Nat.le_refl _⟩⟩
        rw [HY.out]
        clear HY RhX RpX aX hBX R1 hb4
        go_wp2_with fail
        go_loopw [23] (fun i wq => ∃ i' : Nat, i' ≤ k ∧ i = .int .i64 i' ∧ Below Y.heap.size Y wq) (fun i _ => k - (intOf i).toNat)
        case atStart => exact ⟨0, by omega, rfl, Below.refl _ _⟩
        case round =>
          obtain ⟨i, hi, rfl, hbq⟩ := hrel
          have hzq := hbq.size
          by_cases hij : i < k
          · obtain ⟨b1, o1, e1, _, hcp⟩ := RpY.int_at hij
            cases e1
            obtain ⟨b2, o2, e2, _, hch⟩ := RhY.at_ hij
            cases e2
            have hz := (r3.ok i hij).bd
            have h62 := wAt_62' r3.ok hm6 hij
            have ob := r3.head i hij
            obtain ⟨J, HJ⟩ : ∃ J : Nat, Hid (wAt H' i = J) := ⟨_, Lib.hid rfl⟩
            obtain ⟨⟨z, l0, t, d, s, e⟩, Hh⟩ : ∃ h : Hd, Hid (H' i = h) := ⟨_, Lib.hid rfl⟩
            rw [Hh.out] at hz ob hch
            rw [HJ.out] at hcp h62 ob
            simp only at hz h62 ob
            obtain ⟨l, rfl⟩ := Int.eq_ofNat_of_zero_le hz.2.1
            have hbhY : bh < Y.heap.size := by omega
            have hbpY : bp < Y.heap.size := by omega
            have k0 : wr.cell? ⟨bh, oh + i * 6, none⟩ = some (.int .i64 (z : Int)) := (hbq.cell (p := ⟨bh, oh + i * 6, none⟩) (by simp; omega)).trans (by have := hch 0 _ rfl; rw [Nat.add_zero] at this; exact this)
            have k1 : wr.cell? ⟨bh, oh + i * 6 + 1, none⟩ = some (.int .i64 (l : Int)) := (hbq.cell (p := ⟨bh, oh + i * 6 + 1, none⟩) (by simp; omega)).trans (by have := hch 1 _ rfl; rw [← Nat.add_assoc] at this; exact this)
            have k2 : wr.cell? ⟨bh, oh + i * 6 + 2, none⟩ = some (.int .i64 t) := (hbq.cell (p := ⟨bh, oh + i * 6 + 2, none⟩) (by simp; omega)).trans (by have := hch 2 _ rfl; rw [← Nat.add_assoc] at this; exact this)
            have k3 : wr.cell? ⟨bh, oh + i * 6 + 3, none⟩ = some (.bool d) := (hbq.cell (p := ⟨bh, oh + i * 6 + 3, none⟩) (by simp; omega)).trans (by have := hch 3 _ rfl; rw [← Nat.add_assoc] at this; exact this)
            have k4 : wr.cell? ⟨bh, oh + i * 6 + 4, none⟩ = some (.int .i64 s) := (hbq.cell (p := ⟨bh, oh + i * 6 + 4, none⟩) (by simp; omega)).trans (by have := hch 4 _ rfl; rw [← Nat.add_assoc] at this; exact this)
            have k5 : wr.cell? ⟨bh, oh + i * 6 + 5, none⟩ = some (.int .i64 e) := (hbq.cell (p := ⟨bh, oh + i * 6 + 5, none⟩) (by simp; omega)).trans (by have := hch 5 _ rfl; rw [← Nat.add_assoc] at this; exact this)
            have kp : wr.cell? ⟨bp, op + i, none⟩ = some (.int .i64 (8 * (J : Int))) := (hbq.cell (p := ⟨bp, op + i, none⟩) hbpY).trans hcp
            clear hch hcp
            have aq := aY.below hbq (by omega) (by omega)
            go_wp2_with fail
            refine (tat_t _ _ _ _ _ _ J _ _ _ _ _ _ aq rfl (by omega) ob).mono ?_
            rintro x w6 ⟨rfl, hb6⟩
            have hz6 := hb6.size
            obtain ⟨Z, HZ, BZ, hrZ, zZ⟩ : ∃ Z, Hid (w6.alloc (.cells #[.int .i64 (z : Int), .int .i64 (l : Int), .int .i64 t, .bool d, .int .i64 s, .int .i64 e] 64) = Z) ∧ Blk Z w6.heap.size 64 #[.int .i64 (z : Int), .int .i64 (l : Int), .int .i64 t, .bool d, .int .i64 s, .int .i64 e] ∧ Below wr.heap.size wr Z ∧ (w6.heap.size < Z.heap.size ∧ Z.heap.size ≤ w6.heap.size + 1) :=
              ⟨_, Lib.hid rfl, Blk.new _ _ _, hb6.alloc (by omega) _, ⟨by simp, by simp⟩⟩
            go_wp2_with fail
            rw [HZ.out]
            clear HZ hb6
            have aZ := aq.below hrZ (by omega) (by omega)
            have x0 : ∀ w', (fun w' => Below Z.heap.size Z w') w' → w'.cell? ⟨bh, oh + i * 6, none⟩ = some (.int .i64 (z : Int)) := fun w' h => (h.cell (p := ⟨bh, oh + i * 6, none⟩) (by simp; omega)).trans ((hrZ.cell (p := ⟨bh, oh + i * 6, none⟩) (by simp; omega)).trans k0)
            have x1 : ∀ w', (fun w' => Below Z.heap.size Z w') w' → w'.cell? ⟨bh, oh + i * 6 + 1, none⟩ = some (.int .i64 (l : Int)) := fun w' h => (h.cell (p := ⟨bh, oh + i * 6 + 1, none⟩) (by simp; omega)).trans ((hrZ.cell (p := ⟨bh, oh + i * 6 + 1, none⟩) (by simp; omega)).trans k1)
            have x2 : ∀ w', (fun w' => Below Z.heap.size Z w') w' → w'.cell? ⟨bh, oh + i * 6 + 2, none⟩ = some (.int .i64 t) := fun w' h => (h.cell (p := ⟨bh, oh + i * 6 + 2, none⟩) (by simp; omega)).trans ((hrZ.cell (p := ⟨bh, oh + i * 6 + 2, none⟩) (by simp; omega)).trans k2)
            have x3 : ∀ w', (fun w' => Below Z.heap.size Z w') w' → w'.cell? ⟨bh, oh + i * 6 + 3, none⟩ = some (.bool d) := fun w' h => (h.cell (p := ⟨bh, oh + i * 6 + 3, none⟩) (by simp; omega)).trans ((hrZ.cell (p := ⟨bh, oh + i * 6 + 3, none⟩) (by simp; omega)).trans k3)
            have x4 : ∀ w', (fun w' => Below Z.heap.size Z w') w' → w'.cell? ⟨bh, oh + i * 6 + 4, none⟩ = some (.int .i64 s) := fun w' h => (h.cell (p := ⟨bh, oh + i * 6 + 4, none⟩) (by simp; omega)).trans ((hrZ.cell (p := ⟨bh, oh + i * 6 + 4, none⟩) (by simp; omega)).trans k4)
            have x5 : ∀ w', (fun w' => Below Z.heap.size Z w') w' → w'.cell? ⟨bh, oh + i * 6 + 5, none⟩ = some (.int .i64 e) := fun w' h => (h.cell (p := ⟨bh, oh + i * 6 + 5, none⟩) (by simp; omega)).trans ((hrZ.cell (p := ⟨bh, oh + i * 6 + 5, none⟩) (by simp; omega)).trans k5)
            have xb0 : ∀ w', (fun w' => Below Z.heap.size Z w') w' → w'.cell? ⟨w6.heap.size, 0, none⟩ = some (.int .i64 (z : Int)) := fun w' h => (h.cell (p := ⟨w6.heap.size, 0, none⟩) (by simp; omega)).trans (BZ.cell 0)
            have xb1 : ∀ w', (fun w' => Below Z.heap.size Z w') w' → w'.cell? ⟨w6.heap.size, 1, none⟩ = some (.int .i64 (l : Int)) := fun w' h => (h.cell (p := ⟨w6.heap.size, 1, none⟩) (by simp; omega)).trans (BZ.cell 1)
            have xb2 : ∀ w', (fun w' => Below Z.heap.size Z w') w' → w'.cell? ⟨w6.heap.size, 2, none⟩ = some (.int .i64 t) := fun w' h => (h.cell (p := ⟨w6.heap.size, 2, none⟩) (by simp; omega)).trans (BZ.cell 2)
            have xb3 : ∀ w', (fun w' => Below Z.heap.size Z w') w' → w'.cell? ⟨w6.heap.size, 3, none⟩ = some (.bool d) := fun w' h => (h.cell (p := ⟨w6.heap.size, 3, none⟩) (by simp; omega)).trans (BZ.cell 3)
            have xb4 : ∀ w', (fun w' => Below Z.heap.size Z w') w' → w'.cell? ⟨w6.heap.size, 4, none⟩ = some (.int .i64 s) := fun w' h => (h.cell (p := ⟨w6.heap.size, 4, none⟩) (by simp; omega)).trans (BZ.cell 4)
            have xb5 : ∀ w', (fun w' => Below Z.heap.size Z w') w' → w'.cell? ⟨w6.heap.size, 5, none⟩ = some (.int .i64 e) := fun w' h => (h.cell (p := ⟨w6.heap.size, 5, none⟩) (by simp; omega)).trans (BZ.cell 5)
            have xp : ∀ w', (fun w' => Below Z.heap.size Z w') w' → w'.cell? ⟨bp, op + i, none⟩ = some (.int .i64 (8 * (J : Int))) := fun w' h => (h.cell (p := ⟨bp, op + i, none⟩) (by simp; omega)).trans ((hrZ.cell (p := ⟨bp, op + i, none⟩) (by simp; omega)).trans kp)
            have v0 : IntKind.i64.wrap ((l : Int) - 1) = (l : Int) - 1 := by rw [IntKind.wrap_i64]; omega
            have v1 : IntKind.i64.wrap (8 * (J : Int) + 16) = 8 * (J : Int) + 16 := by rw [IntKind.wrap_i64]; omega
            have v2 : IntKind.i64.wrap (8 * ((l : Int) - 1)) = 8 * ((l : Int) - 1) := by rw [IntKind.wrap_i64]; omega
            have v3 : IntKind.i64.wrap (8 * (J : Int) + 16 + 8 * ((l : Int) - 1)) = 8 * (J : Int) + 16 + 8 * ((l : Int) - 1) := by rw [IntKind.wrap_i64]; omega
            obtain ⟨rs, ec, hcall, hcase⟩ : ∃ rs ec : Int, (∀ w, isW w p g 80 V' → Calls Try.prog 37 #[.pointer (some ⟨p, 0, none⟩), .int .i64 (8 * (J : Int)), .int .i64 ((l : Int) - 1)] w fun x w' => x = .returned (.tuple #[.int .i64 rs, .int .i64 ec]) ∧ Below w.heap.size w w') ∧ Hid (l = 0 ∨ (0 < l ∧ rs = 8 * (J : Int) + 16 + 8 * ((l : Int) - 1) ∧ ec = 0)) := by
              by_cases h0 : l = 0
              · exact ⟨_, _, fun w ha => tslot_f w p g 80 V' _ _ J _ _ _ _ _ _ ha rfl (by omega) ob (by left; omega), Lib.hid (.inl h0)⟩
              · exact ⟨_, _, fun w ha => tslot_t w p g 80 V' _ _ J _ _ _ _ _ _ ha rfl (by omega) ob (by omega), Lib.hid (.inr ⟨by omega, rfl, rfl⟩)⟩
            have HC := Lib.hid hcall
            clear hcall
            go_region_held3 (fun w' => Below Z.heap.size Z w') (first | exact (Below.refl _ _).drew | assumption | exact (Below.refl _ _).drew.trans (by assumption) | exact Below.trans (by assumption) (Below.mono (by assumption) (Below.size (by assumption))))
              (first | (go_at_call 37; refine (HC.out _ aZ.drew).mono ?_; rintro x w7 ⟨rfl, hb7⟩))
            have h7 : Below Z.heap.size Z w7 := by assumption
            have hz7 := h7.size
            have a7 := aZ.below h7 (by omega) (by omega)
            clear hb7
            go_wp2_with fail
            go_region_held3 (fun w' => Below Z.heap.size Z w') (first | exact h7.drew | assumption | exact (h7.drew).trans (Below.mono (by assumption) hz7))
              (first | (go_at_call 37; refine (tslot_f _ _ _ _ _ _ _ J _ _ _ _ _ _ a7.drew rfl (by omega) ob ?q1).mono ?_; (case q1 => (right; omega)); rintro x w8 ⟨rfl, hb8⟩))
            have h8 : Below Z.heap.size Z w8 := by assumption
            have hz8 := h8.size
            clear hb8
            go_wp2_with fail
            rcases hcase.out with hl0 | ⟨hl1, rfl, rfl⟩
            · subst hl0
              have y0 := x0 _ h8
              have y1 := x1 _ h8
              have y2 := x2 _ h8
              have y3 := x3 _ h8
              have y4 := x4 _ h8
              have y5 := x5 _ h8
              have yb0 := xb0 _ h8
              have yb1 := xb1 _ h8
              have yb2 := xb2 _ h8
              have yb3 := xb3 _ h8
              have yb4 := xb4 _ h8
              have yb5 := xb5 _ h8
              have yp := xp _ h8
              clear x0 x1 x2 x3 x4 x5 xb0 xb1 xb2 xb3 xb4 xb5 xp
              go_quiet (fail)
              go_wp2_with fail
              go_roundw
              case rel => exact ⟨i + 1, by omega, by go_num, hbq.trans ((hrZ.mono hzq).trans ((below_drewN' h8 _).mono (by omega)))⟩
              case measure => simp [intOf]; omega
            · have hl2 := hl1
              have y0 := x0 _ h8
              have y1 := x1 _ h8
              have y2 := x2 _ h8
              have y3 := x3 _ h8
              have y4 := x4 _ h8
              have y5 := x5 _ h8
              have yb0 := xb0 _ h8
              have yb1 := xb1 _ h8
              have yb2 := xb2 _ h8
              have yb3 := xb3 _ h8
              have yb4 := xb4 _ h8
              have yb5 := xb5 _ h8
              have yp := xp _ h8
              clear x0 x1 x2 x3 x4 x5 xb0 xb1 xb2 xb3 xb4 xb5 xp
              go_quiet (fail)
              go_wp2_with fail
              go_roundw
              case rel => exact ⟨i + 1, by omega, by go_num, hbq.trans ((hrZ.mono hzq).trans ((below_drewN' h8 _).mono (by omega)))⟩
              case measure => simp [intOf]; omega
          · obtain rfl : i = k := by omega
            go_wp2_with fail
            refine (r3.less hm6 _ _ _ (aY.below hbq (by omega) (by omega)) _ rfl).mono ?_
            rintro x w6 ⟨rfl, hb6⟩
            have hz6 := hb6.size
            have a6 := (aY.below hbq (by omega) (by omega)).below hb6 (by omega) (by omega)
            go_wp2_with fail
            refine (r3.more hm6 _ _ _ a6 _ rfl).mono ?_
            rintro x w7 ⟨rfl, hb7⟩
            go_wp2_with fail
            go_ret
            exact ⟨rfl, hBY.trans ((hbq.mono (by omega)).trans ((hb6.mono (by omega)).trans (hb7.mono (by omega))))⟩
    · rcases Nat.eq_zero_or_pos k with rfl | hpos
      · clear Rr R
        have hk0 : wAt H 0 = 8 := rfl
        rw [hk0]
        have e64 : (8 * ((8 : Nat) : Int)) - 64 = 0 := by decide
        obtain ⟨Ah, ch, rfl, _, _, _, _⟩ := own_rd6 st.heads
        obtain ⟨Ap, cp, rfl, _, _, Rp, _⟩ := own_rdP st.places
        have ar := st.arena
        have r2 := st.row
        go_wp2_with fail
        refine (r2.walk (by omega) _ _ _ ar 0 0 (by omega) _ _ (by rw [hk0]; rfl) (by simp)).mono ?_
        rintro x w3 ⟨A1, c1', rfl, R1, hb3⟩
        have hz3 := hb3.size
        have a3 := ar.below hb3 (by omega) (by omega)
        go_wp2_with fail
        refine (ints_t _ _ _ _ _ 0 _ _ _ R1 ((Rp.below hb3 (Nat.le_refl _)).same fun i hi => by omega) (by omega)).mono ?_
        rintro x w4 ⟨rfl, m4, rfl⟩
        have a4 := a3.drewN m4
        go_wp2_with fail
        go_loopw [23] (fun i wq => i = .int .i64 0 ∧ wq = w3.drewN m4) (fun i _ => 0)
        case atStart => exact ⟨rfl, rfl⟩
        case round =>
          obtain ⟨rfl, rfl⟩ := hrel
          go_wp2_with fail
          refine (r2.less (by omega) _ _ _ a4 _ (by rw [hk0]; rfl)).mono ?_
          rintro x w5 ⟨rfl, hb5⟩
          have hz5 := hb5.size
          have hz5' : w3.heap.size ≤ w5.heap.size := hz5
          have a5 := a4.below hb5 (show p < w3.heap.size by omega) (show g < w3.heap.size by omega)
          go_wp2_with fail
          refine (r2.more (by omega) _ _ _ a5 _ (by rw [hk0]; rfl)).mono ?_
          rintro x w6 ⟨rfl, hb6⟩
          have hz6 := hb6.size
          go_wp2_with fail
          go_ret
          exact ⟨rfl, hBr.trans ((hb3.mono (by omega)).trans ((below_drewN' (Below.refl w.heap.size w3) m4).trans ((hb5.mono (show w.heap.size ≤ w3.heap.size by omega)).trans (hb6.mono (by omega)))))⟩
      · as_aux_lemma =>
          clear Rr R
          have r2 := st.row
          have ar := st.arena
          obtain ⟨Ah, ch, rfl, _, _, Rh, hBh⟩ := own_rd6 st.heads
          obtain ⟨Ap, cp, rfl, _, _, Rp, hbP⟩ := own_rdP st.places
          obtain ⟨bh, oh, rfl, hbh, _⟩ := Rh.at_ hpos
          obtain ⟨bp, op, rfl, hbp, _⟩ := Rp.int_at hpos
          have hne : bh ≠ bp := own_two_ne st.heads st.places (by decide)
          have hBh0 := (hBh _ rfl).1
          have hFh0 := (hBh _ rfl).2
          have hBp0 := hbP _ rfl
          simp only at hBh0 hFh0 hBp0
          have used0 := Lib.hid r2.used
          clear hBh hbP st
          obtain ⟨kk, K⟩ : ∃ kk : Nat, Hid (m % (k : Int) = kk) := ⟨(m % (k : Int)).toNat, Lib.hid (by have := Int.emod_nonneg m (b := (k : Int)) (by omega); omega)⟩
          have hkk : kk < k := by have := Int.emod_lt_of_pos m (b := (k : Int)) (by omega); have := K.out; omega
          obtain ⟨b1, o1, e1, _, hcp⟩ := Rp.int_at hkk
          cases e1
          obtain ⟨b2, o2, e2, _, hch⟩ := Rh.at_ hkk
          cases e2
          have hJ62 := wAt_62' r2.ok hm6 hkk
          have ob := r2.head kk hkk
          obtain ⟨J, HJ⟩ : ∃ J : Nat, Hid (wAt H kk = J) := ⟨_, Lib.hid rfl⟩
          rw [HJ.out] at hcp hJ62 ob
          have hK := K.out
          go_wp2_with fail
          refine (tmark_t _ _ _ _ _ _ J _ _ _ _ _ _ ar rfl (by omega) ob).mono ?_
          rintro x w3 ⟨rfl, a3, hb3⟩
          have hz3 := hb3.size
          have hd3 : w3.cell? ⟨bh, oh + kk * 6 + 3, none⟩ = some (.bool (H kk).d) := (hb3.cell (p := ⟨bh, oh + kk * 6 + 3, none⟩) (by simp; omega) (by simp; omega)).trans (by have := hch 3 _ rfl; rw [← Nat.add_assoc] at this; exact this)
          have hf3 : w3.frozen? ⟨bh, oh + kk * 6 + 3, none⟩ = false := (hb3.frozen (p := ⟨bh, oh + kk * 6 + 3, none⟩) (by simp; omega) (by simp; omega)).trans (hFh0 _)
          obtain ⟨H', HH⟩ : ∃ H', Hid (H' = updH H kk { H kk with d := true }) := ⟨_, Lib.hid rfl⟩
          obtain ⟨V', HV⟩ : ∃ V', Hid (V' = upd V J (hF (H kk).z (H kk).l (H kk).t 1)) := ⟨_, Lib.hid rfl⟩
          have r3 : rowV V' k H' := by rw [HV.out, HH.out, ← HJ.out]; exact r2.mark hkk
          rw [← HV.out] at a3
          have hw' : Hid (∀ i, wAt H' i = wAt H i) := Lib.hid fun i => by rw [HH.out]; exact wAt_marked H kk i
          obtain ⟨X, HX, RhX, RpX, aX, hBX, zX⟩ : ∃ X, Hid (w3.setCell ⟨bh, oh + kk * 6 + 3, none⟩ (.bool true) = X) ∧ rd X wr.heap.size (some ⟨bh, oh, none⟩) k 6 (fun i => (H' i).cells) ∧ rd X wr.heap.size (some ⟨bp, op, none⟩) k 1 (ints1 .i64 fun i => 8 * (wAt H' i : Int)) ∧ isW X p g 80 V' ∧ Below w.heap.size w X ∧ (w3.heap.size ≤ X.heap.size ∧ X.heap.size ≤ w3.heap.size) :=
            ⟨_, Lib.hid rfl, by rw [HH.out]; exact (Rh.butb hb3 (Nat.le_refl _) (by omega)).mark hkk, ((Rp.butb hb3 (Nat.le_refl _) (by omega)).farset hne _).same fun i _ => by rw [hw'.out], a3.far (a := ⟨bh, oh + kk * 6 + 3, none⟩) (by simp; omega) (by simp; omega) _, (hBr.trans (hb3.below (by omega) (by omega))).setCell (p := ⟨bh, oh + kk * 6 + 3, none⟩) (by simp; omega) _, ⟨by simp [World.setCell], by simp [World.setCell]⟩⟩
          have hwk := hw'.out k
          have hk0 : wAt H' 0 = 8 := rfl
          have hlr' := wAt_le r3.ok
          have hgr' := wAt_ge H' k
          go_wp2_with fail
          rw [HX.out, ← hwk]
          clear HX hd3 hf3 hcp hch ob r2 ar Rh Rp hb3 a3 hK hwk hgr hlr hJ62 K used0
          refine (r3.walk hm6 _ _ _ aX 0 k (by omega) _ _ (by rw [hk0]; rfl) (by rw [hk0, Nat.zero_add]; omega)).mono ?_
          rintro x w4 ⟨A1, c1', rfl, R1, hb4⟩
          have hz4 := hb4.size
          go_wp2_with fail
          refine (ints_t _ _ _ _ _ _ _ _ _ R1 ((RpX.below hb4 (by omega)).same fun i hi => by rw [Nat.zero_add]) (by omega)).mono ?_
          rintro x w5 ⟨rfl, m5, rfl⟩
          obtain ⟨Y, HY, RhY, RpY, aY, hBY, zY⟩ : ∃ Y, Hid (w4.drewN m5 = Y) ∧ rd Y wr.heap.size (some ⟨bh, oh, none⟩) k 6 (fun i => (H' i).cells) ∧ rd Y wr.heap.size (some ⟨bp, op, none⟩) k 1 (ints1 .i64 fun i => 8 * (wAt H' i : Int)) ∧ isW Y p g 80 V' ∧ Below w.heap.size w Y ∧ (w4.heap.size ≤ Y.heap.size ∧ Y.heap.size ≤ w4.heap.size) :=
            ⟨_, Lib.hid rfl, (RhX.below hb4 (by omega)).drewN m5, (RpX.below hb4 (by omega)).drewN m5, (aX.below hb4 (by omega) (by omega)).drewN m5, below_drewN' (hBX.trans (hb4.mono (by omega))) m5, ⟨Nat.le_refl _, Nat.le_refl _⟩⟩
          rw [HY.out]
          clear HY RhX RpX aX hBX R1 hb4
          go_wp2_with fail
          go_loopw [23] (fun i wq => ∃ i' : Nat, i' ≤ k ∧ i = .int .i64 i' ∧ Below Y.heap.size Y wq) (fun i _ => k - (intOf i).toNat)
          case atStart => exact ⟨0, by omega, rfl, Below.refl _ _⟩
          case round =>
            obtain ⟨i, hi, rfl, hbq⟩ := hrel
            have hzq := hbq.size
            by_cases hij : i < k
            · obtain ⟨b1, o1, e1, _, hcp⟩ := RpY.int_at hij
              cases e1
              obtain ⟨b2, o2, e2, _, hch⟩ := RhY.at_ hij
              cases e2
              have hz := (r3.ok i hij).bd
              have h62 := wAt_62' r3.ok hm6 hij
              have ob := r3.head i hij
              obtain ⟨J, HJ⟩ : ∃ J : Nat, Hid (wAt H' i = J) := ⟨_, Lib.hid rfl⟩
              obtain ⟨⟨z, l0, t, d, s, e⟩, Hh⟩ : ∃ h : Hd, Hid (H' i = h) := ⟨_, Lib.hid rfl⟩
              rw [Hh.out] at hz ob hch
              rw [HJ.out] at hcp h62 ob
              simp only at hz h62 ob
              obtain ⟨l, rfl⟩ := Int.eq_ofNat_of_zero_le hz.2.1
              have hbhY : bh < Y.heap.size := by omega
              have hbpY : bp < Y.heap.size := by omega
              have k0 : wr.cell? ⟨bh, oh + i * 6, none⟩ = some (.int .i64 (z : Int)) := (hbq.cell (p := ⟨bh, oh + i * 6, none⟩) (by simp; omega)).trans (by have := hch 0 _ rfl; rw [Nat.add_zero] at this; exact this)
              have k1 : wr.cell? ⟨bh, oh + i * 6 + 1, none⟩ = some (.int .i64 (l : Int)) := (hbq.cell (p := ⟨bh, oh + i * 6 + 1, none⟩) (by simp; omega)).trans (by have := hch 1 _ rfl; rw [← Nat.add_assoc] at this; exact this)
              have k2 : wr.cell? ⟨bh, oh + i * 6 + 2, none⟩ = some (.int .i64 t) := (hbq.cell (p := ⟨bh, oh + i * 6 + 2, none⟩) (by simp; omega)).trans (by have := hch 2 _ rfl; rw [← Nat.add_assoc] at this; exact this)
              have k3 : wr.cell? ⟨bh, oh + i * 6 + 3, none⟩ = some (.bool d) := (hbq.cell (p := ⟨bh, oh + i * 6 + 3, none⟩) (by simp; omega)).trans (by have := hch 3 _ rfl; rw [← Nat.add_assoc] at this; exact this)
              have k4 : wr.cell? ⟨bh, oh + i * 6 + 4, none⟩ = some (.int .i64 s) := (hbq.cell (p := ⟨bh, oh + i * 6 + 4, none⟩) (by simp; omega)).trans (by have := hch 4 _ rfl; rw [← Nat.add_assoc] at this; exact this)
              have k5 : wr.cell? ⟨bh, oh + i * 6 + 5, none⟩ = some (.int .i64 e) := (hbq.cell (p := ⟨bh, oh + i * 6 + 5, none⟩) (by simp; omega)).trans (by have := hch 5 _ rfl; rw [← Nat.add_assoc] at this; exact this)
              have kp : wr.cell? ⟨bp, op + i, none⟩ = some (.int .i64 (8 * (J : Int))) := (hbq.cell (p := ⟨bp, op + i, none⟩) hbpY).trans hcp
              clear hch hcp
              have aq := aY.below hbq (by omega) (by omega)
              go_wp2_with fail
              refine (tat_t _ _ _ _ _ _ J _ _ _ _ _ _ aq rfl (by omega) ob).mono ?_
              rintro x w6 ⟨rfl, hb6⟩
              have hz6 := hb6.size
              obtain ⟨Z, HZ, BZ, hrZ, zZ⟩ : ∃ Z, Hid (w6.alloc (.cells #[.int .i64 (z : Int), .int .i64 (l : Int), .int .i64 t, .bool d, .int .i64 s, .int .i64 e] 64) = Z) ∧ Blk Z w6.heap.size 64 #[.int .i64 (z : Int), .int .i64 (l : Int), .int .i64 t, .bool d, .int .i64 s, .int .i64 e] ∧ Below wr.heap.size wr Z ∧ (w6.heap.size < Z.heap.size ∧ Z.heap.size ≤ w6.heap.size + 1) :=
                ⟨_, Lib.hid rfl, Blk.new _ _ _, hb6.alloc (by omega) _, ⟨by simp, by simp⟩⟩
              go_wp2_with fail
              rw [HZ.out]
              clear HZ hb6
              have aZ := aq.below hrZ (by omega) (by omega)
              have x0 : ∀ w', (fun w' => Below Z.heap.size Z w') w' → w'.cell? ⟨bh, oh + i * 6, none⟩ = some (.int .i64 (z : Int)) := fun w' h => (h.cell (p := ⟨bh, oh + i * 6, none⟩) (by simp; omega)).trans ((hrZ.cell (p := ⟨bh, oh + i * 6, none⟩) (by simp; omega)).trans k0)
              have x1 : ∀ w', (fun w' => Below Z.heap.size Z w') w' → w'.cell? ⟨bh, oh + i * 6 + 1, none⟩ = some (.int .i64 (l : Int)) := fun w' h => (h.cell (p := ⟨bh, oh + i * 6 + 1, none⟩) (by simp; omega)).trans ((hrZ.cell (p := ⟨bh, oh + i * 6 + 1, none⟩) (by simp; omega)).trans k1)
              have x2 : ∀ w', (fun w' => Below Z.heap.size Z w') w' → w'.cell? ⟨bh, oh + i * 6 + 2, none⟩ = some (.int .i64 t) := fun w' h => (h.cell (p := ⟨bh, oh + i * 6 + 2, none⟩) (by simp; omega)).trans ((hrZ.cell (p := ⟨bh, oh + i * 6 + 2, none⟩) (by simp; omega)).trans k2)
              have x3 : ∀ w', (fun w' => Below Z.heap.size Z w') w' → w'.cell? ⟨bh, oh + i * 6 + 3, none⟩ = some (.bool d) := fun w' h => (h.cell (p := ⟨bh, oh + i * 6 + 3, none⟩) (by simp; omega)).trans ((hrZ.cell (p := ⟨bh, oh + i * 6 + 3, none⟩) (by simp; omega)).trans k3)
              have x4 : ∀ w', (fun w' => Below Z.heap.size Z w') w' → w'.cell? ⟨bh, oh + i * 6 + 4, none⟩ = some (.int .i64 s) := fun w' h => (h.cell (p := ⟨bh, oh + i * 6 + 4, none⟩) (by simp; omega)).trans ((hrZ.cell (p := ⟨bh, oh + i * 6 + 4, none⟩) (by simp; omega)).trans k4)
              have x5 : ∀ w', (fun w' => Below Z.heap.size Z w') w' → w'.cell? ⟨bh, oh + i * 6 + 5, none⟩ = some (.int .i64 e) := fun w' h => (h.cell (p := ⟨bh, oh + i * 6 + 5, none⟩) (by simp; omega)).trans ((hrZ.cell (p := ⟨bh, oh + i * 6 + 5, none⟩) (by simp; omega)).trans k5)
              have xb0 : ∀ w', (fun w' => Below Z.heap.size Z w') w' → w'.cell? ⟨w6.heap.size, 0, none⟩ = some (.int .i64 (z : Int)) := fun w' h => (h.cell (p := ⟨w6.heap.size, 0, none⟩) (by simp; omega)).trans (BZ.cell 0)
              have xb1 : ∀ w', (fun w' => Below Z.heap.size Z w') w' → w'.cell? ⟨w6.heap.size, 1, none⟩ = some (.int .i64 (l : Int)) := fun w' h => (h.cell (p := ⟨w6.heap.size, 1, none⟩) (by simp; omega)).trans (BZ.cell 1)
              have xb2 : ∀ w', (fun w' => Below Z.heap.size Z w') w' → w'.cell? ⟨w6.heap.size, 2, none⟩ = some (.int .i64 t) := fun w' h => (h.cell (p := ⟨w6.heap.size, 2, none⟩) (by simp; omega)).trans (BZ.cell 2)
              have xb3 : ∀ w', (fun w' => Below Z.heap.size Z w') w' → w'.cell? ⟨w6.heap.size, 3, none⟩ = some (.bool d) := fun w' h => (h.cell (p := ⟨w6.heap.size, 3, none⟩) (by simp; omega)).trans (BZ.cell 3)
              have xb4 : ∀ w', (fun w' => Below Z.heap.size Z w') w' → w'.cell? ⟨w6.heap.size, 4, none⟩ = some (.int .i64 s) := fun w' h => (h.cell (p := ⟨w6.heap.size, 4, none⟩) (by simp; omega)).trans (BZ.cell 4)
              have xb5 : ∀ w', (fun w' => Below Z.heap.size Z w') w' → w'.cell? ⟨w6.heap.size, 5, none⟩ = some (.int .i64 e) := fun w' h => (h.cell (p := ⟨w6.heap.size, 5, none⟩) (by simp; omega)).trans (BZ.cell 5)
              have xp : ∀ w', (fun w' => Below Z.heap.size Z w') w' → w'.cell? ⟨bp, op + i, none⟩ = some (.int .i64 (8 * (J : Int))) := fun w' h => (h.cell (p := ⟨bp, op + i, none⟩) (by simp; omega)).trans ((hrZ.cell (p := ⟨bp, op + i, none⟩) (by simp; omega)).trans kp)
              have v0 : IntKind.i64.wrap ((l : Int) - 1) = (l : Int) - 1 := by rw [IntKind.wrap_i64]; omega
              have v1 : IntKind.i64.wrap (8 * (J : Int) + 16) = 8 * (J : Int) + 16 := by rw [IntKind.wrap_i64]; omega
              have v2 : IntKind.i64.wrap (8 * ((l : Int) - 1)) = 8 * ((l : Int) - 1) := by rw [IntKind.wrap_i64]; omega
              have v3 : IntKind.i64.wrap (8 * (J : Int) + 16 + 8 * ((l : Int) - 1)) = 8 * (J : Int) + 16 + 8 * ((l : Int) - 1) := by rw [IntKind.wrap_i64]; omega
              obtain ⟨rs, ec, hcall, hcase⟩ : ∃ rs ec : Int, (∀ w, isW w p g 80 V' → Calls Try.prog 37 #[.pointer (some ⟨p, 0, none⟩), .int .i64 (8 * (J : Int)), .int .i64 ((l : Int) - 1)] w fun x w' => x = .returned (.tuple #[.int .i64 rs, .int .i64 ec]) ∧ Below w.heap.size w w') ∧ Hid (l = 0 ∨ (0 < l ∧ rs = 8 * (J : Int) + 16 + 8 * ((l : Int) - 1) ∧ ec = 0)) := by
                by_cases h0 : l = 0
                · exact ⟨_, _, fun w ha => tslot_f w p g 80 V' _ _ J _ _ _ _ _ _ ha rfl (by omega) ob (by left; omega), Lib.hid (.inl h0)⟩
                · exact ⟨_, _, fun w ha => tslot_t w p g 80 V' _ _ J _ _ _ _ _ _ ha rfl (by omega) ob (by omega), Lib.hid (.inr ⟨by omega, rfl, rfl⟩)⟩
              have HC := Lib.hid hcall
              clear hcall
              go_region_held3 (fun w' => Below Z.heap.size Z w') (first | exact (Below.refl _ _).drew | assumption | exact (Below.refl _ _).drew.trans (by assumption) | exact Below.trans (by assumption) (Below.mono (by assumption) (Below.size (by assumption))))
                (first | (go_at_call 37; refine (HC.out _ aZ.drew).mono ?_; rintro x w7 ⟨rfl, hb7⟩))
              have h7 : Below Z.heap.size Z w7 := by assumption
              have hz7 := h7.size
              have a7 := aZ.below h7 (by omega) (by omega)
              clear hb7
              go_wp2_with fail
              go_region_held3 (fun w' => Below Z.heap.size Z w') (first | exact h7.drew | assumption | exact (h7.drew).trans (Below.mono (by assumption) hz7))
                (first | (go_at_call 37; refine (tslot_f _ _ _ _ _ _ _ J _ _ _ _ _ _ a7.drew rfl (by omega) ob ?q1).mono ?_; (case q1 => (right; omega)); rintro x w8 ⟨rfl, hb8⟩))
              have h8 : Below Z.heap.size Z w8 := by assumption
              have hz8 := h8.size
              clear hb8
              go_wp2_with fail
              rcases hcase.out with hl0 | ⟨hl1, rfl, rfl⟩
              · subst hl0
                have y0 := x0 _ h8
                have y1 := x1 _ h8
                have y2 := x2 _ h8
                have y3 := x3 _ h8
                have y4 := x4 _ h8
                have y5 := x5 _ h8
                have yb0 := xb0 _ h8
                have yb1 := xb1 _ h8
                have yb2 := xb2 _ h8
                have yb3 := xb3 _ h8
                have yb4 := xb4 _ h8
                have yb5 := xb5 _ h8
                have yp := xp _ h8
                clear x0 x1 x2 x3 x4 x5 xb0 xb1 xb2 xb3 xb4 xb5 xp
                go_quiet (fail)
                go_wp2_with fail
                go_roundw
                case rel => exact ⟨i + 1, by omega, by go_num, hbq.trans ((hrZ.mono hzq).trans ((below_drewN' h8 _).mono (by omega)))⟩
                case measure => simp [intOf]; omega
              · have hl2 := hl1
                have y0 := x0 _ h8
                have y1 := x1 _ h8
                have y2 := x2 _ h8
                have y3 := x3 _ h8
                have y4 := x4 _ h8
                have y5 := x5 _ h8
                have yb0 := xb0 _ h8
                have yb1 := xb1 _ h8
                have yb2 := xb2 _ h8
                have yb3 := xb3 _ h8
                have yb4 := xb4 _ h8
                have yb5 := xb5 _ h8
                have yp := xp _ h8
                clear x0 x1 x2 x3 x4 x5 xb0 xb1 xb2 xb3 xb4 xb5 xp
                go_quiet (fail)
                go_wp2_with fail
                go_roundw
                case rel => exact ⟨i + 1, by omega, by go_num, hbq.trans ((hrZ.mono hzq).trans ((below_drewN' h8 _).mono (by omega)))⟩
                case measure => simp [intOf]; omega
            · obtain rfl : i = k := by omega
              go_wp2_with fail
              refine (r3.less hm6 _ _ _ (aY.below hbq (by omega) (by omega)) _ rfl).mono ?_
              rintro x w6 ⟨rfl, hb6⟩
              have hz6 := hb6.size
              have a6 := (aY.below hbq (by omega) (by omega)).below hb6 (by omega) (by omega)
              go_wp2_with fail
              refine (r3.more hm6 _ _ _ a6 _ rfl).mono ?_
              rintro x w7 ⟨rfl, hb7⟩
              go_wp2_with fail
              go_ret
              exact ⟨rfl, hBY.trans ((hbq.mono (by omega)).trans ((hb6.mono (by omega)).trans (hb7.mono (by omega))))⟩

end Go.Proofs.Ytahkplakdbbmmaa
