/- The law's row: objects that are claimed one behind the other. -/
import Derived.Test.YtahkplakdbbmmaaGrown
import Derived.Test.YtahkplakdbbmmaaHeadFit
namespace Go.Proofs.Ytahkplakdbbmmaa
set_option linter.unusedVariables false
set_option linter.unusedSimpArgs false
open Go.RowKit

theorem info_head : (Try.prog.info? 64).map (fun i => (i.zero, i.size, i.bytes)) = some (some (.agg #[.int .i64 0, .int .i64 0, .int .i64 0, .bool false, .int .i64 0, .int .i64 0]), 6, 48) := by kernel_rfl
theorem under_heads : Try.prog.underlying 79 = some (.slice 64) := by kernel_rfl

/-- What there is behind the row. -/
structure isRowSt (w : World) (B p g : Nat) (V : Nat → Int) (N : Nat) (H : Nat → Hd) (vh vp : Value) : Prop where
  arena : isW w p g 80 V
  row : rowV V N H
  most : N ≤ 6
  heads : w.ownsRow B 64 6 vh N (headCells H N)
  places : w.ownsRow B 3 1 vp N (placeCells H N)
  lt : p < B ∧ g < B ∧ B ≤ w.heap.size

set_option maxHeartbeats 8000000 in
set_option maxRecDepth 100000 in
theorem row_t (w : World) (B0 : Nat) (A : Option Addr) (n c : Nat) (F : Nat → List Value) (hn : n ≤ 9223372036854775807) (R : rd w B0 A n 6 F) (hB0 : B0 ≤ w.heap.size)
    (hFit : ∀ i, i < n → FitsK [some .i64, some .i64, some .i64, .none, some .i64, some .i64] (F i)) :
    Calls Try.prog 44 #[.slice A n c] w fun x w' => ∃ p g V N H vh vp B, x = .returned (.tuple #[.pointer (some ⟨p, 0, none⟩), vh, vp, .int .i64 (8 * (wAt H N : Int) - 64), .bool true]) ∧
      isRowSt w' B p g V N H vh vp ∧ w.heap.size ≤ p ∧ w.heap.size ≤ g ∧ w.heap.size ≤ B ∧ Below w.heap.size w w' := by
  obtain ⟨i0, ihi, ihz, ihs, ihb⟩ := info_parts info_int
  obtain ⟨i6, hi6, hz60, hs61, hz62⟩ := info_parts info_head
  go_enter Try.func44, Try.ntmps44
  go_wp2_with fail
  refine (wnew_t 80 _ _ (by omega) (by omega)).mono ?_
  rintro x w1 ⟨p, g, rfl, ha1, hb1, hp, hg⟩
  have hz1 := hb1.size
  have hl1 := ha1.lts
  go_wp2_with fail
  go_loopw [9, 10, 11, 12] (fun vh vp u i wr => ∃ (k : Nat) (H : Nat → Hd) (V : Nat → Int), k ≤ n ∧ i = .int .i64 k ∧ u = .int .i64 (8 * (wAt H k : Int) - 64) ∧ isRowSt wr w1.heap.size p g V k H vh vp ∧ Below w.heap.size w wr) (fun _ _ _ i _ => 6 - (intOf i).toNat)
  case atStart =>
    refine ⟨0, fun _ => ⟨0, 0, 0, false, 0, 0⟩, fun _ => 0, by omega, rfl, rfl, ⟨(ha1.alloc _).alloc _, ⟨by simp [wAt], fun i h => by omega, fun i h => by omega, fun m h => rfl⟩, by omega, ?_, ?_, by simp; omega⟩, ?_⟩
    · exact ⟨rfl, .inr ⟨w1.heap.size, 0, #[], rfl, Nat.le_refl _, (Below.heap_alloc _ _ _ (by simp)).trans (heap_alloc_new w1 _), Nat.le_refl _, Nat.zero_le _, rfl, rfl⟩⟩
    · exact ⟨rfl, .inr ⟨w1.heap.size + 1, 0, #[], rfl, by omega, heap_new' (by simp), Nat.le_refl _, Nat.zero_le _, rfl, rfl⟩⟩
    · repeat (first | (with_reducible exact Below.refl _ _) | ((with_reducible refine Below.setCell ?_ ?_ _); rotate_left; (focus (first | omega | (simp; done) | (simp; omega)))) | ((with_reducible refine Below.alloc ?_ ?_ _); rotate_left; (focus (first | omega | (simp; done) | (simp; omega)))) | (with_reducible refine Below.drew ?_) | (with_reducible refine below_drewN' ?_ _) | ((refine Below.trans ?_ (Below.mono (by with_reducible assumption) ?_)); rotate_left; (focus (first | omega | (simp; done) | (simp; omega)))))
  case round =>
    obtain ⟨k, H, V, hkn, rfl, rfl, st, hBr⟩ := hrel
    have hzr := hBr.size
    have hstl := st.lt
    have hgr := wAt_ge H k
    have hlr := wAt_le st.row.ok
    have hm6 := st.most
    have Rr := R.below hBr hB0
    by_cases c1 : k < n
    · by_cases c2 : k < 6
      · obtain ⟨b, off, rfl, hbb, hc⟩ := Rr.at_ c1
        obtain ⟨z0, _, ef, fz, l0, _, rfl, fl, t0, _, rfl, ft, d0, _, rfl, s0, _, rfl, fs, e0, _, rfl, fe, rfl⟩ := hFit k c1
        rw [ef] at hc
        have hc0 := hc 0 _ rfl
        have hc1 := hc 1 _ rfl
        have hc2 := hc 2 _ rfl
        have hc3 := hc 3 _ rfl
        have hc4 := hc 4 _ rfl
        have hc5 := hc 5 _ rfl
        rw [Nat.add_zero] at hc0
        rw [← Nat.add_assoc] at hc1 hc2 hc3 hc4 hc5
        clear fz fl ft fs fe hc
        have EF := Lib.hid ef
        clear ef
        go_wp2_with fail
        refine (fit07_e _ _ _ _ _ _ _).mono ?_
        rintro x w2 ⟨zf, l1, t1, s1, e1, rfl, hl1, hzf, ht1, hs1', he1, hb2⟩
        have hz2 := hb2.size
        have a1 := i64_and1 z0
        obtain ⟨z, Z⟩ : ∃ z : Nat, Hid (2 + l1 + z0 % 2 = (z : Int)) := ⟨(2 + l1 + z0 % 2).toNat, Lib.hid (by omega)⟩
        have hz9 : 2 ≤ z ∧ z ≤ 9 ∧ 2 + l1 ≤ z ∧ (l1 = z - 2 ∨ l1 = z - 3) := by have := Z.out; omega
        obtain ⟨Y, HY, BY, hrY, zY⟩ : ∃ Y, Hid (w2.alloc (.cells #[.int .i64 zf, .int .i64 l1, .int .i64 t1, .bool d0, .int .i64 s1, .int .i64 e1] 64) = Y) ∧ Blk Y w2.heap.size 64 #[.int .i64 zf, .int .i64 l1, .int .i64 t1, .bool d0, .int .i64 s1, .int .i64 e1] ∧ Below wr.heap.size wr Y ∧ Y.heap.size = w2.heap.size + 1 :=
          ⟨_, Lib.hid rfl, Blk.new _ _ _, hb2.alloc (by omega) _, by simp⟩
        have hcY : Y.cell? ⟨b, off + k * 6, none⟩ = some (.int .i64 z0) := by rw [← HY.out, World.cell?_alloc_old _ _ _ (by simp; omega), hb2.cell (p := ⟨b, off + k * 6, none⟩) (by simp; omega)]; exact hc0
        go_wp2_with fail
        rw [HY.out]
        refine tail_still 11 (by kernel_rfl) (by kernel_rfl) ?_
        intro W hW
        have hcW : W.cell? ⟨b, off + k * 6, none⟩ = some (.int .i64 z0) := by rw [hW]; exact hcY
        have BW : Blk W w2.heap.size 64 #[.int .i64 zf, .int .i64 l1, .int .i64 t1, .bool d0, .int .i64 s1, .int .i64 e1] := by rw [hW]; exact BY
        have hW0 := BW.cell 0
        have hW1 := BW.cell 1
        have hW2 := BW.cell 2
        have hW3 := BW.cell 3
        have hW4 := BW.cell 4
        have hW5 := BW.cell 5
        have hWf := BW.frozen 0
        have HW := Lib.hid hW
        clear hW hc0 hc1 hc2 hc3 hc4 hc5
        simp only [List.take_succ_cons, List.take_zero, List.drop_succ_cons, List.drop_zero]
        repeat still_step
        try refine wpStill_nil ?_
        go_wp2_with fail
        rw [Z.out]
        obtain ⟨X, HX, BX, hrX, zX⟩ : ∃ X, Hid (W.setCell ⟨w2.heap.size, 0, none⟩ (.int .i64 (z : Int)) = X) ∧ Blk X w2.heap.size 64 #[.int .i64 z, .int .i64 l1, .int .i64 t1, .bool d0, .int .i64 s1, .int .i64 e1] ∧ Below wr.heap.size wr X ∧ X.heap.size = w2.heap.size + 1 :=
          ⟨_, Lib.hid rfl, (by have := BW.set_ 0 (.int .i64 (z : Int)); simpa using this), (by rw [HW.out]; exact (hrY.drew).setCell (p := ⟨w2.heap.size, 0, none⟩) (by simp; omega) _), (by rw [HW.out]; simp [World.setCell]; exact zY)⟩
        rw [HX.out]
        clear HX HW hW0 hW1 hW2 hW3 hW4 hW5 hWf hcW BW BY HY hcY hrY zY
        have aX := st.arena.below hrX (by omega) (by omega)
        have ohX := own_below st.heads hrX
        have opX := own_below st.places hrX
        have okh : okHead (z : Int) l1 t1 s1 e1 := by unfold okHead; omega
        have oobj := isObj.mk (f := hF z l1 t1 (bi d0)) (t := s1 + 256 * e1) (d := d0) okh rfl rfl
        have obd := oobj.bd
        refine (hrpack_o _ _ _ _ _ _ _ okh).mono ?_
        rintro x w3 ⟨rfl, hb3⟩
        have hz3 := hb3.size
        have BX3 := BX.below hb3 BX.lt
        have a3 := aX.below hb3 (by omega) (by omega)
        have oh3 := own_below ohX hb3
        have op3 := own_below opX hb3
        have hc0 := BX3.cell 0
        obtain ⟨f1, F1⟩ : ∃ f1, Hid (hF z l1 t1 (bi d0) = f1) := ⟨_, Lib.hid rfl⟩
        obtain ⟨f2, F2⟩ : ∃ f2, Hid (s1 + 256 * e1 = f2) := ⟨_, Lib.hid rfl⟩
        rw [F1.out, F2.out]
        rw [F1.out, F2.out] at oobj obd
        go_wp2_with fail
        refine (wclaim_t _ _ _ _ _ _ _ _ _ _ _ _ 0 (wAt H k) a3 (by omega) (by omega) (by unfold inU; omega) (by unfold inU; omega) st.row.used (by omega) (by omega) (by omega) (by omega) (by omega) (by omega) obd.1 obd.2).mono ?_
        rintro x w4 ⟨rfl, a4, hb4⟩
        have hz4 := hb4.size
        have BX4 := BX3.but hb4 BX3.lt (by omega)
        have oh4 := own_blocks oh3 fun j h1 h2 => hb4.block j h2 (by omega)
        have op4 := own_blocks op3 fun j h1 h2 => hb4.block j h2 (by omega)
        have q0 := BX4.cell 0
        have q1 := BX4.cell 1
        have q2 := BX4.cell 2
        have q3 := BX4.cell 3
        have q4 := BX4.cell 4
        have q5 := BX4.cell 5
        have hr4 : Below g wr w4 := (hrX.mono (by omega)).trans ((hb3.mono (by omega)).trans ((hb4.below (B' := g) (by omega) (Nat.le_refl _))))
        have lX4 := BX4.lt
        obtain ⟨V', HV⟩ : ∃ V', Hid (V' = upd (upd (upd V 0 (8 * (wAt H k : Int) - 64 + 8 * (z : Int))) (wAt H k) f1) (wAt H k + 1) f2) := ⟨_, Lib.hid rfl⟩
        rw [← HV.out] at a4
        have Hh : Hid ((⟨z, l1, t1, d0, s1, e1⟩ : Hd).ok) := Lib.hid ⟨okh, (show z ≤ 9 by omega), (show l1 = (z : Int) - 2 ∨ l1 = (z : Int) - 3 by omega)⟩
        have hrow : Hid (rowV V' (k + 1) (updH H k ⟨z, l1, t1, d0, s1, e1⟩)) := Lib.hid (by rw [HV.out]; exact st.row.push ⟨z, l1, t1, d0, s1, e1⟩ Hh.out st.row.zero _ _ _ (by simp; omega) oobj)
        go_wp2_with (at_builtin; refine wpList_append_own _ rfl _ _ 79 rfl w1.heap.size 64 i6 (.agg #[.int .i64 0, .int .i64 0, .int .i64 0, .bool false, .int .i64 0, .int .i64 0]) 6 48 under_heads hi6 hz60 hs61 hz62 rfl (by decide) _ _ _ rfl (own_alloc oh4 _) ⟨w4.heap.size, 0, none⟩ 1 1 (Hd.cells ⟨z, l1, t1, d0, s1, e1⟩) rfl rfl (by intro j u hj; match j, hj with | 0, hj | 1, hj | 2, hj | 3, hj | 4, hj | 5, hj => (simp [Hd.cells] at hj; subst hj; simp [Addr.add, go_sem])) (by intro u hu; simp [Hd.cells] at hu; rcases hu with rfl | rfl | rfl | rfl | rfl | rfl <;> rfl) (by unfold maxLen; omega) (by omega) (by simp; omega) ?_; intro vh' w5 hown5 hgrow5 _; refine stop_here ?_)
        replace hgrow5 : (w4.alloc (.cells #[.int .i64 z, .int .i64 l1, .int .i64 t1, .bool d0, .int .i64 s1, .int .i64 e1] 64)).grownBy w5 (u9).ownBlock := hgrow5
        have op5 := own_grown_ne oh4 op4 (by decide) ((Below.refl _ _).alloc (Nat.le_refl _) _) hgrow5
        have BX5 := (BX4.alloc _).grown hgrow5 (fun e => by have := (own_block st.heads e).2; omega)
        have a5 := (a4.alloc _).grown hgrow5 (own_row_ge oh4) (by omega) (by omega)
        have hr5 : Below w.heap.size w w5 := ((hBr.trans (hr4.mono (by omega))).alloc (by omega) _).grown hgrow5 (by simp; omega) (fun j e => by have := own_row_ge oh4 j e; omega)
        have hz5 := hgrow5.size
        simp only [World.size_alloc] at hz5
        clear hgrow5
        unfold Stop
        go_wp2_with (at_builtin; refine wpList_append_own _ rfl _ _ 71 rfl w1.heap.size 3 i0 (.int .i64 0) 1 8 under_ints ihi ihz ihs ihb rfl (by decide) _ _ _ rfl (own_alloc op5 _) ⟨w5.heap.size, 0, none⟩ 1 1 [.int .i64 (64 + (8 * (wAt H k : Int) - 64))] rfl rfl (by intro j u hj; match j, hj with | 0, hj => (simp at hj; subst hj; simp [Addr.add, go_sem])) (by intro u hu; simp at hu; subst hu; rfl) (by unfold maxLen; omega) (by omega) (by simp; omega) ?_; intro vp' w6 hown6 hgrow6 _; refine stop_here ?_)
        rw [show (64 : Int) + (8 * (wAt H k : Int) - 64) = 8 * (wAt H k : Int) from by omega] at hown6
        replace hgrow6 : (w5.alloc (.cells #[.int .i64 (64 + (8 * (wAt H k : Int) - 64))] 3)).grownBy w6 (u10).ownBlock := hgrow6
        have BX6 := (BX5.alloc _).grown hgrow6 (blk_row_ne op5 BX5 (by decide))
        have oh6 := own_grown_ne op5 hown5 (by decide) ((Below.refl _ _).alloc (Nat.le_refl _) _) hgrow6
        have a6 := (a5.alloc _).grown hgrow6 (own_row_ge op5) (by omega) (by omega)
        have hr6 := (hr5.alloc (by omega) _).grown hgrow6 (by simp; omega) (fun j e => by have := own_row_ge op5 j e; omega)
        have p6 := BX6.cell 0
        have hz6 := hgrow6.size
        simp only [World.size_alloc] at hz6
        clear hgrow6
        unfold Stop
        have hze := Z.out
        clear q0 q1 q2 q3 q4 q5 hc0
        go_wp2_with fail
        go_roundw
        case rel => exact ⟨k + 1, updH H k ⟨z, l1, t1, d0, s1, e1⟩, V', by omega, by go_num, by rw [wAt_push]; simp; omega, ⟨a6, hrow.out, by omega, by rw [headCells_push]; exact oh6, by rw [placeCells_push]; exact hown6, by omega⟩, hr6⟩
        case measure => simp [intOf]; omega
      · obtain rfl : k = 6 := by omega
        go_wp2_with fail
        refine bodyPost_ret (v := .tuple #[.pointer (some ⟨p, 0, none⟩), u9, u10, .int .i64 (8 * (wAt H 6 : Int) - 64), .bool true]) (by simp only [results, Try.results44]; go_simp) rfl ?_
        exact ⟨p, g, V, 6, H, u9, u10, w1.heap.size, rfl, st, hp, hg, hz1, hBr⟩
    · obtain rfl : k = n := by omega
      go_wp2_with fail
      refine bodyPost_ret (v := .tuple #[.pointer (some ⟨p, 0, none⟩), u9, u10, .int .i64 (8 * (wAt H k : Int) - 64), .bool true]) (by simp only [results, Try.results44]; go_simp) rfl ?_
      exact ⟨p, g, V, k, H, u9, u10, w1.heap.size, rfl, st, hp, hg, hz1, hBr⟩

end Go.Proofs.Ytahkplakdbbmmaa
