/- ArenaCas: walk. -/
import Derived.Test.YtahkplakdbbmmaaArenaFilled
namespace Go.Proofs.Ytahkplakdbbmmaa
set_option linter.unusedVariables false
set_option linter.unusedSimpArgs false
open Go.RowKit

set_option maxHeartbeats 4000000 in
set_option maxRecDepth 100000 in
theorem walkArenaCas (L : Nat → Int) (a x y : Int) (w : World) (hL : ∀ i, inU (L i)) (ha : 0 ≤ a ∧ a ≤ 255) (hx : inU x) (hy : inU y) :
    Calls Try.prog 5 #[.agg (cellsF .u64 20 L), .int .u8 a, .agg #[.int .u64 x, .int .u64 y]] w fun e w' => e = .returned (.bool true) ∧ Below w.heap.size w w' := by
  go_enter Try.func5, Try.ntmps5
  go_wp2_with fail
  refine (shown_t _).mono ?_
  rintro e w1 ⟨rfl, hb1⟩
  have hz1 := hb1.size
  rw [World.size_alloc, World.size_alloc] at hz1
  have B1 : Blk w1 w.heap.size 39 (cellsF .u64 20 L) := ((Blk.new w _ _).alloc _).below hb1 (by simp; omega)
  have C1 : Blk w1 (w.heap.size + 1) 35 #[.int .u64 x, .int .u64 y] := (Blk.new' _ _ _ (by simp)).below hb1 (by simp)
  go_wp2_with (refine wpList_load_row rfl 39 (.tmp 3) rfl (w.heap.size) rfl 39 (cellsF .u64 20 L) (0, 0) _ (B1) Try.underlying39 rfl (by kernel_rfl) ?_)
  refine (filled_w L hL _).mono ?_
  rintro e w2 ⟨p, g, rfl, ha2, hb2, hp, hg⟩
  have hz2 := hb2.size
  have B2 := B1.below hb2 (by omega)
  have C2 := C1.below hb2 (by omega)
  have hk : 0 ≤ a % 20 ∧ a % 20 < 20 := by omega
  obtain ⟨k, K⟩ : ∃ k : Nat, Hid (a % 20 = k) := ⟨_, Lib.hid (Int.toNat_of_nonneg hk.1).symm⟩
  have hk2 : k < 20 := by have := K.out; omega
  have hv := hL k
  obtain ⟨v, Hv⟩ : ∃ v, Hid (L k = v) := ⟨_, Lib.hid rfl⟩
  rw [Hv.out] at hv
  have q0 : w2.cell? ⟨w.heap.size, k, none⟩ = some (.int .u64 v) := by
    rw [← Hv.out]; exact isRow.cell B2.row _ hk2
  rw [show k = (a % 20).toNat from by have := K.out; omega] at q0
  have q1 := C2.cell 0
  have q2 := C2.cell 1
  by_cases c : 128 ≤ a
  · go_wp2_with fail
    refine (wcas_t _ _ _ _ _ _ _ _ k ha2 (by have := K.out; omega) hk2 hy Hv.out).mono ?_; rintro e w3 ⟨rfl, ha3, hb3⟩
    have hz3 := hb3.size
    have B3 := B2.but hb3 (by omega) (by omega)
    have C3 := C2.but hb3 (by omega) (by omega)
    have p1 := C3.cell 0
    have p2 := C3.cell 1
    have UK : upd L k y k = y := by simp [upd]
    go_wp2_with fail
    refine (wword_t _ _ _ _ _ _ k ha3 (by have := K.out; omega) hk2).mono ?_; rintro e w' ⟨rfl, rfl⟩; rw [UK]
    go_wp2_with fail
    refine (wcas_any _ _ _ _ _ _ _ _ k ha3 (by have := K.out; omega) hk2 hy).mono ?_; rw [UK]; rintro e w4 ⟨rfl, ha4, hb4⟩
    have hz4 := hb4.size
    have B4 := B3.but hb4 (by omega) (by omega)
    have HA4 : isW w4 p g 20 (upd L k y) := by
      split at ha4
      · next e => rw [upd_same (upd L k y) k y (by rw [UK])] at ha4; exact ha4
      · exact ha4
    clear UK ha4
    obtain ⟨ag, Ag⟩ : ∃ ag, Hid (decide (y = v) = ag) := ⟨_, Lib.hid rfl⟩
    rw [Ag.out]
    go_wp2_with fail
    go_loop [17] (fun i => ∃ n : Nat, n ≤ 20 ∧ i = .int .i64 n) (fun i => 20 - (intOf i).toNat)
    case atStart => exact ⟨0, by omega, rfl⟩
    case round =>
      obtain ⟨n, hn, rfl⟩ := hrel
      by_cases hlt : n < 20
      · have hc := isRow.cell B4.row n hlt
        have hu := hL n
        obtain ⟨u, U⟩ : ∃ u, Hid (L n = u) := ⟨_, Lib.hid rfl⟩
        rw [U.out] at hc hu
        by_cases e : n = k
        · have he : ((n : Int) != a % 20) = false := by rw [K.out]; simp; omega
          clear e
          go_wp2_with fail
          refine (wword_t _ _ _ _ _ _ n HA4 (by omega) hlt).mono ?_; rintro e w' ⟨rfl, rfl⟩
          go_wp2_with fail
          go_round
          case rel => exact ⟨n + 1, by omega, by go_num⟩
          case measure => simp [intOf]; omega
        · have he : ((n : Int) != a % 20) = true := by rw [K.out]; simp; omega
          have E5 := Lib.hid e
          clear e
          go_wp2_with fail
          refine (wword_t _ _ _ _ _ _ n HA4 (by omega) hlt).mono ?_; rintro e w' ⟨rfl, rfl⟩
          rw [show upd L k y n = u from by unfold upd; rw [if_neg E5.out]; exact U.out]
          go_wp2_with fail
          go_round
          case rel => exact ⟨n + 1, by omega, by go_num⟩
          case measure => simp [intOf]; omega
      · obtain rfl : n = 20 := by omega
        have q4 : w4.cell? ⟨w.heap.size, (a % 20).toNat, none⟩ = some (.int .u64 v) := by
          have := isRow.cell B4.row k hk2
          rw [Hv.out] at this; rw [show (a % 20).toNat = k from by have := K.out; omega]; exact this
        have C4 := C3.but hb4 (by omega) (by omega)
        have r2 := C4.cell 1
        go_wp2_with fail
        go_ret
        have hB : Below w.heap.size w2 w4 := (hb3.trans (hb4.mono hz3)).below (by omega) (by omega)
        exact ⟨ret_b (by first | (simp [← Ag.out]; done) | (simp [← Ag.out]; rfl)), by
          repeat (first | (with_reducible exact Below.refl _ _) | ((with_reducible refine Below.setCell ?_ ?_ _); rotate_left; (focus (first | omega | (simp; done) | (simp; omega)))) | ((with_reducible refine Below.alloc ?_ ?_ _); rotate_left; (focus (first | omega | (simp; done) | (simp; omega)))) | (with_reducible refine Below.drew ?_) | (with_reducible refine below_drewN' ?_ _) | ((refine Below.trans ?_ (Below.mono (by with_reducible assumption) ?_)); rotate_left; (focus (first | omega | (simp; done) | (simp; omega)))))⟩
  · by_cases d : v = x
    · subst d
      go_wp2_with fail
      refine (wcas_t _ _ _ _ _ _ _ _ k ha2 (by have := K.out; omega) hk2 hy Hv.out).mono ?_; rintro e w3 ⟨rfl, ha3, hb3⟩
      have hz3 := hb3.size
      have B3 := B2.but hb3 (by omega) (by omega)
      have C3 := C2.but hb3 (by omega) (by omega)
      have p1 := C3.cell 0
      have p2 := C3.cell 1
      have UK : upd L k y k = y := by simp [upd]
      go_wp2_with fail
      refine (wword_t _ _ _ _ _ _ k ha3 (by have := K.out; omega) hk2).mono ?_; rintro e w' ⟨rfl, rfl⟩; rw [UK]
      go_wp2_with fail
      refine (wcas_any _ _ _ _ _ _ _ _ k ha3 (by have := K.out; omega) hk2 hy).mono ?_; rw [UK]; rintro e w4 ⟨rfl, ha4, hb4⟩
      have hz4 := hb4.size
      have B4 := B3.but hb4 (by omega) (by omega)
      have HA4 : isW w4 p g 20 (upd L k y) := by
        split at ha4
        · next e => rw [upd_same (upd L k y) k y (by rw [UK])] at ha4; exact ha4
        · exact ha4
      clear UK ha4
      obtain ⟨ag, Ag⟩ : ∃ ag, Hid (decide (y = v) = ag) := ⟨_, Lib.hid rfl⟩
      rw [Ag.out]
      go_wp2_with fail
      go_loop [17] (fun i => ∃ n : Nat, n ≤ 20 ∧ i = .int .i64 n) (fun i => 20 - (intOf i).toNat)
      case atStart => exact ⟨0, by omega, rfl⟩
      case round =>
        obtain ⟨n, hn, rfl⟩ := hrel
        by_cases hlt : n < 20
        · have hc := isRow.cell B4.row n hlt
          have hu := hL n
          obtain ⟨u, U⟩ : ∃ u, Hid (L n = u) := ⟨_, Lib.hid rfl⟩
          rw [U.out] at hc hu
          by_cases e : n = k
          · have he : ((n : Int) != a % 20) = false := by rw [K.out]; simp; omega
            clear e
            go_wp2_with fail
            refine (wword_t _ _ _ _ _ _ n HA4 (by omega) hlt).mono ?_; rintro e w' ⟨rfl, rfl⟩
            go_wp2_with fail
            go_round
            case rel => exact ⟨n + 1, by omega, by go_num⟩
            case measure => simp [intOf]; omega
          · have he : ((n : Int) != a % 20) = true := by rw [K.out]; simp; omega
            have E5 := Lib.hid e
            clear e
            go_wp2_with fail
            refine (wword_t _ _ _ _ _ _ n HA4 (by omega) hlt).mono ?_; rintro e w' ⟨rfl, rfl⟩
            rw [show upd L k y n = u from by unfold upd; rw [if_neg E5.out]; exact U.out]
            go_wp2_with fail
            go_round
            case rel => exact ⟨n + 1, by omega, by go_num⟩
            case measure => simp [intOf]; omega
        · obtain rfl : n = 20 := by omega
          have q4 : w4.cell? ⟨w.heap.size, (a % 20).toNat, none⟩ = some (.int .u64 v) := by
            have := isRow.cell B4.row k hk2
            rw [Hv.out] at this; rw [show (a % 20).toNat = k from by have := K.out; omega]; exact this
          have C4 := C3.but hb4 (by omega) (by omega)
          have r2 := C4.cell 1
          go_wp2_with fail
          go_ret
          have hB : Below w.heap.size w2 w4 := (hb3.trans (hb4.mono hz3)).below (by omega) (by omega)
          exact ⟨ret_b (by first | (simp [← Ag.out]; done) | (simp [← Ag.out]; rfl)), by
            repeat (first | (with_reducible exact Below.refl _ _) | ((with_reducible refine Below.setCell ?_ ?_ _); rotate_left; (focus (first | omega | (simp; done) | (simp; omega)))) | ((with_reducible refine Below.alloc ?_ ?_ _); rotate_left; (focus (first | omega | (simp; done) | (simp; omega)))) | (with_reducible refine Below.drew ?_) | (with_reducible refine below_drewN' ?_ _) | ((refine Below.trans ?_ (Below.mono (by with_reducible assumption) ?_)); rotate_left; (focus (first | omega | (simp; done) | (simp; omega)))))⟩
    · go_wp2_with fail
      refine (wcas_n _ _ _ _ _ _ _ _ k ha2 (by have := K.out; omega) hk2 (by rw [Hv.out]; exact d)).mono ?_; rintro e w3 ⟨rfl, rfl⟩
      have hb3 := But.refl w2.heap.size g w2
      have ha3 := ha2
      rw [← upd_same L k v Hv.out] at ha3
      have hz3 := hb3.size
      have B3 := B2.but hb3 (by omega) (by omega)
      have C3 := C2.but hb3 (by omega) (by omega)
      have p1 := C3.cell 0
      have p2 := C3.cell 1
      have UK : upd L k v k = v := by simp [upd]
      go_wp2_with fail
      refine (wword_t _ _ _ _ _ _ k ha3 (by have := K.out; omega) hk2).mono ?_; rintro e w' ⟨rfl, rfl⟩; rw [UK]
      go_wp2_with fail
      refine (wcas_any _ _ _ _ _ _ _ _ k ha3 (by have := K.out; omega) hk2 hy).mono ?_; rw [UK]; rintro e w4 ⟨rfl, ha4, hb4⟩
      have hz4 := hb4.size
      have B4 := B3.but hb4 (by omega) (by omega)
      have HA4 : isW w4 p g 20 (upd L k v) := by
        split at ha4
        · next e => rw [upd_same (upd L k v) k y (by rw [UK]; exact absurd e d)] at ha4; exact ha4
        · exact ha4
      clear UK ha4
      obtain ⟨ag, Ag⟩ : ∃ ag, Hid (decide (v = x) = ag) := ⟨_, Lib.hid rfl⟩
      rw [Ag.out]
      go_wp2_with fail
      go_loop [17] (fun i => ∃ n : Nat, n ≤ 20 ∧ i = .int .i64 n) (fun i => 20 - (intOf i).toNat)
      case atStart => exact ⟨0, by omega, rfl⟩
      case round =>
        obtain ⟨n, hn, rfl⟩ := hrel
        by_cases hlt : n < 20
        · have hc := isRow.cell B4.row n hlt
          have hu := hL n
          obtain ⟨u, U⟩ : ∃ u, Hid (L n = u) := ⟨_, Lib.hid rfl⟩
          rw [U.out] at hc hu
          by_cases e : n = k
          · have he : ((n : Int) != a % 20) = false := by rw [K.out]; simp; omega
            clear e
            go_wp2_with fail
            refine (wword_t _ _ _ _ _ _ n HA4 (by omega) hlt).mono ?_; rintro e w' ⟨rfl, rfl⟩
            go_wp2_with fail
            go_round
            case rel => exact ⟨n + 1, by omega, by go_num⟩
            case measure => simp [intOf]; omega
          · have he : ((n : Int) != a % 20) = true := by rw [K.out]; simp; omega
            have E5 := Lib.hid e
            clear e
            go_wp2_with fail
            refine (wword_t _ _ _ _ _ _ n HA4 (by omega) hlt).mono ?_; rintro e w' ⟨rfl, rfl⟩
            rw [show upd L k v n = u from by unfold upd; rw [if_neg E5.out]; exact U.out]
            go_wp2_with fail
            go_round
            case rel => exact ⟨n + 1, by omega, by go_num⟩
            case measure => simp [intOf]; omega
        · obtain rfl : n = 20 := by omega
          have q4 : w4.cell? ⟨w.heap.size, (a % 20).toNat, none⟩ = some (.int .u64 v) := by
            have := isRow.cell B4.row k hk2
            rw [Hv.out] at this; rw [show (a % 20).toNat = k from by have := K.out; omega]; exact this
          have C4 := C3.but hb4 (by omega) (by omega)
          have r2 := C4.cell 1
          go_wp2_with fail
          go_ret
          have hB : Below w.heap.size w2 w4 := (hb3.trans (hb4.mono hz3)).below (by omega) (by omega)
          exact ⟨ret_b (by first | (simp [← Ag.out]; done) | (simp [← Ag.out]; rfl)), by
            repeat (first | (with_reducible exact Below.refl _ _) | ((with_reducible refine Below.setCell ?_ ?_ _); rotate_left; (focus (first | omega | (simp; done) | (simp; omega)))) | ((with_reducible refine Below.alloc ?_ ?_ _); rotate_left; (focus (first | omega | (simp; done) | (simp; omega)))) | (with_reducible refine Below.drew ?_) | (with_reducible refine below_drewN' ?_ _) | ((refine Below.trans ?_ (Below.mono (by with_reducible assumption) ?_)); rotate_left; (focus (first | omega | (simp; done) | (simp; omega)))))⟩

theorem walkArenaCasL (l : List Int) (hl : l.length = 20) (a x y : Int) (w : World) (hL : ∀ x ∈ l, inU x) (ha : 0 ≤ a ∧ a ≤ 255) (hx : inU x) (hy : inU y) :
    Calls Try.prog 5 #[.agg (l.map (Value.int .u64)).toArray, .int .u8 a, .agg #[.int .u64 x, .int .u64 y]] w fun e w' => e = .returned (.bool true) ∧ Below w.heap.size w w' := by
  rw [← cellsF_lst, hl]
  exact walkArenaCas (lst l) a x y w (lst_bd l hL) ha hx hy

end Go.Proofs.Ytahkplakdbbmmaa
