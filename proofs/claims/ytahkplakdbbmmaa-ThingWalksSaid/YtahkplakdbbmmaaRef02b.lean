/- Contracts of the reference of layer 2: Claim, Zero. -/
import Derived.Test.YtahkplakdbbmmaaRef02
namespace Go.Proofs.Ytahkplakdbbmmaa
set_option linter.unusedVariables false
set_option linter.unusedSimpArgs false
open Go.RowKit

theorem yzero_0 (w : World) (p g n : Nat) (F : Nat → Int) (at' : Int) (h : isY w p g n F) :
    Calls Try.prog 31 #[.pointer (some ⟨p, 0, none⟩), .int .i64 at', .int .i64 0] w fun e w' => e = .returned (.int .i64 0) ∧ w = w' := by
  clear h
  go_enter Try.func31, Try.ntmps31
  go_wp2_with fail
  go_ret; exact ⟨rfl, rfl⟩
theorem yzero_f (w : World) (p g n : Nat) (F : Nat → Int) (at' k : Int) (h : isY w p g n F) (hk : -9223372036854775808 ≤ k ∧ k ≤ 9223372036854775807) (hn : k < 0 ∨ (k ≠ 0 ∧ ((at' < 0 ∨ 8 * n ≤ at' ∨ at' % 8 ≠ 0) ∨ (0 ≤ at' ∧ n - at' / 8 < k)))) :
    Calls Try.prog 31 #[.pointer (some ⟨p, 0, none⟩), .int .i64 at', .int .i64 k] w fun e w' => e = .returned (.int .i64 1) ∧ w = w' := by
  have hs := h.slice
  have hm := h.most
  by_cases c : k < 0
  · clear hn
    go_enter Try.func31, Try.ntmps31
    go_wp2_with fail
    go_ret; exact ⟨rfl, rfl⟩
  · have hn := hn.resolve_left c
    have hb : (k == 0) = false := by simp; exact hn.1
    by_cases d : at' < 0 ∨ 8 * n ≤ at' ∨ at' % 8 ≠ 0
    · have D := Lib.hid d
      clear hn d
      go_enter Try.func31, Try.ntmps31
      go_wp2_with fail
      refine (yis_f _ _ _ _ _ _ h D.out).mono ?_
      rintro e w' ⟨rfl, rfl⟩
      go_wp2_with fail
      go_ret; exact ⟨rfl, rfl⟩
    · have h0 : 0 ≤ at' := by omega
      have h1 : at' < 8 * n := by omega
      have h8 : Hid (at' % 8 = 0) := Lib.hid (by omega)
      have h2 : (n : Int) - at' / 8 < k := by omega
      clear hn d
      go_enter Try.func31, Try.ntmps31
      go_wp2_with fail
      refine (yis_t _ _ _ _ _ _ (at' / 8).toNat h (by have := h8.out; omega) (by omega)).mono ?_
      rintro e w' ⟨rfl, rfl⟩
      go_wp2_with fail
      go_ret; exact ⟨rfl, rfl⟩
theorem updZ_zero (F : Nat → Int) (k : Nat) : updZ F k 0 = F := by funext i; unfold updZ; rw [if_neg (by omega)]
theorem updZ_succ (F : Nat → Int) (k m : Nat) : upd (updZ F k m) (k + m) 0 = updZ F k (m + 1) := by
  funext i
  unfold upd updZ
  by_cases c : i = k + m
  · rw [if_pos c, if_pos (by omega)]
  · rw [if_neg c]
    by_cases d : k ≤ i ∧ i < k + m
    · rw [if_pos d, if_pos (by omega)]
    · rw [if_neg d, if_neg (by omega)]
set_option maxRecDepth 100000 in
theorem yzero_t (w : World) (p g n : Nat) (F : Nat → Int) (at' : Int) (k m : Nat) (h : isY w p g n F) (hm : 0 < m) (e : at' = 8 * k) (hk : k + m ≤ n) :
    Calls Try.prog 31 #[.pointer (some ⟨p, 0, none⟩), .int .i64 at', .int .i64 m] w fun e w' => e = .returned (.int .i64 0) ∧ isY w' p g n (updZ F k m) ∧ But w.heap.size g w w' := by
  have hs := h.slice
  have hmo := h.most
  have hb : ((m : Int) == 0) = false := by simp; omega
  have E := Lib.hid e
  have h0 : 0 ≤ at' := by omega
  have h1 : at' < 8 * n := by omega
  have h2 : (m : Int) ≤ n - at' / 8 := by omega
  have hl := h.lts
  clear e
  go_enter Try.func31, Try.ntmps31
  go_wp2_with fail
  refine (yis_t _ _ _ _ _ _ k h E.out (by omega)).mono ?_
  rintro e w' ⟨rfl, rfl⟩
  go_wp2_with fail
  go_loopw [8] (fun i wr => ∃ j : Nat, j ≤ m ∧ i = .int .i64 j ∧ isY wr p g n (updZ F k j) ∧ But w.heap.size g w wr) (fun i _ => m - (intOf i).toNat)
  case atStart => exact ⟨0, by omega, rfl, by rw [updZ_zero]; exact h, But.refl _ _ _⟩
  case round =>
    obtain ⟨j, hj, rfl, hy, hbr⟩ := hrel
    by_cases hlt : j < m
    · have hs' := hy.slice
      have hc := hy.row.cell (at' / 8 + j).toNat (by have := E.out; omega)
      have hz := hy.row.free (at' / 8 + j).toNat
      have hidx : at' / 8 + (j : Int) < n := by have := E.out; omega
      go_wp2_with fail
      go_roundw
      case rel =>
        have e1 : (at' / 8 + (j : Int)).toNat = k + j := by have := E.out; omega
        refine ⟨j + 1, by omega, by go_num, ?_, ?_⟩
        · rw [← updZ_succ, e1]
          exact hy.set (k + j) 0 (by omega) (by unfold inU; omega)
        · exact hbr.set _ _
      case measure => simp [intOf]; omega
    · obtain rfl : m = j := by omega
      go_wp2_with fail
      go_ret; exact ⟨rfl, hy, hbr⟩

/-- Claim. -/
theorem yclaim_f (w : World) (p g n : Nat) (F : Nat → Int) (at' y m b x1 x2 : Int) (h : isY w p g n F) (hn : at' < 0 ∨ 8 * n ≤ at' ∨ at' % 8 ≠ 0) :
    Calls Try.prog 30 #[.pointer (some ⟨p, 0, none⟩), .int .i64 at', .int .u64 y, .int .u64 m, .int .i64 b, .int .u64 x1, .int .u64 x2] w fun e w' => e = .returned (.tuple #[.int .u64 0, .bool false, .int .i64 1]) ∧ w = w' := by
  have H := Lib.hid hn
  clear hn
  go_enter Try.func30, Try.ntmps30
  go_wp2_with fail
  refine (yword_f _ _ _ _ _ _ h H.out).mono ?_
  rintro e w' ⟨rfl, rfl⟩
  go_wp2_with fail
  go_ret3; exact ⟨rfl, rfl⟩
theorem yclaim_n (w : World) (p g n : Nat) (F : Nat → Int) (at' y m b x1 x2 : Int) (k : Nat) (h : isY w p g n F) (e : at' = 8 * k) (hk : k < n) (hy : inU y) (hm' : inU m) (hc : m < F k ∨ m - F k < y) :
    Calls Try.prog 30 #[.pointer (some ⟨p, 0, none⟩), .int .i64 at', .int .u64 y, .int .u64 m, .int .i64 b, .int .u64 x1, .int .u64 x2] w fun e w' => e = .returned (.tuple #[.int .u64 (F k), .bool false, .int .i64 0]) ∧ w = w' := by
  have E := Lib.hid e
  have hb := h.fits k hk
  obtain ⟨v, V⟩ : ∃ v, Hid (F k = v) := ⟨_, Lib.hid rfl⟩
  rw [V.out] at hb hc ⊢
  clear e
  unfold inU at *
  by_cases c : m < v
  · clear hc
    go_enter Try.func30, Try.ntmps30
    go_wp2_with fail
    refine (yword_t _ _ _ _ _ _ k h E.out hk).mono ?_
    rintro e w' ⟨rfl, rfl⟩
    rw [V.out]
    go_wp2_with fail
    go_ret3; exact ⟨rfl, rfl⟩
  · have hc := hc.resolve_left c
    go_enter Try.func30, Try.ntmps30
    go_wp2_with fail
    refine (yword_t _ _ _ _ _ _ k h E.out hk).mono ?_
    rintro e w' ⟨rfl, rfl⟩
    rw [V.out]
    go_wp2_with fail
    go_ret3; exact ⟨rfl, rfl⟩
theorem yclaim_o (w : World) (p g n : Nat) (F : Nat → Int) (at' y m b x1 x2 : Int) (k : Nat) (h : isY w p g n F) (e : at' = 8 * k) (hk : k < n) (hy : inU y) (hm' : inU m) (hc : F k ≤ m) (hc2 : y ≤ m - F k)
    (hn : 65536 < F k ∨ b < 0 ∨ 65536 < b ∨ 8 * n < b + F k + 16 ∨ (b + F k) % 8 ≠ 0) :
    Calls Try.prog 30 #[.pointer (some ⟨p, 0, none⟩), .int .i64 at', .int .u64 y, .int .u64 m, .int .i64 b, .int .u64 x1, .int .u64 x2] w fun e w' => e = .returned (.tuple #[.int .u64 0, .bool false, .int .i64 1]) ∧ w = w' := by
  have E := Lib.hid e
  have hb := h.fits k hk
  obtain ⟨v, V⟩ : ∃ v, Hid (F k = v) := ⟨_, Lib.hid rfl⟩
  rw [V.out] at hb hc hc2 hn
  clear e
  unfold inU at *
  by_cases c1 : 65536 < v
  · clear hn
    go_enter Try.func30, Try.ntmps30
    go_wp2_with fail
    refine (yword_t _ _ _ _ _ _ k h E.out hk).mono ?_
    rintro e w' ⟨rfl, rfl⟩
    rw [V.out]
    go_wp2_with fail
    go_ret3; exact ⟨rfl, rfl⟩
  by_cases c2 : b < 0
  · clear hn
    go_enter Try.func30, Try.ntmps30
    go_wp2_with fail
    refine (yword_t _ _ _ _ _ _ k h E.out hk).mono ?_
    rintro e w' ⟨rfl, rfl⟩
    rw [V.out]
    go_wp2_with fail
    go_ret3; exact ⟨rfl, rfl⟩
  by_cases c3 : 65536 < b
  · clear hn
    go_enter Try.func30, Try.ntmps30
    go_wp2_with fail
    refine (yword_t _ _ _ _ _ _ k h E.out hk).mono ?_
    rintro e w' ⟨rfl, rfl⟩
    rw [V.out]
    go_wp2_with fail
    go_ret3; exact ⟨rfl, rfl⟩
  by_cases c4 : (b + v) % 8 = 0 ∧ b + v < 8 * n
  · obtain ⟨j, J⟩ : ∃ j : Nat, Hid (b + v = 8 * j) := ⟨((b + v) / 8).toNat, Lib.hid (by omega)⟩
    have HN : Hid (j < n ∧ n ≤ j + 1) := Lib.hid (by have := J.out; omega)
    clear hn c4
    go_enter Try.func30, Try.ntmps30
    go_wp2_with fail
    refine (yword_t _ _ _ _ _ _ k h E.out hk).mono ?_
    rintro e w' ⟨rfl, rfl⟩
    rw [V.out]
    go_wp2_with fail
    refine (yis_t _ _ _ _ _ _ j h J.out HN.out.1).mono ?_
    rintro e w' ⟨rfl, rfl⟩
    go_wp2_with fail
    refine (yis_f _ _ _ _ _ _ h (by have := J.out; have := HN.out; omega)).mono ?_
    rintro e w' ⟨rfl, rfl⟩
    go_wp2_with fail
    go_ret3; exact ⟨rfl, rfl⟩
  · have HN := Lib.hid c4
    clear hn c4
    have HF : ∀ w : World, isY w p g n F → Hid (Calls Try.prog 49 #[.pointer (some ⟨p, 0, none⟩), .int .i64 (b + v)] w fun e w' => e = .returned (.bool false) ∧ w = w') :=
      fun w h => Lib.hid (yis_f _ _ _ _ _ _ h (by have := HN.out; omega))
    by_cases c5 : (b + v + 8) % 8 = 0 ∧ b + v + 8 < 8 * n
    · obtain ⟨j, J⟩ : ∃ j : Nat, Hid (b + v + 8 = 8 * j) := ⟨((b + v + 8) / 8).toNat, Lib.hid (by omega)⟩
      have HM : Hid (j < n) := Lib.hid (by have := J.out; omega)
      exfalso; have := HN.out; have := J.out; omega
    · have HM := Lib.hid c5
      clear c5
      go_enter Try.func30, Try.ntmps30
      go_wp2_with fail
      refine (yword_t _ _ _ _ _ _ k h E.out hk).mono ?_
      rintro e w' ⟨rfl, rfl⟩
      rw [V.out]
      go_wp2_with fail
      refine (yis_f _ _ _ _ _ _ h (by have := HN.out; omega)).mono ?_
      rintro e w' ⟨rfl, rfl⟩
      go_wp2_with fail
      refine (yis_f _ _ _ _ _ _ h (by have := HM.out; omega)).mono ?_
      rintro e w' ⟨rfl, rfl⟩
      go_wp2_with fail
      go_ret3; exact ⟨rfl, rfl⟩
set_option maxHeartbeats 1000000 in
set_option maxRecDepth 100000 in
theorem yclaim_t (w : World) (p g n : Nat) (F : Nat → Int) (at' y m b x1 x2 v : Int) (k j : Nat) (h : isY w p g n F) (e : at' = 8 * k) (hk : k < n) (hy : inU y) (hm' : inU m) (hv : F k = v) (hc : v ≤ m) (hc2 : y ≤ m - v)
    (hb0 : 0 ≤ b) (hb1 : b ≤ 65536) (hj : b + v = 8 * j) (hjn : j + 2 ≤ n) (hx1 : inU x1) (hx2 : inU x2) :
    Calls Try.prog 30 #[.pointer (some ⟨p, 0, none⟩), .int .i64 at', .int .u64 y, .int .u64 m, .int .i64 b, .int .u64 x1, .int .u64 x2] w fun e w' => e = .returned (.tuple #[.int .u64 v, .bool true, .int .i64 0]) ∧ isY w' p g n (upd (upd (upd F k (v + y)) j x1) (j + 1) x2) ∧ But w.heap.size g w w' := by
  have hvb := h.fits k hk
  have hmost := h.most
  rw [hv] at hvb
  have Hv := Lib.hid hv
  have E := Lib.hid e
  have J := Lib.hid hj
  have hv1 : v ≤ 65536 := by omega
  unfold inU at hvb hy hm'
  have Hsum : Hid (v + y ≤ 18446744073709551615) := Lib.hid (by omega)
  have hbv : b + v ≤ 65536 := by omega
  have X1 := Lib.hid hx1
  have X2 := Lib.hid hx2
  have HN := Lib.hid hjn
  clear hv e hj hx1 hx2 hmost hjn
  go_enter Try.func30, Try.ntmps30
  go_wp2_with fail
  refine (yword_t _ _ _ _ _ _ k h E.out hk).mono ?_
  rintro e w' ⟨rfl, rfl⟩
  rw [Hv.out]
  go_wp2_with fail
  refine (yis_t _ _ _ _ _ _ j h (by have := J.out; omega) (by have := HN.out; omega)).mono ?_
  rintro e w' ⟨rfl, rfl⟩
  go_wp2_with fail
  refine (yis_t _ _ _ _ _ _ (j + 1) h (by have := J.out; omega) (by have := HN.out; omega)).mono ?_
  rintro e w' ⟨rfl, rfl⟩
  go_wp2_with fail
  refine (yput_t _ _ _ _ _ _ _ k h E.out hk (by unfold inU; have := Hsum.out; omega)).mono ?_
  rintro e w1 ⟨rfl, h1, hb1⟩
  go_wp2_with fail
  refine (yput_t _ _ _ _ _ _ _ j h1 (by have := J.out; omega) (by have := HN.out; omega) X1.out).mono ?_
  rintro e w2 ⟨rfl, h2, hb2⟩
  go_wp2_with fail
  refine (yput_t _ _ _ _ _ _ _ (j + 1) h2 (by have := J.out; omega) (by have := HN.out; omega) X2.out).mono ?_
  rintro e w3 ⟨rfl, h3, hb3⟩
  go_wp2_with fail
  go_ret3
  exact ⟨rfl, h3, hb1.trans ((hb2.mono hb1.size).trans (hb3.mono (Nat.le_trans hb1.size hb2.size)))⟩

end Go.Proofs.Ytahkplakdbbmmaa
