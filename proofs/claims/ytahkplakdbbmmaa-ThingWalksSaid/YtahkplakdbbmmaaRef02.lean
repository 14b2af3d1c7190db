/- Contracts of the reference of layer 2: an arena as a row of words. -/
import Derived.Test.YtahkplakdbbmmaaArenaByteW
import Derived.BigQuiet
import Derived.StillTailTactics
namespace Go.Proofs.Ytahkplakdbbmmaa
set_option linter.unusedVariables false
set_option linter.unusedSimpArgs false
open Go.RowKit

/-- The reference's arena of n words. -/
structure isY (w : World) (p g n : Nat) (F : Nat → Int) : Prop where
  head : Blk w p 58 #[.slice (some ⟨g, 0, none⟩) n n]
  row : isRow w g .u64 30 n F
  ne : p ≠ g
  most : n ≤ 8192
  fits : ∀ i, i < n → inU (F i)
section
variable {w w' : World} {p g n : Nat} {F : Nat → Int}
theorem isY.slice (h : isY w p g n F) : w.cell? ⟨p, 0, none⟩ = some (.slice (some ⟨g, 0, none⟩) n n) := h.head.cell 0
theorem isY.lts (h : isY w p g n F) : p < w.heap.size ∧ g < w.heap.size ∧ p ≠ g := ⟨h.head.lt, h.row.lt, h.ne⟩
theorem isY.ext {G : Nat → Int} (h : isY w p g n F) (e : ∀ i, i < n → F i = G i) : isY w p g n G :=
  ⟨h.head, h.row.ext e, h.ne, h.most, fun i hi => by rw [← e i hi]; exact h.fits i hi⟩
theorem isY.below {B : Nat} (h : isY w p g n F) (hb : Below B w w') (hp : p < B) (hg : g < B) : isY w' p g n F :=
  ⟨h.head.below hb hp, Below.row hb h.row hg, h.ne, h.most, h.fits⟩
theorem isY.but {B c : Nat} (h : isY w p g n F) (hb : But B c w w') (hp : p < B) (hg : g < B) (hpc : p ≠ c) (hgc : g ≠ c) : isY w' p g n F :=
  ⟨h.head.but hb hp hpc, hb.row h.row hg hgc, h.ne, h.most, h.fits⟩
theorem isY.drewN (h : isY w p g n F) (k : Nat) : isY (w.drewN k) p g n F := ⟨h.head, h.row, h.ne, h.most, h.fits⟩
theorem isY.alloc (h : isY w p g n F) (o : Obj) : isY (w.alloc o) p g n F :=
  h.below ((Below.refl w.heap.size w).alloc (Nat.le_refl _) _) h.lts.1 h.lts.2.1
theorem isY.set (h : isY w p g n F) (j : Nat) (v : Int) (hj : j < n) (hv : inU v) : isY (w.setCell ⟨g, j, none⟩ (.int .u64 v)) p g n (upd F j v) :=
  ⟨h.head.far h.ne _, h.row.set j v, h.ne, h.most, fun i hi => by unfold upd; split; (next => exact hv); (next => exact h.fits i hi)⟩
end

theorem info_u64 : (Try.prog.info? 30).map (fun i => (i.zero, i.size, i.bytes)) = some (some (.int .u64 0), 1, 8) := by kernel_rfl
theorem under_words : Try.prog.underlying 56 = some (.slice 30) := by kernel_rfl

theorem ynew_t (n : Nat) (m : Int) (w : World) (hm : m = 8 * n) (h : 8 * n ≤ 65536) :
    Calls Try.prog 25 #[.int .i64 m] w fun e w' => ∃ p g, e = .returned (.pointer (some ⟨p, 0, none⟩)) ∧ isY w' p g n (fun _ => 0) ∧ Below w.heap.size w w' ∧ w.heap.size ≤ p ∧ w.heap.size ≤ g := by
  have h0 : 0 ≤ m := by omega
  have e8 : m / 8 = (n : Int) := by omega
  clear hm
  have hmk := run_make_row' (P := Try.prog) 56 30 (.int .u64 0) 8 under_words info_u64 rfl .i64 .i64 n (by omega) (by omega)
  go_enter Try.func25, Try.ntmps25
  go_wp2_with fail
  go_ret
  refine ⟨w.heap.size + 1, w.heap.size, rfl, ⟨?_, ?_, by omega, by omega, fun _ _ => by unfold inU; omega⟩, ?_, by omega, by omega⟩
  · exact pushed _ _ _ (by simp)
  · rw [made_row]; unfold isRow
    show ((w.heap.push _).push _)[w.heap.size]? = _
    simp [Array.getElem?_push]
  · repeat (first | (with_reducible exact Below.refl _ _) | ((with_reducible refine Below.setCell ?_ ?_ _); rotate_left; (focus (first | omega | (simp; done) | (simp; omega)))) | ((with_reducible refine Below.alloc ?_ ?_ _); rotate_left; (focus (first | omega | (simp; done) | (simp; omega)))) | (with_reducible refine Below.drew ?_) | (with_reducible refine below_drewN' ?_ _) | ((refine Below.trans ?_ (Below.mono (by with_reducible assumption) ?_)); rotate_left; (focus (first | omega | (simp; done) | (simp; omega)))))

theorem yis_t (w : World) (p g n : Nat) (F : Nat → Int) (at' : Int) (k : Nat) (h : isY w p g n F) (e : at' = 8 * k) (hk : k < n) :
    Calls Try.prog 49 #[.pointer (some ⟨p, 0, none⟩), .int .i64 at'] w fun e w' => e = .returned (.bool true) ∧ w = w' := by
  have hs := h.slice
  have hm := h.most
  have h0 : 0 ≤ at' := by omega
  have h1 : at' < 8 * n := by omega
  have h8 : (at' % 8 == 0) = true := by simp; omega
  clear h e
  go_enter Try.func49, Try.ntmps49
  go_wp2_with fail
  go_ret; exact ⟨rfl, rfl⟩
theorem yis_f (w : World) (p g n : Nat) (F : Nat → Int) (at' : Int) (h : isY w p g n F) (hn : at' < 0 ∨ 8 * n ≤ at' ∨ at' % 8 ≠ 0) :
    Calls Try.prog 49 #[.pointer (some ⟨p, 0, none⟩), .int .i64 at'] w fun e w' => e = .returned (.bool false) ∧ w = w' := by
  have hs := h.slice
  have hm := h.most
  clear h
  by_cases c : at' < 0
  · clear hn
    go_enter Try.func49, Try.ntmps49
    go_wp2_with fail
    go_ret; exact ⟨rfl, rfl⟩
  · by_cases d : 8 * n ≤ at'
    · clear hn
      go_enter Try.func49, Try.ntmps49
      go_wp2_with fail
      go_ret; exact ⟨rfl, rfl⟩
    · have h8 : (at' % 8 == 0) = false := by simp; omega
      clear hn
      go_enter Try.func49, Try.ntmps49
      go_wp2_with fail
      go_ret; exact ⟨rfl, rfl⟩

theorem yword_f (w : World) (p g n : Nat) (F : Nat → Int) (at' : Int) (h : isY w p g n F) (hn : at' < 0 ∨ 8 * n ≤ at' ∨ at' % 8 ≠ 0) :
    Calls Try.prog 26 #[.pointer (some ⟨p, 0, none⟩), .int .i64 at'] w fun e w' => e = .returned (.tuple #[.int .u64 0, .int .i64 1]) ∧ w = w' := by
  have H := Lib.hid hn
  clear hn
  go_enter Try.func26, Try.ntmps26
  go_wp2_with (go_at_call 49; refine (yis_f _ _ _ _ _ _ h H.out).mono ?_; rintro e w' ⟨rfl, rfl⟩)
  go_ret2; exact ⟨rfl, rfl⟩
theorem yword_t (w : World) (p g n : Nat) (F : Nat → Int) (at' : Int) (k : Nat) (h : isY w p g n F) (e : at' = 8 * k) (hk : k < n) :
    Calls Try.prog 26 #[.pointer (some ⟨p, 0, none⟩), .int .i64 at'] w fun e w' => e = .returned (.tuple #[.int .u64 (F k), .int .i64 0]) ∧ w = w' := by
  have hs := h.slice
  have hm := h.most
  have hc := h.row.cell (at' / 8).toNat (by omega)
  rw [show F (at' / 8).toNat = F k from by congr 1; omega] at hc
  have E := Lib.hid e
  have h0 : 0 ≤ at' := by omega
  have h1 : at' < 8 * n := by omega
  clear e
  go_enter Try.func26, Try.ntmps26
  go_wp2_with (go_at_call 49; refine (yis_t _ _ _ _ _ _ k h E.out hk).mono ?_; rintro e w' ⟨rfl, rfl⟩)
  go_ret2; exact ⟨rfl, rfl⟩

theorem yput_f (w : World) (p g n : Nat) (F : Nat → Int) (at' x : Int) (h : isY w p g n F) (hn : at' < 0 ∨ 8 * n ≤ at' ∨ at' % 8 ≠ 0) :
    Calls Try.prog 32 #[.pointer (some ⟨p, 0, none⟩), .int .i64 at', .int .u64 x] w fun e w' => e = .returned (.int .i64 1) ∧ w = w' := by
  have H := Lib.hid hn
  clear hn
  go_enter Try.func32, Try.ntmps32
  go_wp2_with (go_at_call 49; refine (yis_f _ _ _ _ _ _ h H.out).mono ?_; rintro e w' ⟨rfl, rfl⟩)
  go_ret; exact ⟨rfl, rfl⟩
theorem yput_t (w : World) (p g n : Nat) (F : Nat → Int) (at' x : Int) (k : Nat) (h : isY w p g n F) (e : at' = 8 * k) (hk : k < n) (hx : inU x) :
    Calls Try.prog 32 #[.pointer (some ⟨p, 0, none⟩), .int .i64 at', .int .u64 x] w fun e w' => e = .returned (.int .i64 0) ∧ isY w' p g n (upd F k x) ∧ But w.heap.size g w w' := by
  have hs := h.slice
  have hm := h.most
  have hc := h.row.cell (at' / 8).toNat (by omega)
  have hz := h.row.free (at' / 8).toNat
  have E := Lib.hid e
  have h0 : 0 ≤ at' := by omega
  have h1 : at' < 8 * n := by omega
  clear e
  go_enter Try.func32, Try.ntmps32
  go_wp2_with (go_at_call 49; refine (yis_t _ _ _ _ _ _ k h E.out hk).mono ?_; rintro e w' ⟨rfl, rfl⟩)
  go_ret
  have hk' : (at' / 8).toNat = k := by have := E.out; omega
  rw [hk']
  exact ⟨rfl, h.set k x hk hx, (But.refl _ _ _).set _ _⟩

theorem power_t (n : Nat) (w : World) (hn : n < 8) :
    Calls Try.prog 50 #[.int .i64 n] w fun e w' => e = .returned (.int .u64 (256 ^ n)) ∧ w = w' := by
  go_enter Try.func50, Try.ntmps50
  go_wp2_with fail
  go_loop [3, 4] (fun p i => ∃ k : Nat, k ≤ n ∧ i = .int .i64 k ∧ p = .int .u64 (256 ^ k)) (fun _ i => n - (intOf i).toNat)
  case atStart => exact ⟨0, by omega, rfl, rfl⟩
  case round =>
    obtain ⟨k, hk, rfl, rfl⟩ := hrel
    by_cases hlt : k < n
    · have hp : Hid ((256 : Int) ^ (k + 1) = 256 ^ k * 256) := Lib.hid (Int.pow_succ _ _)
      have hb : (0 : Int) ≤ 256 ^ k ∧ (256 : Int) ^ k ≤ 281474976710656 := by
        rcases (by omega : k = 0 ∨ k = 1 ∨ k = 2 ∨ k = 3 ∨ k = 4 ∨ k = 5 ∨ k = 6) with rfl | rfl | rfl | rfl | rfl | rfl | rfl <;> decide
      generalize (256 : Int) ^ k = q at *
      go_wp2_with fail
      go_round
      case rel => exact ⟨k + 1, by omega, by go_num, by rw [hp.out]⟩
      case measure => simp [intOf]; omega
    · obtain rfl : n = k := by omega
      go_wp2_with fail
      go_ret; exact ⟨rfl, rfl⟩

theorem ybyte_f (w : World) (p g n : Nat) (F : Nat → Int) (at' : Int) (h : isY w p g n F) (hn : at' < 0 ∨ 8 * n ≤ at') :
    Calls Try.prog 27 #[.pointer (some ⟨p, 0, none⟩), .int .i64 at'] w fun e w' => e = .returned (.tuple #[.int .u8 0, .int .i64 1]) ∧ w = w' := by
  have hs := h.slice
  have hm := h.most
  clear h
  by_cases c : at' < 0
  · clear hn
    go_enter Try.func27, Try.ntmps27
    go_wp2_with fail
    go_ret2; exact ⟨rfl, rfl⟩
  · have hn : 8 * n ≤ at' := by omega
    go_enter Try.func27, Try.ntmps27
    go_wp2_with fail
    go_ret2; exact ⟨rfl, rfl⟩
theorem ybyte_t (w : World) (p g n : Nat) (F : Nat → Int) (at' : Int) (k j : Nat) (h : isY w p g n F) (e : at' = 8 * k + j) (hj : j < 8) (hk : k < n) :
    Calls Try.prog 27 #[.pointer (some ⟨p, 0, none⟩), .int .i64 at'] w fun e w' => e = .returned (.tuple #[.int .u8 (byteOf (F k) j), .int .i64 0]) ∧ ∃ m, w' = w.drewN m := by
  have hs := h.slice
  have hm := h.most
  have hc := h.row.cell k hk
  have hx := h.fits k hk
  have t1 : at'.tdiv 8 = (k : Int) := by rw [Int.tdiv_eq_ediv_of_nonneg (by omega)]; omega
  have t2 : at'.tmod 8 = (j : Int) := by rw [Int.tmod_eq_emod_of_nonneg (by omega)]; omega
  have t3 : IntKind.i64.wrap (k : Int) = k := IntWalk.i64_in _ (by omega)
  have t4 : IntKind.i64.wrap (j : Int) = j := IntWalk.i64_in _ (by omega)
  obtain ⟨q, hq⟩ : ∃ q : Int, Hid (256 ^ j = q) := ⟨_, Lib.hid rfl⟩
  obtain ⟨x, X⟩ : ∃ x : Int, Hid (F k = x) := ⟨_, Lib.hid rfl⟩
  rw [X.out] at hc hx ⊢
  unfold inU at hx
  have q0 : 0 < q := by rw [← hq.out]; exact Int.pow_pos (by decide)
  have q1 : (q == 0) = false := by simp; omega
  have q1' : ¬ q = 0 := by omega
  have y0 : 0 ≤ x / q := Int.ediv_nonneg hx.1 (by omega)
  have y1 : x / q ≤ x := Int.ediv_le_self _ hx.1
  have t5 : x.tdiv q = x / q := Int.tdiv_eq_ediv_of_nonneg hx.1
  have t6 : IntKind.u64.wrap (x / q) = x / q := wraps_u64 _ y0 (by omega)
  have t7 : (x / q).tmod 256 = x / q % 256 := Int.tmod_eq_emod_of_nonneg y0
  have t8 : IntKind.u64.wrap (x / q % 256) = x / q % 256 := wraps_u64 _ (by omega) (by omega)
  have t9 : IntKind.u8.wrap (x / q % 256) = x / q % 256 := by rw [IntKind.wrap_u8]; omega
  have PT := Lib.hid (fun w => show Calls Try.prog 50 #[.int .i64 j] w fun e w' => e = .returned (.int .u64 q) ∧ w' = w from (power_t j w hj).mono fun _ _ hh => ⟨by rw [← hq.out]; exact hh.1, hh.2.symm⟩)
  clear y0 y1
  have k0 : (0 : Int) ≤ k := by omega
  have k1 : (k : Int) < n := by omega
  have h0 : 0 ≤ at' := by omega
  have h1 : at' < 8 * n := by omega
  clear e
  go_enter Try.func27, Try.ntmps27
  go_wp2_with fail
  go_quiet ((go_at_call 50; exact Calls.quiet_of_same (PT.out _)))
  go_wp2_with fail
  go_ret2
  exact ⟨ret_ii (by rw [byteOf, hq.out]) rfl, _, rfl⟩

theorem still_tail {P : Program} {id : Nat} {Q : Exit → Act → World → Prop} {a : Act} {w : World} {l : List Oper} (n : Nat) (hm : P.follows .mixedOrders = true) (hB : Region.lexTailB .any l.toArray n = true)
    (h : ∀ W, W = w.drew → wpStill P l.toArray W (fun a' => wpList P l.toArray Q (l.drop n) a' W) (l.take n) a) : (Code.region id l.toArray true).wp P Q a w :=
  wp_region_still_tail n hm hB (h _ rfl)

theorem yputByte_f (w : World) (p g n : Nat) (F : Nat → Int) (at' b : Int) (h : isY w p g n F) (hn : at' < 0 ∨ 8 * n ≤ at') :
    Calls Try.prog 28 #[.pointer (some ⟨p, 0, none⟩), .int .i64 at', .int .u8 b] w fun e w' => e = .returned (.int .i64 1) ∧ w = w' := by
  have hs := h.slice
  have hm := h.most
  clear h
  by_cases c : at' < 0
  · clear hn
    go_enter Try.func28, Try.ntmps28
    go_wp2_with fail
    go_ret; exact ⟨rfl, rfl⟩
  · have hn : 8 * n ≤ at' := by omega
    go_enter Try.func28, Try.ntmps28
    go_wp2_with fail
    go_ret; exact ⟨rfl, rfl⟩
set_option maxHeartbeats 2000000 in
set_option maxRecDepth 100000 in
theorem yputByte_t (w : World) (p g n : Nat) (F : Nat → Int) (at' b : Int) (k j : Nat) (h : isY w p g n F) (e : at' = 8 * k + j) (hj : j < 8) (hk : k < n) (hb : 0 ≤ b ∧ b ≤ 255) :
    Calls Try.prog 28 #[.pointer (some ⟨p, 0, none⟩), .int .i64 at', .int .u8 b] w fun e w' => e = .returned (.int .i64 0) ∧ isY w' p g n (upd F k (withByte (F k) j b)) ∧ But w.heap.size g w w' := by
  have hs := h.slice
  have hm := h.most
  have hc := h.row.cell k hk
  have hz := h.row.free k
  have hx := h.fits k hk
  have E := Lib.hid e
  have t1 : at'.tdiv 8 = (k : Int) := by rw [Int.tdiv_eq_ediv_of_nonneg (by omega)]; omega
  have t2 : at' % 8 = (j : Int) := by omega
  have t3 : IntKind.i64.wrap (k : Int) = k := IntWalk.i64_in _ (by omega)
  obtain ⟨q, hq⟩ : ∃ q : Int, Hid (256 ^ j = q) := ⟨_, Lib.hid rfl⟩
  obtain ⟨x, X⟩ : ∃ x : Int, Hid (F k = x) := ⟨_, Lib.hid rfl⟩
  obtain ⟨y, Y⟩ : ∃ y : Int, Hid (byteOf x j = y) := ⟨_, Lib.hid rfl⟩
  rw [X.out] at hc hx ⊢
  have hw := withByte_bd x j b hx hj hb
  have hy := byteOf_bd x j
  rw [hq.out, Y.out] at hw
  rw [Y.out] at hy
  obtain ⟨v, V⟩ : ∃ v : Int, Hid (withByte x j b = v) := ⟨_, Lib.hid rfl⟩
  rw [V.out] at hw ⊢
  have h0 : 0 ≤ at' := by omega
  have h1 : at' < 8 * n := by omega
  have PT := Lib.hid (fun w => show Calls Try.prog 50 #[.int .i64 j] w fun e w' => e = .returned (.int .u64 q) ∧ w = w' from (power_t j w hj).mono fun _ _ hh => ⟨by rw [← hq.out]; exact hh.1, hh.2⟩)
  have t5 : IntKind.u64.wrap y = y := wraps_u64 _ (by omega) (by omega)
  have t6 : IntKind.u64.wrap b = b := wraps_u64 _ (by omega) (by omega)
  have t7 : IntKind.u64.wrap (y * q) = y * q := wraps_u64 _ (by omega) (by unfold inU at hx; omega)
  have t8 : IntKind.u64.wrap (x - y * q) = x - y * q := wraps_u64 _ (by omega) (by unfold inU at hx; omega)
  have t9 : IntKind.u64.wrap (b * q) = b * q := wraps_u64 _ (by omega) (by omega)
  have t10 : IntKind.u64.wrap (x - y * q + b * q) = v := by rw [← hw.2.2.2.2.2]; exact wraps_u64 _ hw.1.1 (by have := hw.1.2; omega)
  have HV := Lib.hid hw.1
  clear hw e
  have k0 : (0 : Int) ≤ k := by omega
  have k1 : (k : Int) < n := by omega
  go_enter Try.func28, Try.ntmps28
  go_wp2_with fail
  refine (ybyte_t _ _ _ _ _ _ k j h E.out hj hk).mono ?_
  rw [X.out, Y.out]
  rintro e w1 ⟨rfl, m, rfl⟩
  go_wp2_with fail
  refine (PT.out _).mono ?_
  rintro e w1 ⟨rfl, rfl⟩
  go_wp2_with fail
  refine still_tail 25 (by kernel_rfl) (by kernel_rfl) ?_
  intro W hW
  have hc' : W.cell? ⟨g, k, none⟩ = some (.int .u64 x) := by rw [hW]; exact hc
  have hs' : W.cell? ⟨p, 0, none⟩ = some (.slice (some ⟨g, 0, none⟩) n n) := by rw [hW]; exact hs
  have hz' : W.frozen? ⟨g, k, none⟩ = false := by rw [hW]; exact hz
  have HW := Lib.hid hW
  clear hW
  simp only [List.take_succ_cons, List.take_zero, List.drop_succ_cons, List.drop_zero]
  repeat still_step
  try refine wpStill_nil ?_
  go_wp2_with fail
  go_ret
  have hY : isY W p g n F := by rw [HW.out]; exact (h.drewN m).drewN 1
  have hB : But w.heap.size g w W := by rw [HW.out]; exact ⟨rfl, rfl, rfl, Nat.le_refl _, fun _ _ _ => rfl⟩
  exact ⟨rfl, hY.set k v hk HV.out, hB.set _ _⟩

/-- Cas. -/
theorem ycas_f (w : World) (p g n : Nat) (F : Nat → Int) (at' old x : Int) (h : isY w p g n F) (hn : at' < 0 ∨ 8 * n ≤ at' ∨ at' % 8 ≠ 0) :
    Calls Try.prog 29 #[.pointer (some ⟨p, 0, none⟩), .int .i64 at', .int .u64 old, .int .u64 x] w fun e w' => e = .returned (.tuple #[.bool false, .int .i64 1]) ∧ w = w' := by
  have H := Lib.hid hn
  clear hn
  go_enter Try.func29, Try.ntmps29
  go_wp2_with fail
  refine (yword_f _ _ _ _ _ _ h H.out).mono ?_
  rintro e w' ⟨rfl, rfl⟩
  go_wp2_with fail
  go_ret2; exact ⟨rfl, rfl⟩
theorem ycas_n (w : World) (p g n : Nat) (F : Nat → Int) (at' old x : Int) (k : Nat) (h : isY w p g n F) (e : at' = 8 * k) (hk : k < n) (hne : F k ≠ old) :
    Calls Try.prog 29 #[.pointer (some ⟨p, 0, none⟩), .int .i64 at', .int .u64 old, .int .u64 x] w fun e w' => e = .returned (.tuple #[.bool false, .int .i64 0]) ∧ w = w' := by
  have E := Lib.hid e
  have hb : (F k == old) = false := by simp; exact hne
  clear e
  go_enter Try.func29, Try.ntmps29
  go_wp2_with fail
  refine (yword_t _ _ _ _ _ _ k h E.out hk).mono ?_
  rintro e w' ⟨rfl, rfl⟩
  go_wp2_with fail
  go_ret2; exact ⟨rfl, rfl⟩
theorem ycas_t (w : World) (p g n : Nat) (F : Nat → Int) (at' old x : Int) (k : Nat) (h : isY w p g n F) (e : at' = 8 * k) (hk : k < n) (hx : inU x) (heq : F k = old) :
    Calls Try.prog 29 #[.pointer (some ⟨p, 0, none⟩), .int .i64 at', .int .u64 old, .int .u64 x] w fun e w' => e = .returned (.tuple #[.bool true, .int .i64 0]) ∧ isY w' p g n (upd F k x) ∧ But w.heap.size g w w' := by
  have E := Lib.hid e
  have Q := Lib.hid heq
  clear e heq
  go_enter Try.func29, Try.ntmps29
  go_wp2_with fail
  refine (yword_t _ _ _ _ _ _ k h E.out hk).mono ?_
  rintro e w' ⟨rfl, rfl⟩
  rw [Q.out]
  go_wp2_with fail
  refine (yput_t _ _ _ _ _ _ _ k h E.out hk hx).mono ?_
  rintro e w' ⟨rfl, h', hb'⟩
  go_wp2_with fail
  go_ret2; exact ⟨rfl, h', hb'⟩

end Go.Proofs.Ytahkplakdbbmmaa
