/- Contracts of the functions of package arena. -/
import Derived.Test.YtahkplakdbbmmaaRows
import Derived.Test.YtahkplakdbbmmaaMem
import Derived.Test.YtahkplakdbbmmaaBase
import Derived.Lib.Hide
namespace Go.Proofs.Ytahkplakdbbmmaa
set_option linter.unusedVariables false
set_option linter.unusedSimpArgs false
open Go.RowKit

/-- An arena: a pointer to a slice of n bytes, in a block of their own. -/
structure isArena (w : World) (p g n : Nat) (f : Nat → Int) : Prop where
  head : w.heap[p]? = some (.cells #[.slice (some ⟨g, 0, none⟩) n n] 90 (0, 0))
  row : isRow w g .u8 5 n f
  ne : p ≠ g
  most : n ≤ 65536
  fits : ∀ i, 0 ≤ f i ∧ f i ≤ 255
theorem isArena.slice {w : World} {p g n : Nat} {f : Nat → Int} (h : isArena w p g n f) : w.cell? ⟨p, 0, none⟩ = some (.slice (some ⟨g, 0, none⟩) n n) := by
  rw [cell_of_row w p 0 _ _ _ h.head]; rfl

theorem is_t (w : World) (p g n : Nat) (f : Nat → Int) (at' : Int) (h : isArena w p g n f) (h0 : 0 ≤ at') (h1 : at' + 8 ≤ n) (h8 : at' % 8 = 0) :
    Calls Try.prog 48 #[.pointer (some ⟨p, 0, none⟩), .int .i64 at'] w fun e w' => e = .returned (.bool true) ∧ w = w' := by
  have hs := h.slice
  have hm := h.most
  have hb : (at' % 8 == 0) = true := by simpa using h8
  clear h8 h
  go_enter Try.func48, Try.ntmps48
  go_wp2_with (go_at_call 47; refine (within_t _ _ _ _ (by omega) (by omega)).mono ?_; rintro e w' ⟨rfl, rfl⟩)
  go_ret; exact ⟨rfl, rfl⟩
theorem is_f (w : World) (p g n : Nat) (f : Nat → Int) (at' : Int) (h : isArena w p g n f) (hn : at' < 0 ∨ n < at' + 8 ∨ at' % 8 ≠ 0) :
    Calls Try.prog 48 #[.pointer (some ⟨p, 0, none⟩), .int .i64 at'] w fun e w' => e = .returned (.bool false) ∧ w = w' := by
  have hs := h.slice
  have hm := h.most
  clear h
  by_cases c : 0 ≤ at' ∧ at' ≤ (n : Int) - 8
  · have hb : (at' % 8 == 0) = false := by simp; omega
    clear hn
    go_enter Try.func48, Try.ntmps48
    go_wp2_with (go_at_call 47; refine (within_t _ _ _ _ (by omega) (by omega)).mono ?_; rintro e w' ⟨rfl, rfl⟩)
    go_ret; exact ⟨rfl, rfl⟩
  · clear hn
    go_enter Try.func48, Try.ntmps48
    go_wp2_with (go_at_call 47; refine (within_f _ _ _ _ (by omega)).mono ?_; rintro e w' ⟨rfl, rfl⟩)
    go_ret; exact ⟨rfl, rfl⟩

theorem len_t (w : World) (p g n : Nat) (f : Nat → Int) (h : isArena w p g n f) :
    Calls Try.prog 16 #[.pointer (some ⟨p, 0, none⟩)] w fun e w' => e = .returned (.int .i64 n) ∧ w = w' := by
  have hs := h.slice
  clear h
  go_enter Try.func16, Try.ntmps16
  go_wp2_with fail
  go_ret; exact ⟨rfl, rfl⟩

theorem byte_t (w : World) (p g n : Nat) (f : Nat → Int) (at' : Int) (h : isArena w p g n f) (h0 : 0 ≤ at') (h1 : at' < n) :
    Calls Try.prog 17 #[.pointer (some ⟨p, 0, none⟩), .int .i64 at'] w fun e w' => e = .returned (.tuple #[.int .u8 (f at'.toNat), .int .i64 0]) ∧ w = w' := by
  have hs := h.slice
  have hm := h.most
  have hc := h.row.cell at'.toNat (by omega)
  clear h
  go_enter Try.func17, Try.ntmps17
  go_wp2_with (go_at_call 47; refine (within_t _ _ _ _ (by omega) (by omega)).mono ?_; rintro e w' ⟨rfl, rfl⟩)
  go_ret2; exact ⟨rfl, rfl⟩

theorem byte_f (w : World) (p g n : Nat) (f : Nat → Int) (at' : Int) (h : isArena w p g n f) (hn : at' < 0 ∨ n ≤ at') :
    Calls Try.prog 17 #[.pointer (some ⟨p, 0, none⟩), .int .i64 at'] w fun e w' => e = .returned (.tuple #[.int .u8 0, .int .i64 1]) ∧ w = w' := by
  have hs := h.slice
  have hm := h.most
  clear h
  go_enter Try.func17, Try.ntmps17
  go_wp2_with (go_at_call 47; refine (within_f _ _ _ _ (by omega)).mono ?_; rintro e w' ⟨rfl, rfl⟩)
  go_ret2; exact ⟨rfl, rfl⟩

/-- The number that the first k bytes behind a place are, the lowest first. -/
def wsum (f : Nat → Int) (a : Nat) : Nat → Int
  | 0 => 0
  | k + 1 => wsum f a k + f (a + k) * 256 ^ k
theorem wsum_bd (f : Nat → Int) (hf : ∀ i, 0 ≤ f i ∧ f i ≤ 255) (a k : Nat) : 0 ≤ wsum f a k ∧ wsum f a k < 256 ^ k := by
  induction k with
  | zero => simp [wsum]
  | succ k ih =>
    have h := hf (a + k)
    have hp : (0 : Int) < 256 ^ k := Int.pow_pos (by decide)
    have h1 : 0 ≤ f (a + k) * 256 ^ k := Int.mul_nonneg h.1 (by omega)
    have h2 : f (a + k) * 256 ^ k ≤ 255 * 256 ^ k := Int.mul_le_mul_of_nonneg_right h.2 (by omega)
    rw [wsum, Int.pow_succ]
    omega
/-- The word at a place. -/
def wordAt (f : Nat → Int) (a : Nat) : Int := wsum f a 8
theorem wordAt_bd (f : Nat → Int) (hf : ∀ i, 0 ≤ f i ∧ f i ≤ 255) (a : Nat) : inU (wordAt f a) := by
  have := wsum_bd f hf a 8
  unfold wordAt inU
  omega
theorem pow_le8 (k : Nat) (hk : k ≤ 8) : (256 : Int) ^ k ≤ 18446744073709551616 := by
  rcases (by omega : k = 0 ∨ k = 1 ∨ k = 2 ∨ k = 3 ∨ k = 4 ∨ k = 5 ∨ k = 6 ∨ k = 7 ∨ k = 8) with rfl | rfl | rfl | rfl | rfl | rfl | rfl | rfl | rfl <;> decide
/-- One byte more. -/
theorem wsum_join (f : Nat → Int) (hf : ∀ i, 0 ≤ f i ∧ f i ≤ 255) (a k : Nat) (hk : k < 8) :
    bits .or .u64 (wsum f a k) (f (a + k) * 256 ^ k) = wsum f a (k + 1) := by
  have h1 := wsum_bd f hf a k
  have h2 := hf (a + k)
  have hb := wsum_bd f hf a (k + 1)
  have hp : (256 : Int) ^ k = 2 ^ (8 * k) := by rw [Int.pow_mul]; rfl
  have hj := u64_join' (8 * k) (f (a + k) * 256 ^ k) (wsum f a k)
  rw [← hp] at hj
  rw [hj]
  · rfl
  · exact Int.mul_nonneg h2.1 (Int.le_of_lt (Int.pow_pos (by decide)))
  · exact Int.mul_emod_left _ _
  · have := pow_le8 (k + 1) (by omega)
    rw [wsum] at hb
    omega
  · exact h1.1
  · exact h1.2
  · have := pow_le8 k (by omega)
    omega

theorem shl_byte (v : Int) (k : Nat) (hv : 0 ≤ v ∧ v ≤ 255) (hk : k < 8) : IntKind.u64.wrap (v * 2 ^ (8 * (k : Int)).toNat) = v * 256 ^ k := by
  rcases (by omega : k = 0 ∨ k = 1 ∨ k = 2 ∨ k = 3 ∨ k = 4 ∨ k = 5 ∨ k = 6 ∨ k = 7) with rfl | rfl | rfl | rfl | rfl | rfl | rfl | rfl
  all_goals (simp [IntKind.wrap_u64]; omega)

theorem word_f (w : World) (p g n : Nat) (f : Nat → Int) (at' : Int) (h : isArena w p g n f) (hn : at' < 0 ∨ n < at' + 8 ∨ at' % 8 ≠ 0) :
    Calls Try.prog 18 #[.pointer (some ⟨p, 0, none⟩), .int .i64 at'] w fun e w' => e = .returned (.tuple #[.int .u64 0, .int .i64 1]) ∧ w = w' := by
  have H := Lib.hid hn
  clear hn
  go_enter Try.func18, Try.ntmps18
  go_wp2_with (go_at_call 48; refine (is_f _ _ _ _ _ _ h H.out).mono ?_; rintro e w' ⟨rfl, rfl⟩)
  go_ret2; exact ⟨rfl, rfl⟩

set_option maxHeartbeats 1000000 in
theorem word_t (w : World) (p g n : Nat) (f : Nat → Int) (at' : Int) (h : isArena w p g n f) (h0 : 0 ≤ at') (h1 : at' + 8 ≤ n) (h8 : at' % 8 = 0) :
    Calls Try.prog 18 #[.pointer (some ⟨p, 0, none⟩), .int .i64 at'] w fun e w' => e = .returned (.tuple #[.int .u64 (wordAt f at'.toNat), .int .i64 0]) ∧ w = w' := by
  have hs := h.slice
  have hm := h.most
  have hf := Lib.hid h.fits
  have hr := Lib.hid h.row
  have H8 := Lib.hid h8
  clear h8
  go_enter Try.func18, Try.ntmps18
  go_wp2_with (go_at_call 48; refine (is_t _ _ _ _ _ _ h h0 h1 H8.out).mono ?_; rintro e w' ⟨rfl, rfl⟩)
  go_loop [6, 12] (fun x i => ∃ k : Nat, k ≤ 8 ∧ i = .int .i64 k ∧ x = .int .u64 (wsum f at'.toNat k)) (fun _ i => 8 - (intOf i).toNat)
  case atStart => exact ⟨0, by omega, rfl, rfl⟩
  case round =>
    obtain ⟨k, hk, rfl, rfl⟩ := hrel
    by_cases hlt : k < 8
    · have hc := (hr.out).cell (at'.toNat + k) (by omega)
      have hj := wsum_join f hf.out at'.toNat k hlt
      have hv := hf.out (at'.toNat + k)
      obtain ⟨v, hve⟩ : ∃ v : Int, v = f (at'.toNat + k) := ⟨_, rfl⟩
      rw [← hve] at hc hj hv
      clear hve
      have hwr := shl_byte v k hv hlt
      rw [show at'.toNat + k = (at' + (k : Int)).toNat from by omega] at hc
      go_wp2_with fail
      go_round
      case rel => exact ⟨k + 1, by omega, by go_num, rfl⟩
      case measure => simp [intOf]; omega
    · obtain rfl : k = 8 := by omega
      go_wp2_with fail
      go_ret2; exact ⟨rfl, rfl⟩

/-- The bytes of a number put behind a place, the lowest first; k of them. -/
def putK (f : Nat → Int) (a : Nat) (x : Int) (k : Nat) : Nat → Int := fun j => if a ≤ j ∧ j < a + k then x / 256 ^ (j - a) % 256 else f j
theorem putK_zero (f : Nat → Int) (a : Nat) (x : Int) : putK f a x 0 = f := by
  funext j; unfold putK; rw [if_neg (by omega)]
theorem putK_succ (f : Nat → Int) (a : Nat) (x : Int) (k : Nat) : upd (putK f a x k) (a + k) (x / 256 ^ k % 256) = putK f a x (k + 1) := by
  funext j
  unfold upd putK
  by_cases h : j = a + k
  · subst h; rw [if_pos rfl, if_pos (by omega), Nat.add_sub_cancel_left]
  · rw [if_neg h]
    by_cases h2 : a ≤ j ∧ j < a + k
    · rw [if_pos h2, if_pos (by omega)]
    · rw [if_neg h2, if_neg (by omega)]
theorem putK_fits (f : Nat → Int) (a : Nat) (x : Int) (k : Nat) (hf : ∀ i, 0 ≤ f i ∧ f i ≤ 255) : ∀ i, 0 ≤ putK f a x k i ∧ putK f a x k i ≤ 255 := by
  intro i; unfold putK; split
  · omega
  · exact hf i
abbrev putW (f : Nat → Int) (a : Nat) (x : Int) : Nat → Int := putK f a x 8

theorem put_f (w : World) (p g n : Nat) (f : Nat → Int) (at' x : Int) (h : isArena w p g n f) (hn : at' < 0 ∨ n < at' + 8 ∨ at' % 8 ≠ 0) :
    Calls Try.prog 19 #[.pointer (some ⟨p, 0, none⟩), .int .i64 at', .int .u64 x] w fun e w' => e = .returned (.int .i64 1) ∧ w = w' := by
  have H := Lib.hid hn
  clear hn
  go_enter Try.func19, Try.ntmps19
  go_wp2_with (go_at_call 48; refine (is_f _ _ _ _ _ _ h H.out).mono ?_; rintro e w' ⟨rfl, rfl⟩)
  go_ret; exact ⟨rfl, rfl⟩

set_option maxHeartbeats 1000000 in
theorem put_t (w : World) (p g n : Nat) (f : Nat → Int) (at' x : Int) (h : isArena w p g n f) (h0 : 0 ≤ at') (h1 : at' + 8 ≤ n) (h8 : at' % 8 = 0) (hx : inU x) :
    Calls Try.prog 19 #[.pointer (some ⟨p, 0, none⟩), .int .i64 at', .int .u64 x] w fun e w' => e = .returned (.int .i64 0) ∧ isArena w' p g n (putW f at'.toNat x) ∧ But w.heap.size g w w' := by
  have hs := h.slice
  have hm := h.most
  have hr := Lib.hid h.row
  have H8 := Lib.hid h8
  have Hp := Lib.hid h.head
  have Hne := Lib.hid h.ne
  have Hf := Lib.hid h.fits
  have hpl : p < w.heap.size := (Array.getElem?_eq_some_iff.1 h.head).1
  clear h8
  go_enter Try.func19, Try.ntmps19
  go_wp2_with (go_at_call 48; refine (is_t _ _ _ _ _ _ h h0 h1 H8.out).mono ?_; rintro e w' ⟨rfl, rfl⟩)
  go_loopw [12] (fun i wr => ∃ k : Nat, k ≤ 8 ∧ i = .int .i64 k ∧ isRow wr g .u8 5 n (putK f at'.toNat x k) ∧ But w.heap.size g w wr) (fun i _ => 8 - (intOf i).toNat)
  case atStart => exact ⟨0, by omega, rfl, by rw [putK_zero]; exact hr.out, But.refl _ _ _⟩
  case round =>
    obtain ⟨k, hk, rfl, hrow, hbut⟩ := hrel
    have Hrow := Lib.hid hrow
    have Hbut := Lib.hid hbut
    have hsr : wr.cell? ⟨p, 0, none⟩ = some (.slice (some ⟨g, 0, none⟩) n n) := by rw [hbut.cell hpl Hne.out]; exact hs
    clear hrow hbut
    by_cases hlt : k < 8
    · have hc := (Hrow.out).cell (at'.toNat + k) (by omega)
      have hfz := (Hrow.out).free (at'.toNat + k)
      rw [show at'.toNat + k = (at' + (k : Int)).toNat from by omega] at hc hfz
      have hlt' : (decide ((k : Int) < 8)) = true := by simp; omega
      go_wp2_with fail
      go_region
      go_wp2_with fail
      go_roundw
      case rel =>
        refine ⟨k + 1, by omega, by go_num, ?_, (Hbut.out.set _ _).drew⟩
        have e := (Hrow.out.set (at'.toNat + k) (x / 256 ^ k % 256)).drew
        rw [putK_succ] at e
        rw [show (at' + (k : Int)).toNat = at'.toNat + k from by omega, show (2 : Int) ^ (8 * k) = 256 ^ k from by rw [Int.pow_mul]; rfl]
        exact e
      case measure => simp [intOf]; omega
    · obtain rfl : k = 8 := by omega
      go_wp2_with fail
      go_ret; exact ⟨rfl, ⟨by rw [Hbut.out.block p hpl Hne.out]; exact Hp.out, Hrow.out, Hne.out, hm, putK_fits _ _ _ _ Hf.out⟩, Hbut.out⟩

theorem upd_fits (f : Nat → Int) (j : Nat) (v : Int) (hv : 0 ≤ v ∧ v ≤ 255) (hf : ∀ i, 0 ≤ f i ∧ f i ≤ 255) : ∀ i, 0 ≤ upd f j v i ∧ upd f j v i ≤ 255 := by
  intro i; unfold upd; split
  · exact hv
  · exact hf i
/-- An arena whose row alone has changed. -/
theorem isArena.now {w w' : World} {p g n : Nat} {f f' : Nat → Int} (h : isArena w p g n f) (hb : But w.heap.size g w w') (hr : isRow w' g .u8 5 n f') (hf : ∀ i, 0 ≤ f' i ∧ f' i ≤ 255) : isArena w' p g n f' :=
  ⟨by rw [hb.block p (Array.getElem?_eq_some_iff.1 h.head).1 h.ne]; exact h.head, hr, h.ne, h.most, hf⟩
theorem isArena.below {w w' : World} {p g n B : Nat} {f : Nat → Int} (h : isArena w p g n f) (hb : Below B w w') (hp : p < B) (hg : g < B) : isArena w' p g n f :=
  ⟨by rw [hb.block p hp]; exact h.head, Below.row hb h.row hg, h.ne, h.most, h.fits⟩
theorem isArena.but {w w' : World} {p g n B c : Nat} {f : Nat → Int} (h : isArena w p g n f) (hb : But B c w w') (hp : p < B) (hg : g < B) (hpc : p ≠ c) (hgc : g ≠ c) : isArena w' p g n f :=
  ⟨by rw [hb.block p hp hpc]; exact h.head, hb.row h.row hg hgc, h.ne, h.most, h.fits⟩

theorem putByte_f (w : World) (p g n : Nat) (f : Nat → Int) (at' v : Int) (h : isArena w p g n f) (hn : at' < 0 ∨ n ≤ at') :
    Calls Try.prog 20 #[.pointer (some ⟨p, 0, none⟩), .int .i64 at', .int .u8 v] w fun e w' => e = .returned (.int .i64 1) ∧ w = w' := by
  have hs := h.slice
  have hm := h.most
  clear h
  go_enter Try.func20, Try.ntmps20
  go_wp2_with (go_at_call 47; refine (within_f _ _ _ _ (by omega)).mono ?_; rintro e w' ⟨rfl, rfl⟩)
  go_ret; exact ⟨rfl, rfl⟩

theorem putByte_t (w : World) (p g n : Nat) (f : Nat → Int) (at' v : Int) (h : isArena w p g n f) (h0 : 0 ≤ at') (h1 : at' < n) (hv : 0 ≤ v ∧ v ≤ 255) :
    Calls Try.prog 20 #[.pointer (some ⟨p, 0, none⟩), .int .i64 at', .int .u8 v] w fun e w' => e = .returned (.int .i64 0) ∧ isArena w' p g n (upd f at'.toNat v) ∧ But w.heap.size g w w' := by
  have hs := h.slice
  have hm := h.most
  have hc := h.row.cell at'.toNat (by omega)
  have hz := h.row.free at'.toNat
  have H := Lib.hid h
  clear h
  go_enter Try.func20, Try.ntmps20
  go_wp2_with (go_at_call 47; refine (within_t _ _ _ _ (by omega) (by omega)).mono ?_; rintro e w' ⟨rfl, rfl⟩)
  go_ret
  have hb : But w.heap.size g w (w.setCell ⟨g, at'.toNat, none⟩ (.int .u8 v)) := (But.refl _ _ _).set _ _
  exact ⟨rfl, H.out.now hb (H.out.row.set _ _) (upd_fits _ _ _ hv H.out.fits), hb⟩

theorem cas_f (w : World) (p g n : Nat) (f : Nat → Int) (at' old x : Int) (h : isArena w p g n f) (hn : at' < 0 ∨ n < at' + 8 ∨ at' % 8 ≠ 0) :
    Calls Try.prog 22 #[.pointer (some ⟨p, 0, none⟩), .int .i64 at', .int .u64 old, .int .u64 x] w fun e w' => e = .returned (.tuple #[.bool false, .int .i64 1]) ∧ w = w' := by
  have H := Lib.hid hn
  clear hn
  go_enter Try.func22, Try.ntmps22
  go_wp2_with (go_at_call 18; refine (word_f _ _ _ _ _ _ h H.out).mono ?_; rintro e w' ⟨rfl, rfl⟩)
  go_ret2; exact ⟨rfl, rfl⟩
theorem cas_n (w : World) (p g n : Nat) (f : Nat → Int) (at' old x : Int) (h : isArena w p g n f) (h0 : 0 ≤ at') (h1 : at' + 8 ≤ n) (h8 : at' % 8 = 0) (hw : wordAt f at'.toNat ≠ old) :
    Calls Try.prog 22 #[.pointer (some ⟨p, 0, none⟩), .int .i64 at', .int .u64 old, .int .u64 x] w fun e w' => e = .returned (.tuple #[.bool false, .int .i64 0]) ∧ w = w' := by
  have H8 := Lib.hid h8
  clear h8
  have hb : (wordAt f at'.toNat == old) = false := by simp; exact hw
  go_enter Try.func22, Try.ntmps22
  go_wp2_with (go_at_call 18; refine (word_t _ _ _ _ _ _ h h0 h1 H8.out).mono ?_; rintro e w' ⟨rfl, rfl⟩)
  go_ret2; exact ⟨rfl, rfl⟩
theorem cas_t (w : World) (p g n : Nat) (f : Nat → Int) (at' x : Int) (h : isArena w p g n f) (h0 : 0 ≤ at') (h1 : at' + 8 ≤ n) (h8 : at' % 8 = 0) (hx : inU x) :
    Calls Try.prog 22 #[.pointer (some ⟨p, 0, none⟩), .int .i64 at', .int .u64 (wordAt f at'.toNat), .int .u64 x] w fun e w' => e = .returned (.tuple #[.bool true, .int .i64 0]) ∧ isArena w' p g n (putW f at'.toNat x) ∧ But w.heap.size g w w' := by
  have H8 := Lib.hid h8
  clear h8
  go_enter Try.func22, Try.ntmps22
  go_wp2_with (first
    | (go_at_call 18; refine (word_t _ _ _ _ _ _ h h0 h1 H8.out).mono ?_; rintro e w' ⟨rfl, rfl⟩)
    | (go_at_call 19; refine (put_t _ _ _ _ _ _ _ h h0 h1 H8.out hx).mono ?_; rintro e w' ⟨rfl, h', hb'⟩))
  go_ret2; exact ⟨rfl, h', hb'⟩

end Go.Proofs.Ytahkplakdbbmmaa
