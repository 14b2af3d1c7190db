/- arena.New, Zero, Claim. -/
import Derived.Test.YtahkplakdbbmmaaArena
import Derived.Deep.OwnRows
import Derived.Lib.SliceRun
namespace Go.Proofs.Ytahkplakdbbmmaa
set_option linter.unusedVariables false
set_option linter.unusedSimpArgs false
open Go.RowKit

theorem info_u8 : (Try.prog.info? 5).map (fun i => (i.zero, i.size, i.bytes)) = some (some (.int .u8 0), 1, 1) := by kernel_rfl
theorem under_bytes : Try.prog.underlying 44 = some (.slice 5) := by kernel_rfl
theorem zero_u8 : ∀ w, (zeroValue 5).run Try.prog w = .ok (.int .u8 0) w := by
  first | kernel_rfl | exact Try.zeroValue5 w | exact Try.zeroValue5 | simp [Try.zeroValue5] | trace_state
theorem pushed (a : Array Obj) (x : Obj) (i : Nat) (h : i = a.size) : (a.push x)[i]? = some x := by subst h; simp
theorem isRow.setCells {g : Nat} {k : IntKind} {t : TypeId} {n : Nat} (v : Int) : ∀ (m o : Nat) (w : World) (f : Nat → Int), isRow w g k t n f → isRow (w.setCells g o (List.replicate m (.int k v))) g k t n (fun j => if o ≤ j ∧ j < o + m then v else f j)
  | 0, o, w, f, h => h.ext fun i _ => by rw [if_neg (by omega)]
  | m + 1, o, w, f, h => by
    rw [List.replicate_succ, World.setCells]
    refine (isRow.setCells v m (o + 1) _ _ (h.set o v)).ext fun i _ => ?_
    unfold upd
    by_cases c : i = o
    · subst c; rw [if_neg (by omega), if_pos rfl, if_pos (by omega)]
    · rw [if_neg c]
      by_cases d : o + 1 ≤ i ∧ i < o + 1 + m
      · rw [if_pos d, if_pos (by omega)]
      · rw [if_neg d, if_neg (by omega)]
theorem But.setCells {B g : Nat} {a : World} : ∀ (l : List Value) (o : Nat) (w : World), But B g a w → But B g a (w.setCells g o l)
  | [], _, _, h => h
  | v :: l, o, w, h => by rw [World.setCells]; exact But.setCells l (o + 1) _ (h.set o v)
theorem made_row (k : IntKind) (n : Nat) : madeCells #[.int k 0] n = cellsF k n (fun _ => 0) := by
  apply Array.ext_getElem?
  intro i
  by_cases h : i < n
  · rw [cellsF_get _ _ _ _ h]; simp [madeCells, h, Nat.mod_one]
  · rw [cellsF_none _ _ _ _ (by omega)]; simp [madeCells]; omega

theorem new_f (n : Int) (w : World) (h : n < 0 ∨ 65536 < n ∨ n % 8 ≠ 0) :
    Calls Try.prog 15 #[.int .i64 n] w fun e w' => e = .returned (.tuple #[.pointer none, .int .i64 1]) ∧ w = w' := by
  by_cases c : 0 ≤ n ∧ n ≤ 65536
  · have hb : (n % 8 == 0) = false := by simp; omega
    clear h
    go_enter Try.func15, Try.ntmps15
    go_wp2_with (go_at_call 47; refine (within_t _ _ _ _ (by omega) (by omega)).mono ?_; rintro e w' ⟨rfl, rfl⟩)
    go_ret2; exact ⟨rfl, rfl⟩
  · clear h
    go_enter Try.func15, Try.ntmps15
    go_wp2_with (go_at_call 47; refine (within_f _ _ _ _ (by omega)).mono ?_; rintro e w' ⟨rfl, rfl⟩)
    go_ret2; exact ⟨rfl, rfl⟩

theorem new_t (n : Nat) (w : World) (h : n ≤ 65536) (h8 : n % 8 = 0) :
    Calls Try.prog 15 #[.int .i64 n] w fun e w' => ∃ p g, e = .returned (.tuple #[.pointer (some ⟨p, 0, none⟩), .int .i64 0]) ∧ isArena w' p g n (fun _ => 0) ∧ Below w.heap.size w w' ∧ w.heap.size ≤ p ∧ w.heap.size ≤ g := by
  have hb : ((n : Int) % 8 == 0) = true := by simp; omega
  clear h8
  have hmk := run_make_row' (P := Try.prog) 44 5 (.int .u8 0) 1 under_bytes info_u8 rfl .i64 .i64 n (by omega) (by omega)
  go_enter Try.func15, Try.ntmps15
  go_wp2_with (go_at_call 47; refine (within_t _ _ _ _ (by omega) (by omega)).mono ?_; rintro e w' ⟨rfl, rfl⟩)
  go_ret2
  refine ⟨w.heap.size + 1, w.heap.size, rfl, ⟨?_, ?_, by omega, h, fun _ => by omega⟩, ?_, by omega, by omega⟩
  · exact pushed _ _ _ (by simp)
  · rw [made_row]; unfold isRow
    show ((w.heap.push _).push _)[w.heap.size]? = _
    simp [Array.getElem?_push]
  · repeat (first | (with_reducible exact Below.refl _ _) | ((with_reducible refine Below.setCell ?_ ?_ _); rotate_left; (focus (first | omega | (simp; done) | (simp; omega)))) | ((with_reducible refine Below.alloc ?_ ?_ _); rotate_left; (focus (first | omega | (simp; done) | (simp; omega)))) | (with_reducible refine Below.drew ?_) | (with_reducible refine below_drewN' ?_ _) | ((refine Below.trans ?_ (Below.mono (by with_reducible assumption) ?_)); rotate_left; (focus (first | omega | (simp; done) | (simp; omega)))))

/-- Claim. -/
theorem claim_f (w : World) (p g n : Nat) (f : Nat → Int) (at' y m b x1 x2 : Int) (h : isArena w p g n f) (hn : at' < 0 ∨ n < at' + 8 ∨ at' % 8 ≠ 0) :
    Calls Try.prog 24 #[.pointer (some ⟨p, 0, none⟩), .int .i64 at', .int .u64 y, .int .u64 m, .int .i64 b, .int .u64 x1, .int .u64 x2] w fun e w' => e = .returned (.tuple #[.int .u64 0, .bool false, .int .i64 1]) ∧ w = w' := by
  have H := Lib.hid hn
  clear hn
  go_enter Try.func24, Try.ntmps24
  go_wp2_with (go_at_call 18; refine (word_f _ _ _ _ _ _ h H.out).mono ?_; rintro e w' ⟨rfl, rfl⟩)
  go_ret3; exact ⟨rfl, rfl⟩

theorem zero_0 (w : World) (p g n : Nat) (f : Nat → Int) (at' : Int) (h : isArena w p g n f) :
    Calls Try.prog 23 #[.pointer (some ⟨p, 0, none⟩), .int .i64 at', .int .i64 0] w fun e w' => e = .returned (.int .i64 0) ∧ w = w' := by
  clear h
  go_enter Try.func23, Try.ntmps23
  go_wp2_with fail
  go_ret; exact ⟨rfl, rfl⟩
theorem zero_f (w : World) (p g n : Nat) (f : Nat → Int) (at' k : Int) (h : isArena w p g n f) (hk : -9223372036854775808 ≤ k ∧ k ≤ 9223372036854775807) (hn : k < 0 ∨ (k ≠ 0 ∧ ((at' < 0 ∨ n < at' + 8 ∨ at' % 8 ≠ 0) ∨ (0 ≤ at' ∧ at' + 8 ≤ n ∧ at' % 8 = 0 ∧ (n - at') / 8 < k)))) :
    Calls Try.prog 23 #[.pointer (some ⟨p, 0, none⟩), .int .i64 at', .int .i64 k] w fun e w' => e = .returned (.int .i64 1) ∧ w = w' := by
  have hs := h.slice
  have hm := h.most
  by_cases c : k < 0
  · have hb : (k == 0) = false := by simp; omega
    clear h hn
    go_enter Try.func23, Try.ntmps23
    go_wp2_with fail
    go_ret; exact ⟨rfl, rfl⟩
  · obtain ⟨hk0, hn⟩ := (hn.resolve_left c)
    have hb : (k == 0) = false := by simp; omega
    rcases hn with hn | ⟨h0, h1, h8, hd⟩
    · have H := Lib.hid hn
      clear hn
      go_enter Try.func23, Try.ntmps23
      go_wp2_with (go_at_call 48; refine (is_f _ _ _ _ _ _ h H.out).mono ?_; rintro e w' ⟨rfl, rfl⟩)
      go_ret; exact ⟨rfl, rfl⟩
    · have H8 := Lib.hid h8
      clear h8
      go_enter Try.func23, Try.ntmps23
      go_wp2_with (go_at_call 48; refine (is_t _ _ _ _ _ _ h h0 h1 H8.out).mono ?_; rintro e w' ⟨rfl, rfl⟩)
      go_ret; exact ⟨rfl, rfl⟩
set_option maxRecDepth 100000 in
theorem zero_t (w : World) (p g n : Nat) (f : Nat → Int) (at' : Int) (k : Nat) (h : isArena w p g n f) (hk : 0 < k) (h0 : 0 ≤ at') (h1 : at' + 8 * k ≤ n) (h8 : at' % 8 = 0) :
    Calls Try.prog 23 #[.pointer (some ⟨p, 0, none⟩), .int .i64 at', .int .i64 k] w fun e w' => e = .returned (.int .i64 0) ∧ isArena w' p g n (fun j => if at'.toNat ≤ j ∧ j < at'.toNat + 8 * k then 0 else f j) ∧ But w.heap.size g w w' := by
  have hs := h.slice
  have hm := h.most
  have hb : ((k : Int) == 0) = false := by simp; omega
  have H8 := Lib.hid h8
  have Hk := Lib.hid hk
  have hcut : ¬ n = at'.toNat := by omega
  have H := Lib.hid h
  have hcl : ∀ ty, (Builtin.clear_ #[44] ty #[.slice (some ⟨g, at'.toNat, none⟩) ((at' + (k : Int) * 8).toNat - at'.toNat) (n - at'.toNat)]).run Try.prog w = .ok (.tuple #[]) (w.setCells g at'.toNat (List.replicate ((at' + (k : Int) * 8).toNat - at'.toNat) (.int .u8 0))) :=
    fun ty => Lib.run_clear_slice w _ _ ty _ under_bytes zero_u8 rfl rfl g at'.toNat _ _ (by omega) (fun j hj => by rw [h.row.cell _ (by omega)]; rfl) (fun j hj => h.row.free _)
  clear h8 hk
  go_enter Try.func23, Try.ntmps23
  go_wp2_with (go_at_call 48; refine (is_t _ _ _ _ _ _ h h0 (by have := Hk.out; omega) H8.out).mono ?_; rintro e w' ⟨rfl, rfl⟩)
  go_ret
  rw [show (at' + (k : Int) * 8).toNat - at'.toNat = 8 * k from by omega]
  have hb : But w.heap.size g w (w.setCells g at'.toNat (List.replicate (8 * k) (.int .u8 0))) := (But.refl _ _ _).setCells _ _ _
  exact ⟨rfl, H.out.now hb (H.out.row.setCells _ _ _ _ _) (by intro i; have := H.out.fits i; split <;> omega), hb⟩

theorem claim_n (w : World) (p g n : Nat) (f : Nat → Int) (at' y m b x1 x2 : Int) (h : isArena w p g n f) (h0 : 0 ≤ at') (h1 : at' + 8 ≤ n) (h8 : at' % 8 = 0) (hy : inU y) (hm' : inU m) (hc : m < wordAt f at'.toNat ∨ m - wordAt f at'.toNat < y) :
    Calls Try.prog 24 #[.pointer (some ⟨p, 0, none⟩), .int .i64 at', .int .u64 y, .int .u64 m, .int .i64 b, .int .u64 x1, .int .u64 x2] w fun e w' => e = .returned (.tuple #[.int .u64 (wordAt f at'.toNat), .bool false, .int .i64 0]) ∧ w = w' := by
  have H8 := Lib.hid h8
  clear h8
  have hb := wordAt_bd f h.fits at'.toNat
  generalize hv : wordAt f at'.toNat = v at *
  have Hv := Lib.hid hv
  clear hv
  unfold inU at *
  by_cases c : m < v
  · clear hc
    go_enter Try.func24, Try.ntmps24
    go_wp2_with (go_at_call 18; refine (word_t _ _ _ _ _ _ h h0 h1 H8.out).mono ?_; rintro e w' ⟨rfl, rfl⟩; rw [Hv.out])
    go_ret3; exact ⟨rfl, rfl⟩
  · have hc := hc.resolve_left c
    go_enter Try.func24, Try.ntmps24
    go_wp2_with (go_at_call 18; refine (word_t _ _ _ _ _ _ h h0 h1 H8.out).mono ?_; rintro e w' ⟨rfl, rfl⟩; rw [Hv.out])
    go_ret3; exact ⟨rfl, rfl⟩

/-- The place lies out, or one of the two words is none. -/
theorem claim_o (w : World) (p g n : Nat) (f : Nat → Int) (at' y m b x1 x2 : Int) (h : isArena w p g n f) (h0 : 0 ≤ at') (h1 : at' + 8 ≤ n) (h8 : at' % 8 = 0) (hy : inU y) (hm' : inU m) (hc : wordAt f at'.toNat ≤ m) (hc2 : y ≤ m - wordAt f at'.toNat)
    (hn : 65536 < wordAt f at'.toNat ∨ b < 0 ∨ 65536 < b ∨ n < b + wordAt f at'.toNat + 16 ∨ (b + wordAt f at'.toNat) % 8 ≠ 0) :
    Calls Try.prog 24 #[.pointer (some ⟨p, 0, none⟩), .int .i64 at', .int .u64 y, .int .u64 m, .int .i64 b, .int .u64 x1, .int .u64 x2] w fun e w' => e = .returned (.tuple #[.int .u64 0, .bool false, .int .i64 1]) ∧ w = w' := by
  have H8 := Lib.hid h8
  clear h8
  have hb := wordAt_bd f h.fits at'.toNat
  generalize hv : wordAt f at'.toNat = v at *
  have Hv := Lib.hid hv
  clear hv
  unfold inU at *
  by_cases c : 65536 < v
  · clear hn
    go_enter Try.func24, Try.ntmps24
    go_wp2_with (go_at_call 18; refine (word_t _ _ _ _ _ _ h h0 h1 H8.out).mono ?_; rintro e w' ⟨rfl, rfl⟩; rw [Hv.out])
    go_ret3; exact ⟨rfl, rfl⟩
  by_cases c2 : 0 ≤ b ∧ b ≤ 65536
  · have hn : n < b + v + 16 ∨ (b + v) % 8 ≠ 0 := by omega
    have Hn := Lib.hid hn
    clear hn
    by_cases c3 : b + v + 8 ≤ n ∧ (b + v) % 8 = 0
    · have H3 := Lib.hid c3.2
      have h3 := c3.1
      clear c3
      go_enter Try.func24, Try.ntmps24
      go_wp2_with (first
        | (go_at_call 18; refine (word_t _ _ _ _ _ _ h h0 h1 H8.out).mono ?_; rintro e w' ⟨rfl, rfl⟩; rw [Hv.out])
        | (go_at_call 47; refine (within_t _ _ _ _ (by omega) (by omega)).mono ?_; rintro e w' ⟨rfl, rfl⟩)
        | (go_at_call 48; refine (is_t _ _ _ _ _ _ h (by omega) (by omega) (by have := H3.out; omega)).mono ?_; rintro e w' ⟨rfl, rfl⟩)
        | (go_at_call 48; refine (is_f _ _ _ _ _ _ h (by have := H3.out; have := Hn.out; omega)).mono ?_; rintro e w' ⟨rfl, rfl⟩))
      go_ret3; exact ⟨rfl, rfl⟩
    · have H3 := Lib.hid c3
      clear c3
      go_enter Try.func24, Try.ntmps24
      go_wp2_with (first
        | (go_at_call 18; refine (word_t _ _ _ _ _ _ h h0 h1 H8.out).mono ?_; rintro e w' ⟨rfl, rfl⟩; rw [Hv.out])
        | (go_at_call 47; refine (within_t _ _ _ _ (by omega) (by omega)).mono ?_; rintro e w' ⟨rfl, rfl⟩)
        | (go_at_call 48; refine (is_f _ _ _ _ _ _ h (by have := H3.out; omega)).mono ?_; rintro e w' ⟨rfl, rfl⟩))
      go_ret3; exact ⟨rfl, rfl⟩
  · clear hn
    go_enter Try.func24, Try.ntmps24
    go_wp2_with (first
      | (go_at_call 18; refine (word_t _ _ _ _ _ _ h h0 h1 H8.out).mono ?_; rintro e w' ⟨rfl, rfl⟩; rw [Hv.out])
      | (go_at_call 47; refine (within_f _ _ _ _ (by omega)).mono ?_; rintro e w' ⟨rfl, rfl⟩))
    go_ret3; exact ⟨rfl, rfl⟩

end Go.Proofs.Ytahkplakdbbmmaa
