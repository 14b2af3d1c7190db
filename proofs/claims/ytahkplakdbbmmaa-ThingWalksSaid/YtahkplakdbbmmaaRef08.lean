/- Contracts of the reference of layer 8: At, Slot, Mark. -/
import Derived.Test.YtahkplakdbbmmaaRef02b
import Derived.Test.YtahkplakdbbmmaaThing
namespace Go.Proofs.Ytahkplakdbbmmaa
set_option linter.unusedVariables false
set_option linter.unusedSimpArgs false
open Go.RowKit

theorem yis_any (w : World) (p g n : Nat) (F : Nat → Int) (at' : Int) (h : isY w p g n F) : ∃ b : Bool,
    Calls Try.prog 49 #[.pointer (some ⟨p, 0, none⟩), .int .i64 at'] w fun e w' => e = .returned (.bool b) ∧ w = w' := by
  by_cases c : at' < 0 ∨ 8 * n ≤ at' ∨ at' % 8 ≠ 0
  · exact ⟨false, yis_f w p g n F at' h c⟩
  · exact ⟨true, yis_t w p g n F at' (at' / 8).toNat h (by omega) (by omega)⟩

set_option maxHeartbeats 1000000 in
theorem yat_t (w : World) (p g n : Nat) (V : Nat → Int) (a : Int) (k : Nat) (z l t : Int) (d : Bool) (s e : Int) (h : isY w p g n V) (ea : a = 8 * k) (hk : k + 1 < n) (o : isObj (V k) (V (k + 1)) z l t d s e) :
    Calls Try.prog 36 #[.pointer (some ⟨p, 0, none⟩), .int .i64 a] w fun x w' => x = .returned (.tuple #[.agg #[.int .i64 z, .int .i64 l, .int .i64 t, .bool d, .int .i64 s, .int .i64 e], .int .i64 0]) ∧ Below w.heap.size w w' := by
  have hm := h.most
  have E := Lib.hid ea
  have hb : 0 ≤ a ∧ a ≤ 65536 := by omega
  clear ea
  go_enter Try.func36, Try.ntmps36
  go_wp2_with fail
  refine (yis_t _ _ _ _ _ _ k (h.alloc _) E.out (by omega)).mono ?_
  rintro e w' ⟨rfl, rfl⟩
  go_wp2_with fail
  refine (yis_t _ _ _ _ _ _ (k + 1) (h.alloc _) (by have := E.out; omega) hk).mono ?_
  rintro e w' ⟨rfl, rfl⟩
  go_wp2_with fail
  refine (yword_t _ _ _ _ _ _ k (h.alloc _) E.out (by omega)).mono ?_
  rintro e w' ⟨rfl, rfl⟩
  go_wp2_with fail
  refine (yword_t _ _ _ _ _ _ (k + 1) (h.alloc _) (by have := E.out; omega) hk).mono ?_
  rintro e w' ⟨rfl, rfl⟩
  go_wp2_with fail; refine (hrunpack_o _ _ _ _ _ _ _ _ _ o).mono ?_; rintro e w1 ⟨rfl, hb1⟩; have hz1 := hb1.size; (repeat (first | rw [World.size_alloc] at hz1 | rw [World.size_setCell] at hz1 | rw [World.size_drew] at hz1)); have zl1_w_0 : w.heap.size < w1.heap.size := (by omega); have ac1_w_0 := fun o => hb1.cell (p := ⟨w.heap.size, o, none⟩) (by first | omega | (simp; done) | (simp; omega)); have af1_w_0 := fun o => hb1.frozen (p := ⟨w.heap.size, o, none⟩) (by first | omega | (simp; done) | (simp; omega))
  go_wp2_with fail
  refine ret_cell_tmp (g := w.heap.size) (t := 64) (fr := (0, 0)) (cs := #[.int .i64 z, .int .i64 l, .int .i64 t, .bool d, .int .i64 s, .int .i64 e]) Try.results36 ?_ ?_ ?_ Try.underlying64 rfl ?_ ?_; (focus rfl); (focus rfl); (focus (apply Exists.intro; apply And.intro; (focus (repeat (first | (with_reducible exact heap_new _ _) | ((with_reducible apply heap_new'); (focus (first | (simp; done) | omega))) | (with_reducible apply heap_set) | ((with_reducible apply heap_old); (focus (first | omega | (simp; done) | (simp; omega)))) | ((with_reducible apply heap_below); (focus (with_reducible assumption)); (focus (first | omega | (simp; done) | (simp; omega)))) | ((with_reducible apply heap_set_far); (focus (first | omega | (simp; done) | (simp; omega))))))); (focus rfl))); (focus kernel_rfl)
  refine ⟨rfl, ?_⟩
  repeat (first | (with_reducible exact Below.refl _ _) | ((with_reducible refine Below.setCell ?_ ?_ _); rotate_left; (focus (first | omega | (simp; done) | (simp; omega)))) | ((with_reducible refine Below.alloc ?_ ?_ _); rotate_left; (focus (first | omega | (simp; done) | (simp; omega)))) | (with_reducible refine Below.drew ?_) | (with_reducible refine below_drewN' ?_ _) | ((refine Below.trans ?_ (Below.mono (by with_reducible assumption) ?_)); rotate_left; (focus (first | omega | (simp; done) | (simp; omega)))))
set_option maxHeartbeats 1000000 in
theorem yat_f (w : World) (p g n : Nat) (V : Nat → Int) (a : Int) (h : isY w p g n V) (no : noObj V n a) (ha : inR a) :
    Calls Try.prog 36 #[.pointer (some ⟨p, 0, none⟩), .int .i64 a] w fun x w' => x = .returned (.tuple #[zHead, .int .i64 18]) ∧ Below w.heap.size w w' := by
  have hm := h.most
  unfold zHead
  by_cases c1 : a < 0 ∨ 8 * n ≤ a ∨ a % 8 ≠ 0
  · have C1 := Lib.hid c1
    have hY := h
    have hany := fun (W : World) (b : Int) (hh : isY W p g n V) => yis_any W p g n V b hh
    have HA := Lib.hid hany
    clear c1 hany
    by_cases c3 : a ≤ 1000000
    · go_enter Try.func36, Try.ntmps36
      go_wp2_with fail
      refine (yis_f _ _ _ _ _ _ (hY.alloc _) C1.out).mono ?_
      rintro e w' ⟨rfl, rfl⟩
      go_wp2_with fail
      obtain ⟨b, hb⟩ := HA.out _ _ (hY.alloc _)
      refine hb.mono ?_
      clear hb
      rintro e w' ⟨rfl, rfl⟩
      go_wp2_with fail
      refine ret_cell_tmp (g := w.heap.size) (t := 64) (fr := (0, 0)) (cs := #[.int .i64 0, .int .i64 0, .int .i64 0, .bool false, .int .i64 0, .int .i64 0]) Try.results36 ?_ ?_ ?_ Try.underlying64 rfl ?_ ?_; (focus rfl); (focus rfl); (focus (apply Exists.intro; apply And.intro; (focus (repeat (first | (with_reducible exact heap_new _ _) | ((with_reducible apply heap_new'); (focus (first | (simp; done) | omega))) | (with_reducible apply heap_set) | ((with_reducible apply heap_old); (focus (first | omega | (simp; done) | (simp; omega)))) | ((with_reducible apply heap_below); (focus (with_reducible assumption)); (focus (first | omega | (simp; done) | (simp; omega)))) | ((with_reducible apply heap_set_far); (focus (first | omega | (simp; done) | (simp; omega))))))); (focus rfl))); (focus kernel_rfl)
      refine ⟨rfl, ?_⟩
      repeat (first | (with_reducible exact Below.refl _ _) | ((with_reducible refine Below.setCell ?_ ?_ _); rotate_left; (focus (first | omega | (simp; done) | (simp; omega)))) | ((with_reducible refine Below.alloc ?_ ?_ _); rotate_left; (focus (first | omega | (simp; done) | (simp; omega)))) | (with_reducible refine Below.drew ?_) | (with_reducible refine below_drewN' ?_ _) | ((refine Below.trans ?_ (Below.mono (by with_reducible assumption) ?_)); rotate_left; (focus (first | omega | (simp; done) | (simp; omega)))))
    · go_enter Try.func36, Try.ntmps36
      go_wp2_with fail
      refine (yis_f _ _ _ _ _ _ (hY.alloc _) C1.out).mono ?_
      rintro e w' ⟨rfl, rfl⟩
      go_wp2_with fail
      obtain ⟨b, hb⟩ := HA.out _ _ (hY.alloc _)
      refine hb.mono ?_
      clear hb
      rintro e w' ⟨rfl, rfl⟩
      go_wp2_with fail
      refine ret_cell_tmp (g := w.heap.size) (t := 64) (fr := (0, 0)) (cs := #[.int .i64 0, .int .i64 0, .int .i64 0, .bool false, .int .i64 0, .int .i64 0]) Try.results36 ?_ ?_ ?_ Try.underlying64 rfl ?_ ?_; (focus rfl); (focus rfl); (focus (apply Exists.intro; apply And.intro; (focus (repeat (first | (with_reducible exact heap_new _ _) | ((with_reducible apply heap_new'); (focus (first | (simp; done) | omega))) | (with_reducible apply heap_set) | ((with_reducible apply heap_old); (focus (first | omega | (simp; done) | (simp; omega)))) | ((with_reducible apply heap_below); (focus (with_reducible assumption)); (focus (first | omega | (simp; done) | (simp; omega)))) | ((with_reducible apply heap_set_far); (focus (first | omega | (simp; done) | (simp; omega))))))); (focus rfl))); (focus kernel_rfl)
      refine ⟨rfl, ?_⟩
      repeat (first | (with_reducible exact Below.refl _ _) | ((with_reducible refine Below.setCell ?_ ?_ _); rotate_left; (focus (first | omega | (simp; done) | (simp; omega)))) | ((with_reducible refine Below.alloc ?_ ?_ _); rotate_left; (focus (first | omega | (simp; done) | (simp; omega)))) | (with_reducible refine Below.drew ?_) | (with_reducible refine below_drewN' ?_ _) | ((refine Below.trans ?_ (Below.mono (by with_reducible assumption) ?_)); rotate_left; (focus (first | omega | (simp; done) | (simp; omega)))))
  · obtain ⟨k, E⟩ : ∃ k : Nat, Hid (a = 8 * k) := ⟨(a / 8).toNat, Lib.hid (by omega)⟩
    have hkn : k < n := by have := E.out; omega
    have hb : 0 ≤ a ∧ a ≤ 65536 := by omega
    clear c1 ha
    by_cases c2 : k + 1 < n
    · have N := Lib.hid (no k E.out c2)
      go_enter Try.func36, Try.ntmps36
      go_wp2_with fail
      refine (yis_t _ _ _ _ _ _ k (h.alloc _) E.out hkn).mono ?_
      rintro e w' ⟨rfl, rfl⟩
      go_wp2_with fail
      refine (yis_t _ _ _ _ _ _ (k + 1) (h.alloc _) (by have := E.out; omega) c2).mono ?_
      rintro e w' ⟨rfl, rfl⟩
      go_wp2_with fail
      refine (yword_t _ _ _ _ _ _ k (h.alloc _) E.out hkn).mono ?_
      rintro e w' ⟨rfl, rfl⟩
      go_wp2_with fail
      refine (yword_t _ _ _ _ _ _ (k + 1) (h.alloc _) (by have := E.out; omega) c2).mono ?_
      rintro e w' ⟨rfl, rfl⟩
      go_wp2_with fail; refine (hrunpack_no _ _ _ (h.fits k hkn) (h.fits (k + 1) c2) N).mono ?_; rintro e w1 ⟨rfl, hb1⟩; have hz1 := hb1.size; (repeat (first | rw [World.size_alloc] at hz1 | rw [World.size_setCell] at hz1 | rw [World.size_drew] at hz1)); have zl1_w_0 : w.heap.size < w1.heap.size := (by omega); have ac1_w_0 := fun o => hb1.cell (p := ⟨w.heap.size, o, none⟩) (by first | omega | (simp; done) | (simp; omega)); have af1_w_0 := fun o => hb1.frozen (p := ⟨w.heap.size, o, none⟩) (by first | omega | (simp; done) | (simp; omega))
      unfold zHead
      go_wp2_with fail
      refine ret_cell_tmp (g := w.heap.size) (t := 64) (fr := (0, 0)) (cs := #[.int .i64 0, .int .i64 0, .int .i64 0, .bool false, .int .i64 0, .int .i64 0]) Try.results36 ?_ ?_ ?_ Try.underlying64 rfl ?_ ?_; (focus rfl); (focus rfl); (focus (apply Exists.intro; apply And.intro; (focus (repeat (first | (with_reducible exact heap_new _ _) | ((with_reducible apply heap_new'); (focus (first | (simp; done) | omega))) | (with_reducible apply heap_set) | ((with_reducible apply heap_old); (focus (first | omega | (simp; done) | (simp; omega)))) | ((with_reducible apply heap_below); (focus (with_reducible assumption)); (focus (first | omega | (simp; done) | (simp; omega)))) | ((with_reducible apply heap_set_far); (focus (first | omega | (simp; done) | (simp; omega))))))); (focus rfl))); (focus kernel_rfl)
      refine ⟨rfl, ?_⟩
      repeat (first | (with_reducible exact Below.refl _ _) | ((with_reducible refine Below.setCell ?_ ?_ _); rotate_left; (focus (first | omega | (simp; done) | (simp; omega)))) | ((with_reducible refine Below.alloc ?_ ?_ _); rotate_left; (focus (first | omega | (simp; done) | (simp; omega)))) | (with_reducible refine Below.drew ?_) | (with_reducible refine below_drewN' ?_ _) | ((refine Below.trans ?_ (Below.mono (by with_reducible assumption) ?_)); rotate_left; (focus (first | omega | (simp; done) | (simp; omega)))))
    · go_enter Try.func36, Try.ntmps36
      go_wp2_with fail
      refine (yis_t _ _ _ _ _ _ k (h.alloc _) E.out hkn).mono ?_
      rintro e w' ⟨rfl, rfl⟩
      go_wp2_with fail
      refine (yis_f _ _ _ _ _ _ (h.alloc _) (by have := E.out; omega)).mono ?_
      rintro e w' ⟨rfl, rfl⟩
      go_wp2_with fail
      refine ret_cell_tmp (g := w.heap.size) (t := 64) (fr := (0, 0)) (cs := #[.int .i64 0, .int .i64 0, .int .i64 0, .bool false, .int .i64 0, .int .i64 0]) Try.results36 ?_ ?_ ?_ Try.underlying64 rfl ?_ ?_; (focus rfl); (focus rfl); (focus (apply Exists.intro; apply And.intro; (focus (repeat (first | (with_reducible exact heap_new _ _) | ((with_reducible apply heap_new'); (focus (first | (simp; done) | omega))) | (with_reducible apply heap_set) | ((with_reducible apply heap_old); (focus (first | omega | (simp; done) | (simp; omega)))) | ((with_reducible apply heap_below); (focus (with_reducible assumption)); (focus (first | omega | (simp; done) | (simp; omega)))) | ((with_reducible apply heap_set_far); (focus (first | omega | (simp; done) | (simp; omega))))))); (focus rfl))); (focus kernel_rfl)
      refine ⟨rfl, ?_⟩
      repeat (first | (with_reducible exact Below.refl _ _) | ((with_reducible refine Below.setCell ?_ ?_ _); rotate_left; (focus (first | omega | (simp; done) | (simp; omega)))) | ((with_reducible refine Below.alloc ?_ ?_ _); rotate_left; (focus (first | omega | (simp; done) | (simp; omega)))) | (with_reducible refine Below.drew ?_) | (with_reducible refine below_drewN' ?_ _) | ((refine Below.trans ?_ (Below.mono (by with_reducible assumption) ?_)); rotate_left; (focus (first | omega | (simp; done) | (simp; omega)))))

theorem yslot_e (w : World) (p g n : Nat) (V : Nat → Int) (a i : Int) (h : isY w p g n V) (no : noObj V n a) (ha : inR a) :
    Calls Try.prog 38 #[.pointer (some ⟨p, 0, none⟩), .int .i64 a, .int .i64 i] w fun x w' => x = .returned (.tuple #[.int .i64 0, .int .i64 18]) ∧ Below w.heap.size w w' := by
  have N := Lib.hid no
  clear no
  go_enter Try.func38, Try.ntmps38
  go_wp2_with fail; refine (yat_f _ _ _ _ _ _ h N.out ha).mono ?_; rintro e w1 ⟨rfl, hb1⟩; have hz1 := hb1.size; (repeat (first | rw [World.size_alloc] at hz1 | rw [World.size_setCell] at hz1 | rw [World.size_drew] at hz1))
  unfold zHead
  go_wp2_with fail
  go_ret2; refine ⟨rfl, ?_⟩
  repeat (first | (with_reducible exact Below.refl _ _) | ((with_reducible refine Below.setCell ?_ ?_ _); rotate_left; (focus (first | omega | (simp; done) | (simp; omega)))) | ((with_reducible refine Below.alloc ?_ ?_ _); rotate_left; (focus (first | omega | (simp; done) | (simp; omega)))) | (with_reducible refine Below.drew ?_) | (with_reducible refine below_drewN' ?_ _) | ((refine Below.trans ?_ (Below.mono (by with_reducible assumption) ?_)); rotate_left; (focus (first | omega | (simp; done) | (simp; omega)))))
theorem yslot_t (w : World) (p g n : Nat) (V : Nat → Int) (a i : Int) (k : Nat) (z l t : Int) (d : Bool) (s e : Int) (h : isY w p g n V) (ea : a = 8 * k) (hk : k + 1 < n) (o : isObj (V k) (V (k + 1)) z l t d s e) (hi : 0 ≤ i ∧ i < l) :
    Calls Try.prog 38 #[.pointer (some ⟨p, 0, none⟩), .int .i64 a, .int .i64 i] w fun x w' => x = .returned (.tuple #[.int .i64 (a + 16 + 8 * i), .int .i64 0]) ∧ Below w.heap.size w w' := by
  have hm := h.most
  have hl := o.ok.1
  have E := Lib.hid ea
  have hb : 0 ≤ a ∧ a ≤ 65536 := by omega
  clear ea
  go_enter Try.func38, Try.ntmps38
  go_wp2_with fail; refine (yat_t _ _ _ _ _ _ k _ _ _ _ _ _ h E.out hk o).mono ?_; rintro e w1 ⟨rfl, hb1⟩; have hz1 := hb1.size; (repeat (first | rw [World.size_alloc] at hz1 | rw [World.size_setCell] at hz1 | rw [World.size_drew] at hz1))
  go_wp2_with fail
  go_ret2; refine ⟨rfl, ?_⟩
  repeat (first | (with_reducible exact Below.refl _ _) | ((with_reducible refine Below.setCell ?_ ?_ _); rotate_left; (focus (first | omega | (simp; done) | (simp; omega)))) | ((with_reducible refine Below.alloc ?_ ?_ _); rotate_left; (focus (first | omega | (simp; done) | (simp; omega)))) | (with_reducible refine Below.drew ?_) | (with_reducible refine below_drewN' ?_ _) | ((refine Below.trans ?_ (Below.mono (by with_reducible assumption) ?_)); rotate_left; (focus (first | omega | (simp; done) | (simp; omega)))))
theorem yslot_f (w : World) (p g n : Nat) (V : Nat → Int) (a i : Int) (k : Nat) (z l t : Int) (d : Bool) (s e : Int) (h : isY w p g n V) (ea : a = 8 * k) (hk : k + 1 < n) (o : isObj (V k) (V (k + 1)) z l t d s e) (hi : i < 0 ∨ l ≤ i) :
    Calls Try.prog 38 #[.pointer (some ⟨p, 0, none⟩), .int .i64 a, .int .i64 i] w fun x w' => x = .returned (.tuple #[.int .i64 0, .int .i64 21]) ∧ Below w.heap.size w w' := by
  have hm := h.most
  have hl := o.ok.1
  have E := Lib.hid ea
  have hb : 0 ≤ a ∧ a ≤ 65536 := by omega
  clear ea
  by_cases c : i < 0
  · clear hi
    go_enter Try.func38, Try.ntmps38
    go_wp2_with fail; refine (yat_t _ _ _ _ _ _ k _ _ _ _ _ _ h E.out hk o).mono ?_; rintro e w1 ⟨rfl, hb1⟩; have hz1 := hb1.size; (repeat (first | rw [World.size_alloc] at hz1 | rw [World.size_setCell] at hz1 | rw [World.size_drew] at hz1))
    go_wp2_with fail
    go_ret2; refine ⟨rfl, ?_⟩
    repeat (first | (with_reducible exact Below.refl _ _) | ((with_reducible refine Below.setCell ?_ ?_ _); rotate_left; (focus (first | omega | (simp; done) | (simp; omega)))) | ((with_reducible refine Below.alloc ?_ ?_ _); rotate_left; (focus (first | omega | (simp; done) | (simp; omega)))) | (with_reducible refine Below.drew ?_) | (with_reducible refine below_drewN' ?_ _) | ((refine Below.trans ?_ (Below.mono (by with_reducible assumption) ?_)); rotate_left; (focus (first | omega | (simp; done) | (simp; omega)))))
  · have hi : l ≤ i := by omega
    go_enter Try.func38, Try.ntmps38
    go_wp2_with fail; refine (yat_t _ _ _ _ _ _ k _ _ _ _ _ _ h E.out hk o).mono ?_; rintro e w1 ⟨rfl, hb1⟩; have hz1 := hb1.size; (repeat (first | rw [World.size_alloc] at hz1 | rw [World.size_setCell] at hz1 | rw [World.size_drew] at hz1))
    go_wp2_with fail
    go_ret2; refine ⟨rfl, ?_⟩
    repeat (first | (with_reducible exact Below.refl _ _) | ((with_reducible refine Below.setCell ?_ ?_ _); rotate_left; (focus (first | omega | (simp; done) | (simp; omega)))) | ((with_reducible refine Below.alloc ?_ ?_ _); rotate_left; (focus (first | omega | (simp; done) | (simp; omega)))) | (with_reducible refine Below.drew ?_) | (with_reducible refine below_drewN' ?_ _) | ((refine Below.trans ?_ (Below.mono (by with_reducible assumption) ?_)); rotate_left; (focus (first | omega | (simp; done) | (simp; omega)))))

theorem ymark_f (w : World) (p g n : Nat) (V : Nat → Int) (a : Int) (h : isY w p g n V) (no : noObj V n a) (ha : inR a) :
    Calls Try.prog 43 #[.pointer (some ⟨p, 0, none⟩), .int .i64 a] w fun x w' => x = .returned (.int .i64 18) ∧ Below w.heap.size w w' := by
  have N := Lib.hid no
  clear no
  go_enter Try.func43, Try.ntmps43
  go_wp2_with fail; refine (yat_f _ _ _ _ _ _ h N.out ha).mono ?_; rintro e w1 ⟨rfl, hb1⟩; have hz1 := hb1.size; (repeat (first | rw [World.size_alloc] at hz1 | rw [World.size_setCell] at hz1 | rw [World.size_drew] at hz1))
  unfold zHead
  go_wp2_with fail
  go_ret; refine ⟨rfl, ?_⟩
  repeat (first | (with_reducible exact Below.refl _ _) | ((with_reducible refine Below.setCell ?_ ?_ _); rotate_left; (focus (first | omega | (simp; done) | (simp; omega)))) | ((with_reducible refine Below.alloc ?_ ?_ _); rotate_left; (focus (first | omega | (simp; done) | (simp; omega)))) | (with_reducible refine Below.drew ?_) | (with_reducible refine below_drewN' ?_ _) | ((refine Below.trans ?_ (Below.mono (by with_reducible assumption) ?_)); rotate_left; (focus (first | omega | (simp; done) | (simp; omega)))))
set_option maxHeartbeats 1000000 in
theorem ymark_t (w : World) (p g n : Nat) (V : Nat → Int) (a : Int) (k : Nat) (z l t : Int) (d : Bool) (s e : Int) (h : isY w p g n V) (ea : a = 8 * k) (hk : k + 1 < n) (o : isObj (V k) (V (k + 1)) z l t d s e) :
    Calls Try.prog 43 #[.pointer (some ⟨p, 0, none⟩), .int .i64 a] w fun x w' => x = .returned (.int .i64 0) ∧ isY w' p g n (upd V k (hF z l t 1)) ∧ But w.heap.size g w w' := by
  have hm := h.most
  have hlt := h.lts
  have E := Lib.hid ea
  have hb : 0 ≤ a ∧ a ≤ 65536 := by omega
  have HU := Lib.hid o.mark.bd.1
  clear ea
  go_enter Try.func43, Try.ntmps43
  go_wp2_with fail
  refine (yat_t _ _ _ _ _ _ k _ _ _ _ _ _ h E.out hk o).mono ?_
  rintro x w1 ⟨rfl, hb1⟩
  have hz1 := hb1.size
  have h1 := h.below hb1 hlt.1 hlt.2.1
  go_wp2_with fail
  refine (hrpack_o _ _ _ _ _ _ _ o.ok).mono ?_
  rintro x w2 ⟨rfl, hb2⟩
  rw [bi_true]
  have hz2 := hb2.size
  simp at hz2
  have h2 := (h1.alloc (.cells #[.int .i64 z, .int .i64 l, .int .i64 t, .bool true, .int .i64 s, .int .i64 e] 64)).below hb2 (by simp; omega) (by simp; omega)
  go_wp2_with fail
  refine (yput_t _ _ _ _ _ _ _ k h2 E.out (by omega) HU.out).mono ?_
  rintro x w3 ⟨rfl, h3, hb3⟩
  go_wp2_with fail
  go_ret
  have hB : Below w.heap.size w w2 := by
    repeat (first | (with_reducible exact Below.refl _ _) | ((with_reducible refine Below.setCell ?_ ?_ _); rotate_left; (focus (first | omega | (simp; done) | (simp; omega)))) | ((with_reducible refine Below.alloc ?_ ?_ _); rotate_left; (focus (first | omega | (simp; done) | (simp; omega)))) | (with_reducible refine Below.drew ?_) | (with_reducible refine below_drewN' ?_ _) | ((refine Below.trans ?_ (Below.mono (by with_reducible assumption) ?_)); rotate_left; (focus (first | omega | (simp; done) | (simp; omega)))))
  exact ⟨rfl, h3, But.trans_below hB (hb3.mono hB.size)⟩

end Go.Proofs.Ytahkplakdbbmmaa
