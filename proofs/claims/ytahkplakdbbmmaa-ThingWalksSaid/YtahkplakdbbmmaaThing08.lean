/- The law's own helpers: shown, laid. What both sides answer. -/
import Derived.Test.YtahkplakdbbmmaaWalk
import Derived.Test.YtahkplakdbbmmaaWalk08
import Derived.Test.YtahkplakdbbmmaaInts
namespace Go.Proofs.Ytahkplakdbbmmaa
set_option linter.unusedVariables false
set_option linter.unusedSimpArgs false
open Go.RowKit

set_option maxHeartbeats 1000000 in
theorem shown08_t (w : World) : Calls Try.prog 33 #[] w fun e w' => e = .returned (.bool true) ∧ Below w.heap.size w w' := by
  go_enter Try.func33, Try.ntmps33
  go_wp2_with fail
  refine (wnew_t 8 _ _ (by omega) (by omega)).mono ?_
  rintro e w1 ⟨p, g, rfl, ha1, hb1, hp, hg⟩
  go_wp2_with fail
  refine (walk_t _ _ _ _ _ _ _ _ _ ha1 (.done _) (by unfold inR; omega) (by omega)).mono ?_
  rintro e w2 ⟨v, rfl, ho, hb2⟩
  have hl2 := ha1.lts
  have ha2 := ha1.below hb2 hl2.1 hl2.2.1
  have hz1 := hb1.size
  have hz2 := hb2.size
  obtain ⟨A, c, rfl, _⟩ := own_rd (ho.1 rfl)
  rw [wayCode_t]
  go_wp2_with fail
  refine (tat_f _ _ _ _ _ _ ha2 ?_ (by unfold inR; omega)).mono ?_
  · intro k hk hk1 ok
    have h := ok.2.1
    simp at h
  rintro e w3 ⟨rfl, hb3⟩
  have hz3 := hb3.size
  unfold zHead
  go_wp2_with fail
  go_ret
  refine ⟨rfl, ?_⟩
  repeat (first | (with_reducible exact Below.refl _ _) | ((with_reducible refine Below.setCell ?_ ?_ _); rotate_left; (focus (first | omega | (simp; done) | (simp; omega)))) | ((with_reducible refine Below.alloc ?_ ?_ _); rotate_left; (focus (first | omega | (simp; done) | (simp; omega)))) | (with_reducible refine Below.drew ?_) | (with_reducible refine below_drewN' ?_ _) | ((refine Below.trans ?_ (Below.mono (by with_reducible assumption) ?_)); rotate_left; (focus (first | omega | (simp; done) | (simp; omega)))))

set_option maxHeartbeats 4000000 in
theorem laid_t (w : World) (B : Nat) (A : Option Addr) (n c : Nat) (F : Nat → Int) (hn : n ≤ 9223372036854775807) (R : rd w B A n 1 (ints1 .u64 F)) (hF : ∀ i, inU (F i)) (hB : B ≤ w.heap.size) :
    Calls Try.prog 34 #[.slice A n c] w fun e w' => ∃ p g q h V, e = .returned (.tuple #[.pointer (some ⟨p, 0, none⟩), .pointer (some ⟨q, 0, none⟩)]) ∧ isW w' p g 60 V ∧ isY w' q h 60 V ∧ Below w.heap.size w w' ∧
      w.heap.size ≤ p ∧ w.heap.size ≤ g ∧ w.heap.size ≤ q ∧ w.heap.size ≤ h ∧ p ≠ q ∧ p ≠ h ∧ g ≠ q ∧ g ≠ h := by
  go_enter Try.func34, Try.ntmps34
  go_wp2_with fail
  refine (wnew_t 60 _ _ (by omega) (by omega)).mono ?_
  rintro e w1 ⟨p, g, rfl, ha1, hb1, hp, hg⟩
  have hz1 := hb1.size
  go_wp2_with fail
  refine (ynew_t 60 _ _ (by omega) (by omega)).mono ?_
  rintro e w2 ⟨q, h, rfl, hy2, hb2, hq, hh⟩
  have hz2 := hb2.size
  have hl1 := ha1.lts
  have hl2 := hy2.lts
  have ha2 := ha1.below hb2 hl1.1 hl1.2.1
  have R2 := (R.below hb1 hB).below hb2 (by omega)
  have hB2 : Below w.heap.size w w2 := hb1.trans (hb2.mono hz1)
  go_wp2_with fail
  go_loopw [7] (fun i wr => ∃ k : Nat, k ≤ n ∧ k ≤ 60 ∧ i = .int .i64 k ∧ Below w.heap.size w wr ∧ w2.heap.size ≤ wr.heap.size ∧ ∃ V, isW wr p g 60 V ∧ isY wr q h 60 V) (fun i _ => 60 - (intOf i).toNat)
  case atStart => exact ⟨0, by omega, by omega, rfl, hB2, Nat.le_refl _, _, ha2, hy2⟩
  case round =>
    obtain ⟨k, hk1, hk2, rfl, hBr, hzr, V, haV, hyV⟩ := hrel
    have Rr := R.below hBr hB
    by_cases c1 : k < n
    · by_cases c2 : k < 60
      · obtain ⟨b, off, rfl, hb, hc⟩ := Rr.int_at c1
        have hu := hF k
        obtain ⟨u, U⟩ : ∃ u, Hid (F k = u) := ⟨_, Lib.hid rfl⟩
        rw [U.out] at hc hu
        go_wp2_with fail
        refine (wput_t _ _ _ _ _ _ _ k haV (by omega) c2 hu).mono ?_
        rintro e w4 ⟨rfl, ha4, hb4⟩
        have hz4 := hb4.size
        have hy4 := hyV.but hb4 (by omega) (by omega) (by omega) (by omega)
        have hc4 := hb4.cell (p := ⟨b, off + k, none⟩) (by simp; omega) (by simp; omega)
        rw [hc] at hc4
        go_wp2_with fail
        refine (yput_t _ _ _ _ _ _ _ k hy4 (by omega) c2 hu).mono ?_
        rintro e w5 ⟨rfl, hy5, hb5⟩
        have hz5 := hb5.size
        have ha5 := ha4.but hb5 (by omega) (by omega) (by omega) (by omega)
        go_wp2_with fail
        go_roundw
        case rel => exact ⟨k + 1, by omega, by omega, by go_num, hBr.trans ((hb4.below (by omega) (by omega)).trans (hb5.below (by omega) (by omega))), by omega, _, ha5, hy5⟩
        case measure => simp [intOf]; omega
      · obtain rfl : k = 60 := by omega
        go_wp2_with fail
        go_ret2
        exact ⟨p, g, q, h, V, rfl, haV, hyV, hBr, by omega, by omega, by omega, by omega, by omega, by omega, by omega, by omega⟩
    · obtain rfl : k = n := by omega
      go_wp2_with fail
      go_ret2
      exact ⟨p, g, q, h, V, rfl, haV, hyV, hBr, by omega, by omega, by omega, by omega, by omega, by omega, by omega, by omega⟩

/-- What both sides answer to At, to Slot, to Mark. -/
theorem both_at (p g q h n : Nat) (V : Nat → Int) (hV : ∀ i, i < n → inU (V i)) (a : Int) (ha : inR a) : ∃ (z l t : Int) (d : Bool) (s e c : Int),
    (∀ w, isW w p g n V → Calls Try.prog 35 #[.pointer (some ⟨p, 0, none⟩), .int .i64 a] w fun x w' => x = .returned (.tuple #[.agg #[.int .i64 z, .int .i64 l, .int .i64 t, .bool d, .int .i64 s, .int .i64 e], .int .i64 c]) ∧ Below w.heap.size w w') ∧
    (∀ w, isY w q h n V → Calls Try.prog 36 #[.pointer (some ⟨q, 0, none⟩), .int .i64 a] w fun x w' => x = .returned (.tuple #[.agg #[.int .i64 z, .int .i64 l, .int .i64 t, .bool d, .int .i64 s, .int .i64 e], .int .i64 c]) ∧ Below w.heap.size w w') := by
  rcases obj_cases V n a hV with no | ⟨k, z, l, t, d, s, e, ea, hk, o⟩
  · exact ⟨_, _, _, _, _, _, _, fun w hh => tat_f w p g n V a hh no ha, fun w hh => yat_f w q h n V a hh no ha⟩
  · exact ⟨_, _, _, _, _, _, _, fun w hh => tat_t w p g n V a k z l t d s e hh ea hk o, fun w hh => yat_t w q h n V a k z l t d s e hh ea hk o⟩
theorem both_slot (p g q h n : Nat) (V : Nat → Int) (hV : ∀ i, i < n → inU (V i)) (a i : Int) (ha : inR a) : ∃ (r c : Int),
    (∀ w, isW w p g n V → Calls Try.prog 37 #[.pointer (some ⟨p, 0, none⟩), .int .i64 a, .int .i64 i] w fun x w' => x = .returned (.tuple #[.int .i64 r, .int .i64 c]) ∧ Below w.heap.size w w') ∧
    (∀ w, isY w q h n V → Calls Try.prog 38 #[.pointer (some ⟨q, 0, none⟩), .int .i64 a, .int .i64 i] w fun x w' => x = .returned (.tuple #[.int .i64 r, .int .i64 c]) ∧ Below w.heap.size w w') := by
  rcases obj_cases V n a hV with no | ⟨k, z, l, t, d, s, e, ea, hk, o⟩
  · exact ⟨_, _, fun w hh => tslot_e w p g n V a i hh no ha, fun w hh => yslot_e w q h n V a i hh no ha⟩
  · by_cases c : 0 ≤ i ∧ i < l
    · exact ⟨_, _, fun w hh => tslot_t w p g n V a i k z l t d s e hh ea hk o c, fun w hh => yslot_t w q h n V a i k z l t d s e hh ea hk o c⟩
    · exact ⟨_, _, fun w hh => tslot_f w p g n V a i k z l t d s e hh ea hk o (by omega), fun w hh => yslot_f w q h n V a i k z l t d s e hh ea hk o (by omega)⟩
theorem both_mark (p g q h n : Nat) (V : Nat → Int) (hV : ∀ i, i < n → inU (V i)) (a : Int) (ha : inR a) : ∃ (c : Int) (V' : Nat → Int),
    (∀ w, isW w p g n V → Calls Try.prog 42 #[.pointer (some ⟨p, 0, none⟩), .int .i64 a] w fun x w' => x = .returned (.int .i64 c) ∧ isW w' p g n V' ∧ But w.heap.size g w w') ∧
    (∀ w, isY w q h n V → Calls Try.prog 43 #[.pointer (some ⟨q, 0, none⟩), .int .i64 a] w fun x w' => x = .returned (.int .i64 c) ∧ isY w' q h n V' ∧ But w.heap.size h w w') := by
  rcases obj_cases V n a hV with no | ⟨k, z, l, t, d, s, e, ea, hk, o⟩
  · exact ⟨_, V, fun w hh => (tmark_f w p g n V a hh no ha).mono fun _ _ k => ⟨k.1, hh.below k.2 hh.lts.1 hh.lts.2.1, .of_below k.2⟩, fun w hh => (ymark_f w q h n V a hh no ha).mono fun _ _ k => ⟨k.1, hh.below k.2 hh.lts.1 hh.lts.2.1, .of_below k.2⟩⟩
  · exact ⟨_, _, fun w hh => tmark_t w p g n V a k z l t d s e hh ea hk o, fun w hh => ymark_t w q h n V a k z l t d s e hh ea hk o⟩

/-- What both sides answer to Walk. -/
theorem both_walk (p g q h n : Nat) (V : Nat → Int) (hV : ∀ i, i < n → inU (V i)) (a left : Int) (ha : inR a) (hl : inR left) : ∃ (ys : List Int) (c : Int), ys.length ≤ 8 * n ∧
    (∀ w, isW w p g n V → Calls Try.prog 39 #[.pointer (some ⟨p, 0, none⟩), .int .i64 a, .int .i64 left] w fun x w' => (∃ v, x = .returned (.tuple #[v, .int .i64 c]) ∧ w'.ownsRow w.heap.size 3 1 v ys.length (ys.map (Value.int .i64))) ∧ Below w.heap.size w w') ∧
    (∀ w, isY w q h n V → Calls Try.prog 40 #[.pointer (some ⟨q, 0, none⟩), .int .i64 a, .int .i64 left] w fun x w' => (∃ v, x = .returned (.tuple #[v, .int .i64 c]) ∧ w'.ownsRow w.heap.size 3 1 v ys.length (ys.map (Value.int .i64))) ∧ Below w.heap.size w w') := by
  by_cases h0 : left < 0
  · exact ⟨[], 18, by simp, fun w hh => (walk_neg w p a left h0).mono fun _ _ k => ⟨⟨_, k.1, World.ownsRow_nil _ _ _ _⟩, k.2⟩, fun w hh => (ywalk_neg w q a left h0).mono fun _ _ k => ⟨⟨_, k.1, World.ownsRow_nil _ _ _ _⟩, k.2⟩⟩
  · obtain ⟨b, xs, hw⟩ := way_any V n hV left.toNat a left (by omega) (by omega)
    have hlen := hw.len
    have hl' : 0 ≤ left ∧ left ≤ 9223372036854775807 := by unfold inR at hl; omega
    cases b with
    | true =>
      exact ⟨xs, 0, by omega, fun w hh => (walk_t w p g n V true a left xs hh hw ha hl').mono fun _ _ ⟨v, k1, k2, k3⟩ => ⟨⟨v, k1, k2.1 rfl⟩, k3⟩, fun w hh => (ywalk w q h n V true a left xs hh hw ha hl').mono fun _ _ ⟨v, k1, k2, k3⟩ => ⟨⟨v, k1, k2.1 rfl⟩, k3⟩⟩
    | false =>
      exact ⟨[], 18, by simp, fun w hh => (walk_t w p g n V false a left xs hh hw ha hl').mono fun _ _ ⟨v, k1, k2, k3⟩ => ⟨⟨v, k1, by rw [k2.2 rfl]; exact World.ownsRow_nil _ _ _ _⟩, k3⟩, fun w hh => (ywalk w q h n V false a left xs hh hw ha hl').mono fun _ _ ⟨v, k1, k2, k3⟩ => ⟨⟨v, k1, by rw [k2.2 rfl]; exact World.ownsRow_nil _ _ _ _⟩, k3⟩⟩

end Go.Proofs.Ytahkplakdbbmmaa
