/- The reference's Walk. -/
import Derived.Test.YtahkplakdbbmmaaOwn
import Derived.Test.YtahkplakdbbmmaaRef08
namespace Go.Proofs.Ytahkplakdbbmmaa
set_option linter.unusedVariables false
set_option linter.unusedSimpArgs false
open Go.RowKit

set_option maxHeartbeats 4000000 in
set_option maxRecDepth 100000 in
theorem ywalk (w : World) (p g n : Nat) (V : Nat → Int) (b : Bool) (a left : Int) (xs : List Int) (h : isY w p g n V) (hw : way V n b a left xs) (ha : inR a) (hl : 0 ≤ left ∧ left ≤ 9223372036854775807) :
    Calls Try.prog 40 #[.pointer (some ⟨p, 0, none⟩), .int .i64 a, .int .i64 left] w fun x w' => ∃ v, x = .returned (.tuple #[v, .int .i64 (wayCode b)]) ∧ wayOwn w' w.heap.size b v xs ∧ Below w.heap.size w w' := by
  have hm := h.most
  have hlt := h.lts
  have hlen := hw.len
  obtain ⟨i0, hi, hz0, hs1, hz2⟩ := info_parts info_int
  go_enter Try.func40, Try.ntmps40
  go_wp2_with fail
  go_loopw [8, 9, 10] (fun v l a' wr => ∃ (pre rest : List Int) (A L : Int), Hid (xs = pre ++ rest) ∧ way V n b A L rest ∧ a' = .int .i64 A ∧ l = .int .i64 L ∧ inR A ∧ (0 ≤ L ∧ L ≤ 9223372036854775807) ∧ wr.ownsRow w.heap.size 3 1 v pre.length (pre.map (Value.int .i64)) ∧ Below w.heap.size w wr) (fun _ l _ _ => (intOf l).toNat)
  case atStart =>
    refine ⟨[], xs, a, left, Lib.hid rfl, hw, rfl, rfl, ha, hl, ?_, ?_⟩
    · exact ⟨rfl, .inr ⟨w.heap.size, 0, #[], rfl, Nat.le_refl _, heap_alloc_new w _, Nat.le_refl _, Nat.zero_le _, rfl, rfl⟩⟩
    · repeat (first | (with_reducible exact Below.refl _ _) | ((with_reducible refine Below.setCell ?_ ?_ _); rotate_left; (focus (first | omega | (simp; done) | (simp; omega)))) | ((with_reducible refine Below.alloc ?_ ?_ _); rotate_left; (focus (first | omega | (simp; done) | (simp; omega)))) | (with_reducible refine Below.drew ?_) | (with_reducible refine below_drewN' ?_ _) | ((refine Below.trans ?_ (Below.mono (by with_reducible assumption) ?_)); rotate_left; (focus (first | omega | (simp; done) | (simp; omega)))))
  case round =>
    obtain ⟨pre, rest, A, L, hx, hr, rfl, rfl, hA, hL, hown, hBr⟩ := hrel
    have hY := h.below hBr hlt.1 hlt.2.1
    have hzr := hBr.size
    have hpl : Hid (pre.length ≤ xs.length) := Lib.hid (by rw [hx.out]; simp)
    cases hr with
    | done =>
      go_wp2_with fail
      go_ret2
      exact ⟨_, rfl, ⟨fun _ => by rw [hx.out, List.append_nil]; exact hown, fun h => by cases h⟩, hBr⟩
    | no hl0 hno =>
      have N := Lib.hid hno
      clear hno
      go_wp2_with fail
      refine (yat_f _ _ _ _ _ _ hY N.out hA).mono ?_
      rintro e w1 ⟨rfl, hb1⟩
      have hz1 := hb1.size
      unfold zHead
      go_wp2_with fail
      go_ret2
      refine ⟨_, rfl, ⟨fun h => (by cases h), fun _ => rfl⟩, ?_⟩
      repeat (first | (with_reducible exact Below.refl _ _) | ((with_reducible refine Below.setCell ?_ ?_ _); rotate_left; (focus (first | omega | (simp; done) | (simp; omega)))) | ((with_reducible refine Below.alloc ?_ ?_ _); rotate_left; (focus (first | omega | (simp; done) | (simp; omega)))) | (with_reducible refine Below.drew ?_) | (with_reducible refine below_drewN' ?_ _) | ((refine Below.trans ?_ (Below.mono (by with_reducible assumption) ?_)); rotate_left; (focus (first | omega | (simp; done) | (simp; omega)))))
    | @long _ _ z hl0 ho hz =>
      have hob := ho.bd
      obtain ⟨k, l, t, d, s', e', ea, hk, o⟩ := ho
      have K := Lib.hid ea
      clear ea
      go_wp2_with fail
      refine (yat_t _ _ _ _ _ _ k _ _ _ _ _ _ hY K.out hk o).mono ?_
      rintro e w1 ⟨rfl, hb1⟩
      have hz1 := hb1.size
      go_wp2_with fail
      go_ret2
      refine ⟨_, rfl, ⟨fun h => (by cases h), fun _ => rfl⟩, ?_⟩
      repeat (first | (with_reducible exact Below.refl _ _) | ((with_reducible refine Below.setCell ?_ ?_ _); rotate_left; (focus (first | omega | (simp; done) | (simp; omega)))) | ((with_reducible refine Below.alloc ?_ ?_ _); rotate_left; (focus (first | omega | (simp; done) | (simp; omega)))) | (with_reducible refine Below.drew ?_) | (with_reducible refine below_drewN' ?_ _) | ((refine Below.trans ?_ (Below.mono (by with_reducible assumption) ?_)); rotate_left; (focus (first | omega | (simp; done) | (simp; omega)))))
    | @step _ _ _ z rest ho hz hr' =>
      have hob := ho.bd
      have hxl : Hid (xs.length = pre.length + (rest.length + 1)) := Lib.hid (by rw [hx.out]; simp)
      obtain ⟨k, l, t, d, s', e', ea, hk, o⟩ := ho
      have K := Lib.hid ea
      clear ea
      go_wp2_with fail
      refine (yat_t _ _ _ _ _ _ k _ _ _ _ _ _ hY K.out hk o).mono ?_
      rintro e w1 ⟨rfl, hb1⟩
      have hz1 := hb1.size
      have hown1 := own_below hown hb1
      have hB1 := hBr.trans (hb1.mono hzr)
      clear hown
      go_wp2_with (at_builtin; refine wpList_append_own _ rfl _ _ 71 rfl w.heap.size 3 i0 (.int .i64 0) 1 8 under_ints hi hz0 hs1 hz2 rfl (by decide) _ _ _ rfl (by first | exact own_alloc hown1 _ | exact own_alloc (own_alloc hown1 _) _) ⟨w1.heap.size + 1, 0, none⟩ 1 1 [.int .i64 A] rfl rfl (by intro j u hj; match j, hj with | 0, hj => (simp at hj; subst hj; simp [Addr.add, go_sem])) (by intro u hu; simp at hu; subst hu; rfl) (by have := hxl.out; unfold maxLen; omega) (by have := hxl.out; omega) (by simp; omega) ?_; intro v' w2 hown2 hgrow _; have q0 : w2.cell? ⟨w1.heap.size, 0, none⟩ = some (.int .i64 z) := (grown_cell hgrow (fun j e => (own_block hown1 e).2) (Nat.le_refl _) (by simp; omega) 0).trans (by go_simp); have hB2 : Below w.heap.size w w2 := ((hB1.alloc (by omega) _).alloc (by simp; omega) _).grown hgrow (by simp; omega) (fun j e => (own_block hown1 e).1); clear hgrow)
      go_roundw
      case rel => exact ⟨pre ++ [A], rest, A + 8 * z, L - 8 * z, Lib.hid (by rw [hx.out]; simp), hr', by go_num, by go_num, by unfold inR at hA ⊢; omega, by omega, by simpa using hown2, hB2⟩
      case measure => simp [intOf]; omega

theorem ywalk_neg (w : World) (p : Nat) (a left : Int) (hl : left < 0) :
    Calls Try.prog 40 #[.pointer (some ⟨p, 0, none⟩), .int .i64 a, .int .i64 left] w fun x w' => x = .returned (.tuple #[.slice none 0 0, .int .i64 18]) ∧ Below w.heap.size w w' := by
  go_enter Try.func40, Try.ntmps40
  go_wp2_with fail
  go_ret2
  refine ⟨rfl, ?_⟩
  repeat (first | (with_reducible exact Below.refl _ _) | ((with_reducible refine Below.setCell ?_ ?_ _); rotate_left; (focus (first | omega | (simp; done) | (simp; omega)))) | ((with_reducible refine Below.alloc ?_ ?_ _); rotate_left; (focus (first | omega | (simp; done) | (simp; omega)))) | (with_reducible refine Below.drew ?_) | (with_reducible refine below_drewN' ?_ _) | ((refine Below.trans ?_ (Below.mono (by with_reducible assumption) ?_)); rotate_left; (focus (first | omega | (simp; done) | (simp; omega)))))

end Go.Proofs.Ytahkplakdbbmmaa
