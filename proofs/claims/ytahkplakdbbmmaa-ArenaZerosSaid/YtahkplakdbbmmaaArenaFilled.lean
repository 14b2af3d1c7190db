/- filled: an arena of twenty words. -/
import Derived.Test.YtahkplakdbbmmaaArenaLaws
import Derived.Test.YtahkplakdbbmmaaArenaW
import Derived.Test.YtahkplakdbbmmaaArenaPlain
namespace Go.Proofs.Ytahkplakdbbmmaa
set_option linter.unusedVariables false
set_option linter.unusedSimpArgs false
open Go.RowKit

/-- The first k words put. -/
def fillK (L : Nat → Int) : Nat → Nat → Int
  | 0 => fun _ => 0
  | k + 1 => putW (fillK L k) (8 * k) (L k)
theorem fillK_word (L : Nat → Int) (hL : ∀ i, inU (L i)) (k : Nat) (i : Nat) (hi : i < k) : wordAt (fillK L k) (8 * i) = L i := by
  induction k with
  | zero => omega
  | succ k ih =>
    rw [fillK]
    by_cases c : i = k
    · subst c; exact wordAt_put _ _ _ (hL i)
    · rw [wordAt_other _ _ _ _ (by omega)]; exact ih (by omega)

set_option maxHeartbeats 4000000 in
set_option maxRecDepth 100000 in
theorem filled_t (L : Nat → Int) (hL : ∀ i, inU (L i)) (w : World) :
    Calls Try.prog 21 #[.agg (cellsF .u64 20 L)] w fun e w' => ∃ p g, e = .returned (.pointer (some ⟨p, 0, none⟩)) ∧ isArena w' p g 160 (fillK L 20) ∧ Below w.heap.size w w' ∧ w.heap.size ≤ p ∧ w.heap.size ≤ g := by
  go_enter Try.func21, Try.ntmps21
  go_wp2_with fail
  refine (new_t 160 _ (by omega) (by omega)).mono ?_
  rintro e w1 ⟨p, g, rfl, ha1, hb1, hp, hg⟩
  have hz1 := hb1.size
  rw [World.size_alloc] at hz1 hp hg
  have hc0 : ∀ i, i < 20 → w1.cell? ⟨w.heap.size, i, none⟩ = some (.int .u64 (L i)) := by
    intro i hi
    rw [hb1.cell (p := ⟨w.heap.size, i, none⟩) (by simp)]
    exact isRow.cell (k := .u64) (t := 39) (n := 20) (f := L) (by unfold isRow; exact pushed _ _ _ rfl) i hi
  have H0 := Lib.hid hc0
  clear hc0
  go_wp2_with fail
  go_loopw [5] (fun i wr => ∃ k : Nat, k ≤ 20 ∧ i = .int .i64 k ∧ isArena wr p g 160 (fillK L k) ∧ But w1.heap.size g w1 wr) (fun i _ => 20 - (intOf i).toNat)
  case atStart => exact ⟨0, by omega, rfl, ha1, But.refl _ _ _⟩
  case round =>
    obtain ⟨k, hk, rfl, har, hbr⟩ := hrel
    by_cases hlt : k < 20
    · have hc : wr.cell? ⟨w.heap.size, k, none⟩ = some (.int .u64 (L k)) := by
        rw [hbr.cell (by simp; omega) (by simp; omega)]; exact H0.out k hlt
      have hlk := hL k
      obtain ⟨x, hx⟩ : ∃ x, x = L k := ⟨_, rfl⟩
      rw [← hx] at hc hlk
      have Hx := Lib.hid hx
      clear hx
      go_wp2_with fail
      refine (put_t _ _ _ _ _ _ _ har (by omega) (by omega) (by omega) hlk).mono ?_
      rintro e w2 ⟨rfl, ha2, hb2⟩
      go_wp2_with fail
      go_roundw
      case rel =>
        refine ⟨k + 1, by omega, by go_num, ?_, hbr.trans (hb2.mono hbr.size)⟩
        rw [show (8 * (k : Int)).toNat = 8 * k from by omega, Hx.out] at ha2
        exact ha2
      case measure => simp [intOf]; omega
    · obtain rfl : k = 20 := by omega
      go_wp2_with fail
      go_ret
      exact ⟨p, g, rfl, har, ((Below.refl _ _).alloc (Nat.le_refl _) _).trans ((hb1.mono (by simp)).trans (hbr.below (by omega) (by omega))), by omega, by omega⟩

theorem filled_w (L : Nat → Int) (hL : ∀ i, inU (L i)) (w : World) :
    Calls Try.prog 21 #[.agg (cellsF .u64 20 L)] w fun e w' => ∃ p g, e = .returned (.pointer (some ⟨p, 0, none⟩)) ∧ isW w' p g 20 L ∧ Below w.heap.size w w' ∧ w.heap.size ≤ p ∧ w.heap.size ≤ g := by
  refine (filled_t L hL w).mono fun e w' hh => ?_
  obtain ⟨p, g, he, ha, hh⟩ := hh
  exact ⟨p, g, he, ⟨_, ha, fun i hi => fillK_word L hL 20 i hi⟩, hh⟩

/-- The cells of a list of numbers. -/
def lst (l : List Int) : Nat → Int := fun i => l.getD i 0
theorem cellsF_lst (k : IntKind) (l : List Int) : cellsF k l.length (lst l) = (l.map (Value.int k)).toArray := by
  apply Array.ext_getElem?
  intro i
  by_cases h : i < l.length
  · rw [cellsF_get _ _ _ _ h]
    simp [lst, h]
  · rw [cellsF_none _ _ _ _ (by omega)]
    rw [List.getElem?_toArray, List.getElem?_eq_none (by simp; omega)]
theorem lst_bd (l : List Int) (h : ∀ x ∈ l, inU x) (i : Nat) : inU (lst l i) := by
  unfold lst
  by_cases c : i < l.length
  · have e : l.getD i 0 = l[i] := by simp [List.getD, c]
    rw [e]; exact h _ (List.getElem_mem c)
  · have e : l.getD i 0 = 0 := by simp [List.getD, List.getElem?_eq_none (Nat.le_of_not_lt c)]
    rw [e]; unfold inU; omega

end Go.Proofs.Ytahkplakdbbmmaa
