/- A head in a row of heads is marked; what is left of the rows. -/
import Derived.Test.YtahkplakdbbmmaaRowX
namespace Go.Proofs.Ytahkplakdbbmmaa
set_option linter.unusedVariables false
set_option linter.unusedSimpArgs false
open Go.RowKit

theorem rd.mark {w : World} {B bh oh N k : Nat} {H : Nat → Hd} (h : rd w B (some ⟨bh, oh, none⟩) N 6 (fun i => (H i).cells)) (hk : k < N) :
    rd (w.setCell ⟨bh, oh + k * 6 + 3, none⟩ (.bool true)) B (some ⟨bh, oh, none⟩) N 6 (fun i => (updH H k { H k with d := true } i).cells) := by
  intro hp
  obtain ⟨b, off, e, hb, hc⟩ := h hp
  cases e
  refine ⟨_, _, rfl, hb, fun i j u hi hu => ?_⟩
  have hj : j < 6 := (List.getElem?_eq_some_iff.1 hu).1
  replace hu : (updH H k { H k with d := true } i).cells[j]? = some u := hu
  by_cases c : i = k ∧ j = 3
  · obtain ⟨rfl, rfl⟩ := c
    rw [updH_same] at hu
    have hu' : u = .bool true := by simpa [Hd.cells] using hu.symm
    subst hu'
    have h0 := hc i 3 _ hi rfl
    rw [← Nat.add_assoc] at h0 ⊢
    exact World.cell?_setCell_same' _ _ _ (by rw [h0]; rfl)
  · have hne : (⟨bh, oh + (i * 6 + j), none⟩ : Addr) ≠ ⟨bh, oh + k * 6 + 3, none⟩ := by
      intro e
      have := congrArg Addr.off e
      simp at this
      omega
    rw [World.cell?_setCell_other w _ _ _ (fun e => hne e.symm)]
    refine hc i j u hi ?_
    by_cases h1 : i = k
    · subst h1
      rw [updH_same] at hu
      match j, hj, hu with
      | 0, _, hu => exact hu
      | 1, _, hu => exact hu
      | 2, _, hu => exact hu
      | 3, _, hu => exact absurd ⟨rfl, rfl⟩ c
      | 4, _, hu => exact hu
      | 5, _, hu => exact hu
    · rw [updH_ne _ _ h1] at hu; exact hu
theorem rd.farset {w : World} {B b off n size : Nat} {row : Nat → List Value} (h : rd w B (some ⟨b, off, none⟩) n size row) {q : Addr} (hq : q.block ≠ b) (v : Value) : rd (w.setCell q v) B (some ⟨b, off, none⟩) n size row := by
  intro hp
  obtain ⟨b', off', e, hb, hc⟩ := h hp
  cases e
  exact ⟨_, _, rfl, hb, fun i j u hi hu => by rw [World.cell?_setCell_other w _ _ _ (fun e => hq (by rw [e]))]; exact hc i j u hi hu⟩
theorem rd.butb {w w' : World} {B B' g b off n size : Nat} {row : Nat → List Value} (h : rd w B (some ⟨b, off, none⟩) n size row) (hb : But B' g w w') (hB : B ≤ B') (hg : b ≠ g) : rd w' B (some ⟨b, off, none⟩) n size row := by
  intro hp
  obtain ⟨b', off', e, hbb, hc⟩ := h hp
  cases e
  exact ⟨_, _, rfl, hbb, fun i j u hi hu => (hb.cell (p := ⟨b, off + (i * size + j), none⟩) (by simp; omega) hg).trans (hc i j u hi hu)⟩
theorem own_two_ne {w : World} {B1 B2 e1 e2 s1 s2 n1 n2 c1 c2 b1 o1 b2 o2 : Nat} {xs1 xs2 : List Value} (h1 : w.ownsRow B1 e1 s1 (.slice (some ⟨b1, o1, none⟩) n1 c1) n1 xs1) (h2 : w.ownsRow B2 e2 s2 (.slice (some ⟨b2, o2, none⟩) n2 c2) n2 xs2) (he : e1 ≠ e2) : b1 ≠ b2 := by
  intro hbb
  subst hbb
  rcases h1.2 with ⟨e, _⟩ | ⟨g, cap, cur, e, h3, h4, h5⟩
  · cases e
  · cases e
    exact blk_row_ne h2 (show Blk w b1 e1 cur from h4) he rfl
theorem wAt_62' {H : Nat → Hd} {N i : Nat} (h : ∀ i, i < N → (H i).ok) (hN : N ≤ 6) (hi : i < N) : wAt H i + 2 ≤ 62 ∧ 8 ≤ wAt H i := by
  have := wAt_le h
  have := wAt_mono h hi (Nat.le_refl _)
  have := (h i hi).bd
  have := wAt_ge H i
  omega
theorem wAt_marked (H : Nat → Hd) (k i : Nat) : wAt (updH H k { H k with d := true }) i = wAt H i :=
  wAt_ext fun j _ => by unfold updH; split <;> simp_all
/-- Too short, or below 0. -/
theorem rowV.less {V : Nat → Int} {N : Nat} {H : Nat → Hd} (r : rowV V N H) (hN : N ≤ 6) (w : World) (p g : Nat) (ha : isW w p g 80 V) (left : Int) (el : left = 8 * (wAt H N : Int) - 64 - 8) :
    Calls Try.prog 39 #[.pointer (some ⟨p, 0, none⟩), .int .i64 64, .int .i64 left] w fun x w' => x = .returned (.tuple #[.slice none 0 0, .int .i64 18]) ∧ Below w.heap.size w w' := by
  subst el
  have hk0 : wAt H 0 = 8 := rfl
  have hle := wAt_le r.ok
  rcases Nat.eq_zero_or_pos N with rfl | h
  · exact walk_neg _ _ _ _ (by rw [hk0]; omega)
  · have h1 := wAt_mono r.ok h (Nat.le_refl _)
    have h2 := (r.ok 0 h).bd
    obtain ⟨xs, hw⟩ := r.short hN (n := 80) (by omega) (N - 1) 0 (by omega)
    rw [hk0] at hw
    refine walk_false w p g 80 V 64 _ xs ha ?_ (by unfold inR; omega) (by rw [hk0] at h1; omega)
    have e1 : (8 * ((8 : Nat) : Int)) = 64 := by decide
    rw [e1] at hw
    exact hw
theorem rowV.more {V : Nat → Int} {N : Nat} {H : Nat → Hd} (r : rowV V N H) (hN : N ≤ 6) (w : World) (p g : Nat) (ha : isW w p g 80 V) (left : Int) (el : left = 8 * (wAt H N : Int) - 64 + 8) :
    Calls Try.prog 39 #[.pointer (some ⟨p, 0, none⟩), .int .i64 64, .int .i64 left] w fun x w' => x = .returned (.tuple #[.slice none 0 0, .int .i64 18]) ∧ Below w.heap.size w w' := by
  subst el
  have hk0 : wAt H 0 = 8 := rfl
  have hle := wAt_le r.ok
  have hge := wAt_ge H N
  obtain ⟨xs, hw⟩ := r.long hN (n := 80) (by omega) N 0 (by omega)
  rw [hk0] at hw
  refine walk_false w p g 80 V 64 _ xs ha ?_ (by unfold inR; omega) (by omega)
  have e1 : (8 * ((8 : Nat) : Int)) = 64 := by decide
  rw [e1] at hw
  exact hw
end Go.Proofs.Ytahkplakdbbmmaa
