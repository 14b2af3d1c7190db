/- Objects that were claimed one behind the other: plain law. -/
import Derived.Test.YtahkplakdbbmmaaInts
import Derived.Test.YtahkplakdbbmmaaFlat
namespace Go.Proofs.Ytahkplakdbbmmaa
set_option linter.unusedVariables false
set_option linter.unusedSimpArgs false
open Go.RowKit

/-- A head: words, slots, tag, whether it is done, scope, epoch. -/
structure Hd where
  z : Nat
  l : Int
  t : Int
  d : Bool
  s : Int
  e : Int
def Hd.cells (h : Hd) : List Value := [.int .i64 h.z, .int .i64 h.l, .int .i64 h.t, .bool h.d, .int .i64 h.s, .int .i64 h.e]
/-- Heads as the laws make them. -/
structure Hd.ok (h : Hd) : Prop where
  head : okHead h.z h.l h.t h.s h.e
  most : h.z ≤ 9
  slots : (h.l = h.z - 2 ∨ h.l = h.z - 3)
theorem Hd.ok.bd {h : Hd} (o : h.ok) : 2 ≤ h.z ∧ 0 ≤ h.l ∧ 2 + h.l ≤ h.z ∧ h.z ≤ 9 ∧ h.z ≤ 3 + h.l ∧ h.l ≤ 6 := by
  have := o.head
  have := o.most
  have := o.slots
  unfold okHead at *
  omega
/-- Where the i-th object begins, in words. -/
def wAt (H : Nat → Hd) : Nat → Nat
  | 0 => 8
  | i + 1 => wAt H i + (H i).z
theorem wAt_ext {H H' : Nat → Hd} {i : Nat} (h : ∀ j, j < i → (H' j).z = (H j).z) : wAt H' i = wAt H i := by
  induction i with
  | zero => rfl
  | succ i ih => rw [wAt, wAt, ih fun j hj => h j (by omega), h i (by omega)]
theorem wAt_ge (H : Nat → Hd) (i : Nat) : 8 ≤ wAt H i := by
  induction i with
  | zero => exact Nat.le_refl _
  | succ i ih => rw [wAt]; omega
theorem wAt_le {H : Nat → Hd} {N : Nat} (h : ∀ i, i < N → (H i).ok) : wAt H N ≤ 8 + 9 * N := by
  induction N with
  | zero => exact Nat.le_refl _
  | succ N ih => have := ih fun i hi => h i (by omega); have := (h N (by omega)).most; rw [wAt]; omega
theorem wAt_mono {H : Nat → Hd} {N : Nat} (h : ∀ i, i < N → (H i).ok) {i j : Nat} (hij : i < j) (hj : j ≤ N) : wAt H i + (H i).z ≤ wAt H j := by
  induction j with
  | zero => omega
  | succ j ih =>
    by_cases e : i = j
    · subst e; exact Nat.le_refl _
    · have := ih (by omega) (by omega); rw [wAt]; omega
/-- The words hold N objects with these heads, and 0 behind them. -/
structure rowV (V : Nat → Int) (N : Nat) (H : Nat → Hd) : Prop where
  used : V 0 = 8 * (wAt H N : Int) - 64
  ok : ∀ i, i < N → (H i).ok
  head : ∀ i, i < N → isObj (V (wAt H i)) (V (wAt H i + 1)) (H i).z (H i).l (H i).t (H i).d (H i).s (H i).e
  zero : ∀ m, wAt H N ≤ m → V m = 0
/-- H, but h at k. -/
def updH (H : Nat → Hd) (k : Nat) (h : Hd) : Nat → Hd := fun i => if i = k then h else H i
theorem updH_same (H : Nat → Hd) (k : Nat) (h : Hd) : updH H k h k = h := by simp [updH]
theorem updH_ne (H : Nat → Hd) {k i : Nat} (h : Hd) (hi : i ≠ k) : updH H k h i = H i := by simp [updH, hi]
theorem rowV.push {V : Nat → Int} {N : Nat} {H : Nat → Hd} (r : rowV V N H) (h : Hd) (ok : h.ok) (hz : ∀ m, wAt H N ≤ m → V m = 0) (u f t : Int) (hu : u = 8 * ((wAt H N + h.z : Nat) : Int) - 64) (o : isObj f t h.z h.l h.t h.d h.s h.e) :
    rowV (upd (upd (upd V 0 u) (wAt H N) f) (wAt H N + 1) t) (N + 1) (updH H N h) := by
  have e1 : ∀ i, i ≤ N → wAt (updH H N h) i = wAt H i := fun i hi => wAt_ext fun j hj => by rw [updH_ne _ _ (by omega)]
  have hg := wAt_ge H N
  have e2 : wAt (updH H N h) (N + 1) = wAt H N + h.z := by rw [wAt, e1 N (Nat.le_refl _), updH_same]
  refine ⟨?_, fun i hi => ?_, fun i hi => ?_, fun m hm => ?_⟩
  · rw [e2, ← hu]; simp [upd]; omega
  · by_cases c : i = N
    · subst c; rw [updH_same]; exact ok
    · rw [updH_ne _ _ c]; exact r.ok i (by omega)
  · by_cases c : i = N
    · subst c
      rw [updH_same, e1 i (Nat.le_refl _)]
      have a1 : upd (upd (upd V 0 u) (wAt H i) f) (wAt H i + 1) t (wAt H i) = f := by simp [upd]
      have a2 : upd (upd (upd V 0 u) (wAt H i) f) (wAt H i + 1) t (wAt H i + 1) = t := by simp [upd]
      rw [a1, a2]; exact o
    · rw [updH_ne _ _ c, e1 i (by omega)]
      have h1 := wAt_mono r.ok (i := i) (j := N) (by omega) (Nat.le_refl _)
      have h2 := (r.ok i (by omega)).bd
      have h3 := wAt_ge H i
      have a1 : upd (upd (upd V 0 u) (wAt H N) f) (wAt H N + 1) t (wAt H i) = V (wAt H i) := by simp [upd]; omega
      have a2 : upd (upd (upd V 0 u) (wAt H N) f) (wAt H N + 1) t (wAt H i + 1) = V (wAt H i + 1) := by simp [upd]; omega
      rw [a1, a2]; exact r.head i (by omega)
  · rw [e2] at hm
    have h2 := ok.bd
    have : upd (upd (upd V 0 u) (wAt H N) f) (wAt H N + 1) t m = V m := by simp [upd]; omega
    rw [this]; exact hz m (by omega)
theorem rowV.mark {V : Nat → Int} {N : Nat} {H : Nat → Hd} (r : rowV V N H) {k : Nat} (hk : k < N) :
    rowV (upd V (wAt H k) (hF (H k).z (H k).l (H k).t 1)) N (updH H k { H k with d := true }) := by
  have e0 : ∀ j, (updH H k { H k with d := true } j).z = (H j).z := fun j => by unfold updH; split <;> simp_all
  have e1 : ∀ i, wAt (updH H k { H k with d := true }) i = wAt H i := fun i => wAt_ext fun j _ => e0 j
  have hg := wAt_ge H k
  have hok := (r.ok k hk).bd
  have hkN := wAt_mono r.ok hk (Nat.le_refl _)
  refine ⟨?_, fun i hi => ?_, fun i hi => ?_, fun m hm => ?_⟩
  · rw [e1, ← r.used]; simp [upd]; omega
  · by_cases c : i = k
    · subst c; rw [updH_same]; exact ⟨(r.ok i hi).head, (r.ok i hi).most, (r.ok i hi).slots⟩
    · rw [updH_ne _ _ c]; exact r.ok i hi
  · rw [e1]
    by_cases c : i = k
    · subst c
      rw [updH_same]
      have a1 : upd V (wAt H i) (hF (H i).z (H i).l (H i).t 1) (wAt H i) = hF (H i).z (H i).l (H i).t 1 := by simp [upd]
      have a2 : upd V (wAt H i) (hF (H i).z (H i).l (H i).t 1) (wAt H i + 1) = V (wAt H i + 1) := by simp [upd]
      rw [a1, a2]; exact (r.head i hi).mark
    · rw [updH_ne _ _ c]
      have hoi := (r.ok i hi).bd
      have hne : wAt H i ≠ wAt H k ∧ wAt H i + 1 ≠ wAt H k := by
        rcases Nat.lt_or_ge i k with h | h
        · have := wAt_mono r.ok h (by omega); omega
        · have := wAt_mono r.ok (i := k) (j := i) (by omega) (by omega); omega
      have a1 : upd V (wAt H k) (hF (H k).z (H k).l (H k).t 1) (wAt H i) = V (wAt H i) := by simp [upd, hne.1]
      have a2 : upd V (wAt H k) (hF (H k).z (H k).l (H k).t 1) (wAt H i + 1) = V (wAt H i + 1) := by simp [upd, hne.2]
      rw [a1, a2]; exact r.head i hi
  · rw [e1] at hm
    have : upd V (wAt H k) (hF (H k).z (H k).l (H k).t 1) m = V m := by simp [upd]; omega
    rw [this]; exact r.zero m hm
theorem rowV.at_ {V : Nat → Int} {N : Nat} {H : Nat → Hd} (r : rowV V N H) (hN : N ≤ 6) {n : Nat} (hn : 64 ≤ n) {i : Nat} (hi : i < N) : obj V n (8 * (wAt H i : Int)) (H i).z := by
  have h1 := wAt_mono r.ok hi (Nat.le_refl _)
  have h2 := wAt_le r.ok
  have h3 := (r.ok i hi).bd
  exact ⟨wAt H i, _, _, _, _, _, rfl, by omega, r.head i hi⟩
/-- From the i-th object on, m objects. -/
theorem rowV.goes {V : Nat → Int} {N : Nat} {H : Nat → Hd} (r : rowV V N H) (hN : N ≤ 6) {n : Nat} (hn : 64 ≤ n) : ∀ (m i : Nat), i + m ≤ N →
    way V n true (8 * (wAt H i : Int)) (8 * (wAt H (i + m) : Int) - 8 * wAt H i) ((List.range' i m).map fun j => 8 * (wAt H j : Int)) := by
  intro m
  induction m with
  | zero => intro i hi; rw [Nat.add_zero, Int.sub_self]; exact .done _
  | succ m ih =>
    intro i hi
    have h1 := wAt_mono r.ok (i := i) (j := i + (m + 1)) (by omega) (by omega)
    have h2 := ih (i + 1) (by omega)
    rw [List.range'_succ, List.map_cons]
    have e : i + 1 + m = i + (m + 1) := by omega
    rw [e] at h2
    refine .step (r.at_ hN hn (by omega)) (by omega) ?_
    rw [wAt] at h2
    rw [show 8 * (wAt H i : Int) + 8 * ((H i).z : Int) = 8 * ((wAt H i + (H i).z : Nat) : Int) from by omega, show 8 * (wAt H (i + (m + 1)) : Int) - 8 * (wAt H i : Int) - 8 * ((H i).z : Int) = 8 * (wAt H (i + (m + 1)) : Int) - 8 * ((wAt H i + (H i).z : Nat) : Int) from by omega]
    exact h2
theorem rowV.nothing {V : Nat → Int} {N : Nat} {H : Nat → Hd} (r : rowV V N H) (n : Nat) : noObj V n (8 * (wAt H N : Int)) := by
  intro k hk hk1 ok
  have h0 := r.zero k (by omega)
  have := ok.2.1
  rw [h0] at this
  simp at this
/-- What is longer fails, and what is shorter. -/
theorem rowV.long {V : Nat → Int} {N : Nat} {H : Nat → Hd} (r : rowV V N H) (hN : N ≤ 6) {n : Nat} (hn : 64 ≤ n) : ∀ (m i : Nat), i + m = N →
    ∃ xs, way V n false (8 * (wAt H i : Int)) (8 * (wAt H N : Int) - 8 * wAt H i + 8) xs := by
  intro m
  induction m with
  | zero => intro i hi; obtain rfl : i = N := by omega
            exact ⟨_, .no (by omega) (r.nothing n)⟩
  | succ m ih =>
    intro i hi
    have h1 := wAt_mono r.ok (i := i) (j := N) (by omega) (by omega)
    obtain ⟨xs, h2⟩ := ih (i + 1) (by omega)
    rw [wAt] at h2
    refine ⟨8 * (wAt H i : Int) :: xs, .step (r.at_ hN hn (by omega)) (by omega) ?_⟩
    · rw [show 8 * (wAt H i : Int) + 8 * ((H i).z : Int) = 8 * ((wAt H i + (H i).z : Nat) : Int) from by omega, show 8 * (wAt H N : Int) - 8 * (wAt H i : Int) + 8 - 8 * ((H i).z : Int) = 8 * (wAt H N : Int) - 8 * ((wAt H i + (H i).z : Nat) : Int) + 8 from by omega]
      exact h2
theorem rowV.short {V : Nat → Int} {N : Nat} {H : Nat → Hd} (r : rowV V N H) (hN : N ≤ 6) {n : Nat} (hn : 64 ≤ n) : ∀ (m i : Nat), i + (m + 1) = N →
    ∃ xs, way V n false (8 * (wAt H i : Int)) (8 * (wAt H N : Int) - 8 * wAt H i - 8) xs := by
  intro m
  induction m with
  | zero =>
    intro i hi
    have h3 := (r.ok i (by omega)).bd
    have e : wAt H N = wAt H i + (H i).z := by rw [← hi, wAt]
    exact ⟨_, .long (by omega) (r.at_ hN hn (by omega)) (by omega)⟩
  | succ m ih =>
    intro i hi
    have h1 := wAt_mono r.ok (i := i + 1) (j := N) (by omega) (by omega)
    have h3 := (r.ok (i + 1) (by omega)).bd
    obtain ⟨xs, h2⟩ := ih (i + 1) (by omega)
    rw [wAt] at h2 h1
    refine ⟨8 * (wAt H i : Int) :: xs, .step (r.at_ hN hn (by omega)) (by omega) ?_⟩
    · rw [show 8 * (wAt H i : Int) + 8 * ((H i).z : Int) = 8 * ((wAt H i + (H i).z : Nat) : Int) from by omega, show 8 * (wAt H N : Int) - 8 * (wAt H i : Int) - 8 - 8 * ((H i).z : Int) = 8 * (wAt H N : Int) - 8 * ((wAt H i + (H i).z : Nat) : Int) - 8 from by omega]
      exact h2

/-- The cells of N heads. -/
def headCells (H : Nat → Hd) (N : Nat) : List Value := (List.range N).flatMap fun i => (H i).cells
def placeCells (H : Nat → Hd) (N : Nat) : List Value := (List.range N).map fun i => Value.int .i64 (8 * (wAt H i : Int))
theorem headCells_succ (H : Nat → Hd) (N : Nat) : headCells H (N + 1) = headCells H N ++ (H N).cells := by
  simp [headCells, List.range_succ]
theorem placeCells_succ (H : Nat → Hd) (N : Nat) : placeCells H (N + 1) = placeCells H N ++ [Value.int .i64 (8 * (wAt H N : Int))] := by
  simp [placeCells, List.range_succ]
theorem headCells_len (H : Nat → Hd) (N : Nat) : (headCells H N).length = N * 6 := by
  induction N with
  | zero => rfl
  | succ N ih => rw [headCells_succ, List.length_append, ih]; simp [Hd.cells]; omega
theorem headCells_get (H : Nat → Hd) (N i j : Nat) (hi : i < N) (hj : j < 6) : (headCells H N)[i * 6 + j]? = (H i).cells[j]? := by
  induction N with
  | zero => omega
  | succ N ih =>
    rw [headCells_succ]
    by_cases c : i < N
    · rw [List.getElem?_append_left (by rw [headCells_len]; omega)]; exact ih c
    · obtain rfl : i = N := by omega
      rw [List.getElem?_append_right (by rw [headCells_len]; omega), headCells_len]
      congr 1; omega
theorem headCells_ext {H H' : Nat → Hd} {N : Nat} (h : ∀ i, i < N → H' i = H i) : headCells H' N = headCells H N := by
  induction N with
  | zero => rfl
  | succ N ih => rw [headCells_succ, headCells_succ, ih fun i hi => h i (by omega), h N (by omega)]
theorem placeCells_ext {H H' : Nat → Hd} {N : Nat} (h : ∀ i, i < N → H' i = H i) : placeCells H' N = placeCells H N := by
  induction N with
  | zero => rfl
  | succ N ih => rw [placeCells_succ, placeCells_succ, ih fun i hi => h i (by omega), wAt_ext fun j hj => by rw [h j (by omega)]]
theorem wAt_push (H : Nat → Hd) (N : Nat) (h : Hd) : wAt (updH H N h) (N + 1) = wAt H N + h.z := by
  rw [wAt, wAt_ext (H := H) fun j hj => by rw [updH_ne _ _ (by omega)], updH_same]
theorem headCells_push (H : Nat → Hd) (N : Nat) (h : Hd) : headCells (updH H N h) (N + 1) = headCells H N ++ h.cells := by
  rw [headCells_succ, headCells_ext fun i hi => updH_ne _ _ (by omega), updH_same]
theorem placeCells_push (H : Nat → Hd) (N : Nat) (h : Hd) : placeCells (updH H N h) (N + 1) = placeCells H N ++ [Value.int .i64 (8 * (wAt H N : Int))] := by
  rw [placeCells_succ, placeCells_ext fun i hi => updH_ne _ _ (by omega), wAt_ext (H := H) fun j hj => by rw [updH_ne _ _ (by omega)]]
theorem placeCells_map (H : Nat → Hd) (N : Nat) : placeCells H N = ((List.range N).map fun i => 8 * (wAt H i : Int)).map (Value.int .i64) := by
  simp [placeCells]
theorem own_rd6 {w : World} {B t N : Nat} {v : Value} {H : Nat → Hd} (h : w.ownsRow B t 6 v N (headCells H N)) :
    ∃ A c, v = .slice A N c ∧ N ≤ c ∧ c ≤ maxLen ∧ rd w w.heap.size A N 6 (fun i => (H i).cells) ∧ (∀ a, A = some a → B ≤ a.block ∧ ∀ o, w.frozen? ⟨a.block, o, none⟩ = false) := by
  rcases h.2 with ⟨rfl, h0⟩ | ⟨g, cap, cur, rfl, h1, h2, h3, h4, h5, h6⟩
  · exact ⟨none, 0, by rw [h0], by omega, by unfold maxLen; omega, fun h => by omega, fun a h => by cases h⟩
  · refine ⟨_, cap, rfl, h3, h4, fun _ => ⟨g, 0, rfl, (Array.getElem?_eq_some_iff.1 h2).1, fun i j u hi hu => ?_⟩, fun a ha => ?_⟩
    · have hj : j < 6 := (List.getElem?_eq_some_iff.1 hu).1
      rw [cell_of_row w g _ cur _ _ h2]
      have h7 : (cur.toList.take (N * 6))[i * 6 + j]? = cur.toList[i * 6 + j]? := by rw [List.getElem?_take]; simp; omega
      rw [h6, headCells_get H N i j hi hj, hu] at h7
      rw [Nat.zero_add, ← Array.getElem?_toList, ← h7]
    · cases ha
      exact ⟨h1, fun o => by simp [World.frozen?, h2]⟩

end Go.Proofs.Ytahkplakdbbmmaa
