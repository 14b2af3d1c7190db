/- A slice that comes in, of integers or of structs whose fields are integers and bools: its cells. Over any program. -/
import Derived.Test.YtahkplakdbbmmaaFlat
import Derived.Test.YtahkplakdbbmmaaMem
import Derived.Deep.Slices
import Derived.OpenShut
namespace Go.Proofs.Ytahkplakdbbmmaa
set_option linter.unusedVariables false
open Go.ChangeShapes Go.WideShapes Go.RowKit

/-- The elements of a slice: n rows of size cells each; all lie below block B. -/
def rd (w : World) (B : Nat) (A : Option Addr) (n size : Nat) (row : Nat → List Value) : Prop :=
  0 < n → ∃ b off, A = some ⟨b, off, none⟩ ∧ b < B ∧ ∀ i j u, i < n → (row i)[j]? = some u → w.cell? ⟨b, off + (i * size + j), none⟩ = some u
theorem rd.keep {w w' : World} {B : Nat} {A : Option Addr} {n size : Nat} {row : Nat → List Value} (h : rd w B A n size row) (hk : ∀ p : Addr, p.block < B → w'.cell? p = w.cell? p) : rd w' B A n size row := by
  intro hn
  obtain ⟨b, off, e, hb, hc⟩ := h hn
  exact ⟨b, off, e, hb, fun i j u hi hu => (hk _ hb).trans (hc i j u hi hu)⟩
theorem rd.below {w w' : World} {B B' : Nat} {A : Option Addr} {n size : Nat} {row : Nat → List Value} (h : rd w B A n size row) (hb : Below B' w w') (hB : B ≤ B') : rd w' B A n size row :=
  h.keep fun p hp => hb.cell (Nat.lt_of_lt_of_le hp hB)
theorem rd.but {w w' : World} {B B' g : Nat} {A : Option Addr} {n size : Nat} {row : Nat → List Value} (h : rd w B A n size row) (hb : But B' g w w') (hB : B ≤ B') (hg : B ≤ g) : rd w' B A n size row :=
  h.keep fun p hp => hb.cell (Nat.lt_of_lt_of_le hp hB) (by omega)
theorem rd.alloc {w : World} {B : Nat} {A : Option Addr} {n size : Nat} {row : Nat → List Value} (h : rd w B A n size row) (hB : B ≤ w.heap.size) (o : Obj) : rd (w.alloc o) B A n size row :=
  h.below ((Below.refl B w).alloc hB o) (Nat.le_refl _)
theorem rd.drewN {w : World} {B : Nat} {A : Option Addr} {n size : Nat} {row : Nat → List Value} (h : rd w B A n size row) (k : Nat) : rd (w.drewN k) B A n size row := h
theorem rd.set {w : World} {B : Nat} {A : Option Addr} {n size : Nat} {row : Nat → List Value} (h : rd w B A n size row) {p : Addr} (hp : B ≤ p.block) (v : Value) : rd (w.setCell p v) B A n size row :=
  h.keep fun q hq => World.cell?_setCell_other w p q v (fun e => by subst e; omega)
theorem rd.at_ {w : World} {B : Nat} {A : Option Addr} {n size : Nat} {row : Nat → List Value} (h : rd w B A n size row) {i : Nat} (hi : i < n) :
    ∃ b off, A = some ⟨b, off, none⟩ ∧ b < B ∧ ∀ j u, (row i)[j]? = some u → w.cell? ⟨b, off + (i * size + j), none⟩ = some u := by
  obtain ⟨b, off, e, hb, hc⟩ := h (by omega)
  exact ⟨b, off, e, hb, fun j u hu => hc i j u hi hu⟩
theorem cell_lt {w : World} {a : Addr} {v : Value} (h : w.cell? a = some v) : a.block < w.heap.size := by
  unfold World.cell? at h
  split at h
  · rename_i hb; exact (Array.getElem?_eq_some_iff.1 hb).1
  · cases h
/-- Of integers. -/
def ints1 (k : IntKind) (f : Nat → Int) : Nat → List Value := fun i => [.int k (f i)]
theorem rd.int_at {w : World} {B : Nat} {A : Option Addr} {n : Nat} {k : IntKind} {f : Nat → Int} (h : rd w B A n 1 (ints1 k f)) {i : Nat} (hi : i < n) :
    ∃ b off, A = some ⟨b, off, none⟩ ∧ b < B ∧ w.cell? ⟨b, off + i, none⟩ = some (.int k (f i)) := by
  obtain ⟨b, off, e, hb, hc⟩ := h.at_ hi
  have := hc 0 _ rfl
  rw [Nat.mul_one, Nat.add_zero] at this
  exact ⟨b, off, e, hb, this⟩

/-- The kinds of an element's cells: an integer's, a bool's, or those of a struct's fields. -/
def elemKinds (P : Program) (e : TypeId) : Option (List (Option IntKind)) :=
  match P.underlying e with
  | some (.struct fs) => if (List.range fs.size).all (fun i => fs[i]?.all fun f => f.offset == i && P.cellsOf f.type == 1) then fs.toList.mapM fun f => cellKind P f.type else none
  | _ => (cellKind P e).map fun k => [k]

section
variable {H : Type} {enc : TypeId × Value → H} {P : Program} {w : World} {base : Nat} {spare : Nat → Bool} {held : Bool}
theorem fits_one {t : TypeId} {k : Option IntKind} {fuel : Nat} {cs : List Value} {x : DataW H × List MemPlace} (hk : cellKind P t = some k) (h : DataW.trod enc P w base spare held fuel t cs = some x) : FitsK [k] cs := by
  unfold cellKind at hk
  cases hu : P.underlying t with
  | none => rw [hu] at hk; simp at hk
  | some d =>
    rw [hu] at hk
    cases d <;> simp at hk
    · subst hk
      obtain ⟨b, rfl, _⟩ := DataW.trod_bool hu h
      exact ⟨b, [], rfl, rfl⟩
    · subst hk
      obtain ⟨n, rfl, _, hw⟩ := DataW.trod_int hu h
      exact ⟨n, [], rfl, hw, rfl⟩
theorem fits_row : ∀ (fs : List Field) (ks : List (Option IntKind)) (cs : List Value), fs.mapM (fun f => cellKind P f.type) = some ks → cs.length = fs.length →
    (∀ i f, fs[i]? = some f → ∀ k, cellKind P f.type = some k → FitsK [k] ((cs.drop i).take 1)) → FitsK ks cs
  | [], ks, cs, hk, hl, _ => by
    simp at hk hl
    subst hk; subst hl; rfl
  | f :: fs, ks, cs, hk, hl, h => by
    obtain ⟨k, ks', rfl, hk0, hks⟩ := mapM_some_cons hk
    match cs, hl with
    | v :: vs, hl =>
      have ih := fits_row fs ks' vs hks (by simpa using hl) fun i g hg k hk => by
        have := h (i + 1) g (by simpa using hg) k hk
        simpa using this
      have h0 := h 0 f rfl k hk0
      simp at h0
      cases k with
      | none => obtain ⟨b, rest, e, he⟩ := h0; simp [FitsK] at he; subst he; injection e with e _; exact ⟨b, vs, by rw [e], ih⟩
      | some j => obtain ⟨n, rest, e, hw, he⟩ := h0; simp [FitsK] at he; subst he; injection e with e _; exact ⟨n, vs, by rw [e], hw, ih⟩
theorem fits_elem {e : TypeId} {ks : List (Option IntKind)} {fuel : Nat} {cs : List Value} {x : DataW H × List MemPlace} (hk : elemKinds P e = some ks) (hc : P.cellsOf e = ks.length) (h : DataW.trod enc P w base spare held fuel e cs = some x) : FitsK ks cs := by
  unfold elemKinds at hk
  split at hk
  · next fs hu =>
    split at hk
    · next hall =>
      obtain ⟨xs, n, _, _, hl, _, hf⟩ := DataW.trod_struct hu h
      have hlen : ∀ (l : List Field) (ks : List (Option IntKind)), l.mapM (fun f => cellKind P f.type) = some ks → ks.length = l.length := by
        intro l
        induction l with
        | nil => intro ks h; simp at h; subst h; rfl
        | cons a l ih => intro ks h; obtain ⟨k, ks', rfl, _, h2⟩ := mapM_some_cons h; simp [ih ks' h2]
      refine fits_row fs.toList ks cs hk (by rw [hl, hc, hlen _ _ hk]) fun i f hfi k hki => ?_
      have hi : i < fs.size := by
        have := (List.getElem?_eq_some_iff.1 hfi).1
        simpa using this
      have hfi' : fs[i]? = some f := by simpa using hfi
      have ha := List.all_eq_true.1 hall i (List.mem_range.2 hi)
      rw [hfi'] at ha
      simp at ha
      have := hf i f hfi'
      rw [ha.1, ha.2] at this
      cases hx : xs[i]? with
      | none => 
        rw [hx] at this
        exfalso
        have hxl : xs.length = fs.size := by
          obtain ⟨xs', n', _, _, _, h5, h6⟩ := DataW.trod_struct hu h
          omega
        rw [List.getElem?_eq_none_iff] at hx
        omega
      | some y => rw [hx] at this; exact fits_one hki this
    · simp at hk
  · cases hq : cellKind P e with
    | none => rw [hq] at hk; simp at hk
    | some k =>
      rw [hq] at hk
      simp at hk
      subst hk
      exact fits_one hq h

theorem open_rd {r : Reach} {b0 : Nat} {t e : TypeId} {ks : List (Option IntKind)} (ht : P.underlying t = some (.slice e)) (hk : elemKinds P e = some ks) (hc : P.cellsOf e = ks.length) (hk0 : 0 < ks.length) {v : Value} {d : DataW H} {p : List MemPlace}
    (hval : Value.okWide P w r b0 t v) (h : DataW.Trod enc P w base spare held t v d p) :
    ∃ A n c row, v = .slice A n c ∧ n ≤ c ∧ c ≤ maxLen ∧ rd w w.heap.size A n ks.length row ∧ ∀ i, i < n → FitsK ks (row i) := by
  have hv : ∃ A n c, v = .slice A n c := by
    simp only [Value.okWide, ht, Cell.okWide, Cell.ok] at hval
    cases v <;> simp_all
  obtain ⟨A, n, c, rfl⟩ := hv
  obtain ⟨fuel, h⟩ := h
  rcases Go.Deep.open_slice ht h with ⟨h1, _⟩ | ⟨a, len, cap, m, k, D, Pl, h1, hb, hl, hm, hmm, _, hx⟩
  · simp [Value.cells] at h1
    obtain ⟨rfl, rfl, rfl⟩ := h1
    exact ⟨none, 0, 0, fun _ => [], rfl, Nat.le_refl _, Nat.zero_le _, fun h => absurd h (by omega), fun i hi => absurd hi (by omega)⟩
  · simp [Value.cells] at h1
    obtain ⟨rfl, rfl, rfl⟩ := h1
    have hlm : n ≤ m := by rw [hmm]; split <;> omega
    obtain ⟨row, hrow⟩ := Go.Deep.choose_lt (n := n) (p := fun i (l : List Value) => l.length = ks.length ∧ FitsK ks l ∧ ∀ j u, l[j]? = some u → w.cell? (a.add (i * ks.length + j)) = some u) (fun i hi => by
      obtain ⟨cs', h2, h3⟩ := hx i (by omega)
      obtain ⟨_, hlen, hcell⟩ := World.cells?_some h2
      refine ⟨cs', by rw [hlen, hc], fits_elem hk hc h3, fun j u hu => ?_⟩
      have hj : j < cs'.length := (List.getElem?_eq_some_iff.1 hu).1
      have := hcell j (by omega)
      rw [Go.Deep.add_add, hc, hu] at this
      exact this)
    refine ⟨some a, n, c, row, rfl, hl, hm, fun hn => ?_, fun i hi => (hrow i hi).2.1⟩
    obtain ⟨b, off, spot⟩ := a
    have h0 := hrow 0 hn
    obtain ⟨u, hu⟩ : ∃ u, (row 0)[0]? = some u := ⟨_, List.getElem?_eq_getElem (by have := h0.1; omega)⟩
    have h00 := h0.2.2 0 u hu
    have hspot : spot = none := by simpa [Addr.add] using World.cell?_spot h00
    subst hspot
    refine ⟨b, off, rfl, ?_, fun i j u hi hu => ?_⟩
    · have := cell_lt h00
      simpa [Addr.add] using this
    · have := (hrow i hi).2.2 j u hu
      rwa [Go.WideShapes.add_plain] at this

theorem open_rd_int {r : Reach} {b0 : Nat} {t e : TypeId} {k : IntKind} (ht : P.underlying t = some (.slice e)) (hk : elemKinds P e = some [some k]) (hc : P.cellsOf e = 1) {v : Value} {d : DataW H} {p : List MemPlace}
    (hval : Value.okWide P w r b0 t v) (h : DataW.Trod enc P w base spare held t v d p) :
    ∃ A n c f, v = .slice A n c ∧ n ≤ c ∧ c ≤ maxLen ∧ rd w w.heap.size A n 1 (ints1 k f) ∧ ∀ i, (Lit.int k (f i)).wf = true := by
  obtain ⟨A, n, c, row, rfl, h1, h2, h3, h4⟩ := open_rd ht hk hc (by simp) hval h
  have h5 : ∀ i, ∃ m, (i < n → row i = [.int k m]) ∧ (Lit.int k m).wf = true := by
    intro i
    by_cases hi : i < n
    · obtain ⟨m, rest, e, hw, he⟩ := h4 i hi
      exact ⟨m, fun _ => by rw [e, he], hw⟩
    · exact ⟨0, fun h => absurd h hi, by cases k <;> decide⟩
  refine ⟨A, n, c, fun i => Classical.choose (h5 i), rfl, h1, h2, fun hn => ?_, fun i => (Classical.choose_spec (h5 i)).2⟩
  obtain ⟨b, off, e, hb, hcell⟩ := h3 hn
  refine ⟨b, off, e, hb, fun i j u hi hu => hcell i j u hi ?_⟩
  rw [(Classical.choose_spec (h5 i)).1 hi]
  exact hu
end
end Go.Proofs.Ytahkplakdbbmmaa
