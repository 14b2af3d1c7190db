/- A struct or an array by value whose cells are integers and bools: its cells written out, each fitting its kind. Over any program. -/
import Derived.ProofKit
import Derived.KernelRfl
namespace Go.Proofs.Ytahkplakdbbmmaa
set_option linter.unusedVariables false
open Go.ChangeShapes Go.WideShapes Go.RowKit

/-- The kind of a cell: an integer's, or (none) a bool. -/
def cellKind (P : Program) (u : TypeId) : Option (Option IntKind) :=
  match P.underlying u with
  | some .bool => some .none
  | some (.int k) => some (some k)
  | _ => .none
def flatKinds (P : Program) (t : TypeId) : Option (List (Option IntKind)) := (P.cellTypes P.depth t).bind fun ts => ts.mapM (cellKind P)
def isAgg (P : Program) (t : TypeId) : Bool :=
  match P.underlying t with
  | some (.struct _) | some (.array _ _) => true
  | _ => false

/-- Values of these kinds, one behind the other. -/
def FitsK : List (Option IntKind) → List Value → Prop
  | [], vs => vs = []
  | some k :: ks, vs => ∃ n rest, vs = .int k n :: rest ∧ (Lit.int k n).wf = true ∧ FitsK ks rest
  | .none :: ks, vs => ∃ b rest, vs = .bool b :: rest ∧ FitsK ks rest

theorem mapM_some_cons {α β : Type} {f : α → Option β} {a : α} {l : List α} {r : List β} (h : (a :: l).mapM f = some r) : ∃ b bs, r = b :: bs ∧ f a = some b ∧ l.mapM f = some bs := by
  rw [List.mapM_cons] at h
  cases hb : f a with
  | none => rw [hb] at h; simp at h
  | some b =>
    cases hs : l.mapM f with
    | none => rw [hb, hs] at h; simp at h
    | some bs => rw [hb, hs] at h; simp at h; exact ⟨b, bs, h.symm, rfl, rfl⟩

theorem cell_of_kind {P : Program} {w : World} {r : Reach} {b : Nat} {u : TypeId} {v : Value} {k : Option IntKind} (hk : cellKind P u = some k) (h : Cell.okWide P w r b u v) :
    (∃ j n, k = some j ∧ v = .int j n ∧ (Lit.int j n).wf = true) ∨ (k = .none ∧ ∃ c, v = .bool c) := by
  unfold cellKind at hk
  unfold Cell.okWide at h
  cases hu : P.underlying u with
  | none => rw [hu] at hk; simp at hk
  | some d =>
    rw [hu] at hk h
    cases d <;> simp at hk
    · subst hk
      right
      simp only [Cell.ok, hu] at h
      cases v <;> simp_all
    · subst hk
      left
      simp only [Cell.ok, hu] at h
      cases v <;> simp_all [IntKind.has, Lit.wf]

theorem fitsK_of {P : Program} {w : World} {r : Reach} {b : Nat} : ∀ (ts : List TypeId) (ks : List (Option IntKind)) (vs : List Value), ts.mapM (cellKind P) = some ks → vs.length = ts.length →
    (∀ (i : Nat) (v : Value), vs[i]? = some v → ∃ u, ts[i]? = some u ∧ Cell.okWide P w r b u v) → FitsK ks vs
  | [], ks, vs, hk, hl, _ => by
    simp at hk hl
    subst hk; subst hl; rfl
  | t :: ts, ks, vs, hk, hl, h => by
    obtain ⟨k, ks', rfl, hk0, hks⟩ := mapM_some_cons hk
    match vs, hl with
    | v :: vs, hl =>
      have ih := fitsK_of ts ks' vs hks (by simpa using hl) (fun i x hx => by
        obtain ⟨u, hu, hc⟩ := h (i + 1) x (by simpa using hx)
        exact ⟨u, by simpa using hu, hc⟩)
      obtain ⟨u, hu, hc⟩ := h 0 v rfl
      simp at hu
      subst hu
      rcases cell_of_kind hk0 hc with ⟨j, n, rfl, rfl, hw⟩ | ⟨rfl, c, rfl⟩
      · exact ⟨n, vs, rfl, hw, ih⟩
      · exact ⟨c, vs, rfl, ih⟩

theorem open_flat {P : Program} {w : World} {r : Reach} {b : Nat} {t : TypeId} {v : Value} (ks : List (Option IntKind)) (hs : isAgg P t = true) (hk : flatKinds P t = some ks) (hC : P.cellsOf t = ks.length) (hv : Value.okWide P w r b t v) :
    ∃ vs : List Value, v = .agg vs.toArray ∧ FitsK ks vs := by
  obtain ⟨ts, ht, hks⟩ : ∃ ts, P.cellTypes P.depth t = some ts ∧ ts.mapM (cellKind P) = some ks := by
    unfold flatKinds at hk
    cases hc : P.cellTypes P.depth t with
    | none => rw [hc] at hk; simp at hk
    | some ts => rw [hc] at hk; exact ⟨ts, rfl, hk⟩
  have hlen : ∀ (ts : List TypeId) (ks : List (Option IntKind)), ts.mapM (cellKind P) = some ks → ks.length = ts.length := by
    intro ts
    induction ts with
    | nil => intro ks h; simp at h; subst h; rfl
    | cons a l ih => intro ks h; obtain ⟨k, ks', rfl, _, h2⟩ := mapM_some_cons h; simp [ih ks' h2]
  have hl := hlen ts ks hks
  have hv' : ∃ cs, v = .agg cs ∧ cs.size = P.cellsOf t ∧ Row.okWide P w r b t cs := by
    unfold isAgg at hs
    unfold Value.okWide at hv
    cases hu : P.underlying t with
    | none => rw [hu] at hs; simp at hs
    | some d => rw [hu] at hs hv; cases d <;> simp at hs <;> exact hv
  obtain ⟨cs, rfl, hsz, ts', ht', _, hc⟩ := hv'
  rw [ht] at ht'
  obtain rfl : ts = ts' := by simpa using ht'
  refine ⟨cs.toList, by simp, fitsK_of (w := w) (r := r) (b := b) ts ks cs.toList hks (by simp; omega) fun i x hx => ?_⟩
  have hi : i < cs.size := by
    have := (List.getElem?_eq_some_iff.1 hx).1
    simpa using this
  obtain ⟨u, hu, hcell⟩ := hc i x (by simpa using hx)
  rw [Nat.mod_eq_of_lt (by omega)] at hu
  exact ⟨u, hu, hcell⟩

end Go.Proofs.Ytahkplakdbbmmaa
