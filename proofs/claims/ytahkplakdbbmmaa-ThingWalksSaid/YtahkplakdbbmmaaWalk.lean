/- thing.Walk: the places of all objects. -/
import Derived.RangeFuncBox
import Derived.Maps.AppendAt
import Derived.Test.YtahkplakdbbmmaaAll
import Derived.Test.YtahkplakdbbmmaaOwn
namespace Go.Proofs.Ytahkplakdbbmmaa
set_option linter.unusedVariables false
set_option linter.unusedSimpArgs false
open Go.RowKit Go.Shelf
attribute [local go_sem] Oper.semAt_some

theorem all_t (w : World) (p : Nat) (a left : Int) :
    Calls Try.prog 53 #[.pointer (some ⟨p, 0, none⟩), .int .i64 a, .int .i64 left] w fun e w' => e = .returned (.func (.func 57) #[] #[.pointer (some ⟨w.heap.size + 1 + 1, 0, none⟩), .pointer (some ⟨w.heap.size, 0, none⟩), .pointer (some ⟨w.heap.size + 1, 0, none⟩)]) ∧
      w' = ((w.alloc (.cells #[.pointer (some ⟨p, 0, none⟩)] 23)).alloc (.cells #[.int .i64 a] 3)).alloc (.cells #[.int .i64 left] 3) := by
  go_enter Try.func53, Try.ntmps53
  go_wp2_with fail
  go_ret
  exact ⟨rfl, rfl⟩

/-- The record within a round; behind one that ends the loop by a return. -/
def busyOf (r : Loop) : Loop := { r with state := .busy }
def doneOf (r : Loop) : Loop := { r with state := .done, pending := some .ret }
theorem putObj_but (W : World) (l : Nat) (o : Obj) (B : Nat) : But B l W (W.putObj l o) := ⟨rfl, rfl, rfl, by simp, fun k _ hn => World.putObj_heap_other hn⟩
/-- How a round may end. -/
def endOf (l : Nat) (r : Loop) (R : Ending → World → Prop) : Exit → Act → World → Prop
  | .normal, _, W => W.heap[l]? = some (.loop (busyOf r)) ∧ ∀ W', But W.heap.size l W W' → W'.heap[l]? = some (.loop r) → R (.returned (.bool true)) W'
  | .ret, _, W => W.heap[l]? = some (.loop (busyOf r)) ∧ ∀ W', But W.heap.size l W W' → W'.heap[l]? = some (.loop (doneOf r)) → R (.returned (.bool false)) W'
  | _, _, _ => False
/-- A round, out of what is assigned and the body. -/
theorem round_at {P : Program} {m l : Nat} {r : Loop} {args : Array Value} {W : World} {R : Ending → World → Prop} (hl : W.heap[l]? = some (.loop r)) (hr : r.state = .ready) (hp : r.pending = none) (hs : args.size = r.params.size)
    (h : r.assign.wpIn (Fence.wide.inRound l) m P (Exit.then (fun a₁ w₁ => w₁ = W ∧ ∀ W', But W.heap.size l W W' → W'.heap[l]? = some (.loop (busyOf r)) → r.body.wpIn (Fence.wide.inRound l) m P (endOf l r R) a₁ W') (fun _ _ _ => False))
      { tmps := (r.params.zip args).foldl (fun t (p, v) => t.setIfInBounds p v) r.tmps, defers := [] } W) : YieldAt Fence.wide m P l args W R := by
  refine ⟨r.fn, _, r.assign, r.body, run_yield hl hs, roundIn_of_wpIn trivial (wpIn_mono h fun e a W1 h1 => ?_)⟩
  cases e <;> try exact h1.elim
  obtain ⟨rfl, h1⟩ := h1
  have lt : ∀ {X : World} {o : Obj}, X.heap[l]? = some o → l < X.heap.size := fun h => (Array.getElem?_eq_some_iff.1 h).1
  refine ⟨_, run_beginRound hl hr, wpIn_mono (h1 _ (putObj_but _ _ _ _) (World.putObj_heap_same (lt hl))) fun e a W3 h3 => ?_⟩
  cases e <;> try exact h3.elim
  · obtain ⟨h4, h5⟩ := h3
    refine ⟨_, _, run_endRound none h4, h5 _ (putObj_but _ _ _ _) ?_⟩
    rw [World.putObj_heap_same (lt h4)]
    simp only [busyOf, Option.isNone_none, if_true]
    rw [← hr, ← hp]
  · obtain ⟨h4, h5⟩ := h3
    exact ⟨_, _, run_endRound (some .ret) h4, h5 _ (putObj_but _ _ _ _) (by rw [World.putObj_heap_same (lt h4)]; rfl)⟩

/-- The statement, at an outermost loop: r is the loop's record. -/
theorem range_top {P : Program} {g : Operand} {ps : Array Tmp} {assign body : Code} {Q : Exit → Act → World → Prop} {a : Act} {w : World} {n gf : Nat} {lb : Array Value} (h1 : 1 ≤ n)
    (hg : a.eval g = .func (.func gf) #[] lb) (eg : ∀ args w, (callFunc gf args).run P w = .ok (.enter gf args) w)
    (h : ∀ r : Loop, r.state = .ready → r.tmps = a.tmps → r.params = ps → r.assign = assign → r.body = body → r.pending = none →
      CallsIn Fence.wide (n - 1) P gf (#[.func (.yield (w.heap.size + 1)) #[] #[]] ++ lb) ((w.alloc (.deferred (some []))).alloc (.loop r))
        (rangePost Fence.wide n P (w.heap.size + 1) Q { a with defers := { target := .collected w.heap.size, args := #[] } :: a.defers })) :
    (Code.rangeFunc g ps assign body).wpIn Fence.wide n P Q a w := by
  refine wpIn_rangeFunc fun fn hfn => ?_
  rw [show Fence.wide.round = none from rfl]
  obtain ⟨r, hr⟩ : ∃ r : Loop, r = { state := .ready, pending := none, fn, tmps := a.tmps, params := ps, assign, body, defers := w.heap.size } := ⟨_, rfl⟩
  have hh := h r (by rw [hr]) (by rw [hr]) (by rw [hr]) (by rw [hr]) (by rw [hr]) (by rw [hr])
  have he := run_enterLoop_outer (P := P) (w := w) fn a.tmps ps assign body
  rw [← hr] at he
  refine ⟨w.heap.size + 1, [{ target := .collected w.heap.size, args := #[] }], (w.alloc (.deferred (some []))).alloc (.loop r), { target := .fn (.func gf) lb, args := #[.func (.yield (w.heap.size + 1)) #[] #[]] }, (w.alloc (.deferred (some []))).alloc (.loop r), gf, #[.func (.yield (w.heap.size + 1)) #[] #[]] ++ lb, (w.alloc (.deferred (some []))).alloc (.loop r), he, ?_, fun _ _ => trivial, ?_, fun _ => h1, ?_⟩
  · simp only [resolve, hg]
    simp [go_sem]
  · simp [invoke, go_sem, eg]
  · exact hh

/-- What the caller holds between two rounds. N: where its own blocks begin. -/
structure jAll (w : World) (N : Nat) (r : Loop) (xs : List Int) (W : World) : Prop where
  below : Below N w W
  r0 : Boxed W N 71 (.slice none 0 0)
  r1 : Boxed W (N + 1) 24 (.int .i64 0)
  own : ∃ v, Boxed W (N + 2) 71 v ∧ W.ownsRow (N + 8) 3 1 v xs.length (xs.map (Value.int .i64))
  dfr : W.heap[N + 6]? = some (.deferred (some []))
  loop : W.heap[N + 7]? = some (.loop r)
structure jxAll (w : World) (N : Nat) (r : Loop) (W : World) : Prop where
  below : Below N w W
  r0 : Boxed W N 71 (.slice none 0 0)
  r1 : Boxed W (N + 1) 24 (.int .i64 18)
  dfr : W.heap[N + 6]? = some (.deferred (some []))
  loop : W.heap[N + 7]? = some (.loop (doneOf r))
theorem own_blocks {w w' : World} {B e size n : Nat} {v : Value} {xs : List Value} (h : w.ownsRow B e size v n xs) (hb : ∀ k, B ≤ k → k < w.heap.size → w'.heap[k]? = w.heap[k]?) : w'.ownsRow B e size v n xs := by
  refine ⟨h.1, ?_⟩
  rcases h.2 with h | ⟨g, cap, cur, rfl, h1, h2, h3⟩
  · exact .inl h
  · exact .inr ⟨g, cap, cur, rfl, h1, (hb g h1 (Array.getElem?_eq_some_iff.1 h2).1).trans h2, h3⟩
theorem own_slice {w : World} {B e size n : Nat} {v : Value} {xs : List Value} (h : w.ownsRow B e size v n xs) : ∃ A m c, v = .slice A m c := by
  rcases h.2 with ⟨rfl, _⟩ | ⟨g, cap, cur, rfl, h1, h2, h3⟩
  · exact ⟨_, _, _, rfl⟩
  · exact ⟨_, _, _, rfl⟩
theorem own_base {w : World} {B B' e size n : Nat} {v : Value} {xs : List Value} (h : w.ownsRow B e size v n xs) (hb : B' ≤ B) : w.ownsRow B' e size v n xs := by
  refine ⟨h.1, ?_⟩
  rcases h.2 with h | ⟨g, cap, cur, rfl, h1, h2, h3⟩
  · exact .inl h
  · exact .inr ⟨g, cap, cur, rfl, Nat.le_trans hb h1, h2, h3⟩
theorem own_putObj {w : World} {B e size n : Nat} {v : Value} {xs : List Value} (h : w.ownsRow B e size v n xs) {l : Nat} {d : Option (List Deferred)} (hl : w.heap[l]? = some (.deferred d)) (o : Obj) : (w.putObj l o).ownsRow B e size v n xs := by
  refine ⟨h.1, ?_⟩
  rcases h.2 with h | ⟨g, cap, cur, rfl, h1, h2, h3⟩
  · exact .inl h
  · exact .inr ⟨g, cap, cur, rfl, h1, (World.putObj_heap_other (fun e => by subst e; rw [h2] at hl; cases hl)).trans h2, h3⟩
theorem jAll.else {w W W' : World} {N : Nat} {r : Loop} {xs : List Int} (h : jAll w N r xs W) (k : Else (N + 5) (N + 4) W W') : jAll w N r xs W' := by
  obtain ⟨v, hv, ho⟩ := h.own
  have hl : N + 7 < W.heap.size := (Array.getElem?_eq_some_iff.1 h.loop).1
  exact ⟨h.below.trans ⟨k.os, k.tape, k.output, k.size, fun i hi => k.block i (by omega) (by omega) (by omega)⟩,
    (k.block _ (by omega) (by omega) (by omega)).trans h.r0, (k.block _ (by omega) (by omega) (by omega)).trans h.r1,
    ⟨v, (k.block _ (by omega) (by omega) (by omega)).trans hv, own_blocks ho fun i hi hi2 => k.block i hi2 (by omega) (by omega)⟩,
    (k.block _ (by omega) (by omega) (by omega)).trans h.dfr, (k.block _ (by omega) (by omega) (by omega)).trans h.loop⟩

theorem jAll.pushed {w W W1 w2 : World} {N : Nat} {r : Loop} {pre : List Int} {x : Int} {v v2 : Value} {o : Obj} (hJ : jAll w N r pre W) (hb1 : But W.heap.size (N + 7) W W1) (hl1 : W1.heap[N + 7]? = some (.loop (busyOf r)))
    (hv1 : Boxed W1 (N + 2) 71 v) (ho1 : W1.ownsRow (N + 8) 3 1 v pre.length (pre.map (Value.int .i64))) (hgrow : (W1.alloc o).grownBy w2 v.ownBlock)
    (hown2 : w2.ownsRow (N + 8) 3 1 v2 (pre.length + 1) (pre.map (Value.int .i64) ++ [.int .i64 x])) (hv2 : Boxed w2 (N + 2) 71 v) :
    (w2.setCell ⟨N + 2, 0, none⟩ v2).heap[N + 7]? = some (.loop (busyOf r)) ∧
    ∀ W', But (w2.setCell ⟨N + 2, 0, none⟩ v2).heap.size (N + 7) (w2.setCell ⟨N + 2, 0, none⟩ v2) W' → W'.heap[N + 7]? = some (.loop r) →
      jAll w N r (pre ++ [x]) W' ∧ W.heap.size ≤ W'.heap.size ∧ ∀ k, k < N + 7 → k ≠ N + 2 → W'.heap[k]? = W.heap[k]? := by
  have hlN : N + 7 < W.heap.size := (Array.getElem?_eq_some_iff.1 hJ.loop).1
  have hz1 := hb1.size
  have hz2 := hgrow.size
  rw [World.size_alloc] at hz2
  have e1 : ∀ k, k < N + 8 → w2.heap[k]? = W1.heap[k]? := fun k hk => (hgrow.block k (by simp; omega) (fun e => by have := (own_block ho1 e.symm).1; omega)).trans (Below.heap_alloc _ _ _ (by omega))
  have e2 : ∀ k, k < N + 8 → k ≠ N + 2 → (w2.setCell ⟨N + 2, 0, none⟩ v2).heap[k]? = W1.heap[k]? := fun k hk hn => (Below.heap_setCell _ _ _ _ hn).trans (e1 k hk)
  refine ⟨(e2 _ (by omega) (by omega)).trans hl1, fun W' hb3 hl3 => ?_⟩
  have hz3 := hb3.size
  rw [World.size_setCell] at hz3
  have e3 : ∀ k, k < N + 7 → k ≠ N + 2 → W'.heap[k]? = W.heap[k]? := fun k hk hn => (hb3.block k (by rw [World.size_setCell]; omega) (by omega)).trans ((e2 k (by omega) hn).trans (hb1.block k (by omega) (by omega)))
  refine ⟨⟨?_, (e3 _ (by omega) (by omega)).trans hJ.r0, (e3 _ (by omega) (by omega)).trans hJ.r1, ⟨v2, ?_, ?_⟩, (e3 _ (by omega) (by omega)).trans hJ.dfr, hl3⟩, by omega, e3⟩
  · refine hJ.below.trans ⟨?_, ?_, ?_, by omega, fun k hk => e3 k (by omega) (by omega)⟩
    · exact hb3.os.trans (hgrow.os.trans hb1.os)
    · exact hb3.tape.trans (hgrow.tape.trans hb1.tape)
    · exact hb3.output.trans (hgrow.output.trans hb1.output)
  · exact (hb3.block _ (by rw [World.size_setCell]; omega) (by omega)).trans (hv2.set v2)
  · rw [List.length_append, List.length_singleton, List.map_append]
    refine own_blocks (own_blocks hown2 fun k h1 h2 => Below.heap_setCell _ _ _ _ (show k ≠ N + 2 by omega)) fun k h1 h2 => hb3.block k h2 (by omega)
theorem jAll.failed {w W W1 : World} {N : Nat} {r : Loop} {pre : List Int} (hJ : jAll w N r pre W) (hb1 : But W.heap.size (N + 7) W W1) (hl1 : W1.heap[N + 7]? = some (.loop (busyOf r)))  :
    ((W1.setCell ⟨N, 0, none⟩ (.slice none 0 0)).setCell ⟨N + 1, 0, none⟩ (.int .i64 18)).heap[N + 7]? = some (.loop (busyOf r)) ∧
    ∀ W', But ((W1.setCell ⟨N, 0, none⟩ (.slice none 0 0)).setCell ⟨N + 1, 0, none⟩ (.int .i64 18)).heap.size (N + 7) ((W1.setCell ⟨N, 0, none⟩ (.slice none 0 0)).setCell ⟨N + 1, 0, none⟩ (.int .i64 18)) W' → W'.heap[N + 7]? = some (.loop (doneOf r)) →
      jxAll w N r W' := by
  have hlN : N + 7 < W.heap.size := (Array.getElem?_eq_some_iff.1 hJ.loop).1
  have hz1 := hb1.size
  have e2 : ∀ k, k ≠ N → k ≠ N + 1 → ((W1.setCell ⟨N, 0, none⟩ (.slice none 0 0)).setCell ⟨N + 1, 0, none⟩ (.int .i64 18)).heap[k]? = W1.heap[k]? := fun k h1 h2 => (Below.heap_setCell _ _ _ _ h2).trans (Below.heap_setCell _ _ _ _ h1)
  have r0 : Boxed W1 N 71 (.slice none 0 0) := (hb1.block _ (by omega) (by omega)).trans hJ.r0
  have r1 : Boxed W1 (N + 1) 24 (.int .i64 0) := (hb1.block _ (by omega) (by omega)).trans hJ.r1
  refine ⟨(e2 _ (by omega) (by omega)).trans hl1, fun W' hb3 hl3 => ?_⟩
  have hz3 := hb3.size
  simp only [World.size_setCell] at hz3
  have e3 : ∀ k, k < N + 7 → W'.heap[k]? = ((W1.setCell ⟨N, 0, none⟩ (.slice none 0 0)).setCell ⟨N + 1, 0, none⟩ (.int .i64 18)).heap[k]? := fun k hk => hb3.block k (by simp only [World.size_setCell]; omega) (by omega)
  refine ⟨?_, ?_, ?_, ?_, hl3⟩
  · refine hJ.below.trans ⟨?_, ?_, ?_, by omega, fun k hk => (e3 k (by omega)).trans ((e2 k (by omega) (by omega)).trans (hb1.block k (by omega) (by omega)))⟩
    · exact hb3.os.trans hb1.os
    · exact hb3.tape.trans hb1.tape
    · exact hb3.output.trans hb1.output
  · exact (e3 _ (by omega)).trans ((r0.set _).other (by omega) _)
  · exact (e3 _ (by omega)).trans ((r1.other (by omega) _).set _)
  · exact (e3 _ (by omega)).trans ((e2 _ (by omega) (by omega)).trans ((hb1.block _ (by omega) (by omega)).trans hJ.dfr))

set_option maxRecDepth 100000 in
set_option maxHeartbeats 4000000 in
theorem walk_t (w : World) (p g n : Nat) (V : Nat → Int) (b : Bool) (a left : Int) (xs : List Int) (h : isW w p g n V) (hw : way V n b a left xs) (ha : inR a) (hl : 0 ≤ left ∧ left ≤ 9223372036854775807) :
    Calls Try.prog 39 #[.pointer (some ⟨p, 0, none⟩), .int .i64 a, .int .i64 left] w fun x w' => ∃ v, x = .returned (.tuple #[v, .int .i64 (wayCode b)]) ∧ wayOwn w' w.heap.size b v xs ∧ Below w.heap.size w w' := by
  have hm := h.most
  have hlt := h.lts
  have hlen := hw.len
  obtain ⟨i0, hi, hz0, hs1, hz2⟩ := info_parts info_int
  have hro : Fence.wide.round = none := rfl
  refine (callsIn_wide (n := 9)).1 ?_
  refine callsIn_of_wp_marks Try.func39 rfl trivial ?_ hro
  simp only [Try.ntmps39, List.size_toArray, List.length_cons, List.length_nil, Nat.reduceAdd, Nat.reduceSub, Array.replicate_succ, Array.replicate_zero, List.push_toArray, List.append_toArray, List.nil_append, List.cons_append]
  gi_wp2_with fail
  refine ⟨trivial, ?_⟩
  refine (callsIn_wide.2 (all_t _ _ _ _)).mono ?_
  rintro e w1 ⟨rfl, rfl⟩
  gi_wp2_with fail
  refine range_top (gf := 57) (by omega) rfl (enters_of Try.func57 (by kernel_rfl) rfl) ?_
  intro r hr1 hr2 hr3 hr4 hr5 hr6
  simp only [World.size_alloc, Nat.add_assoc, Nat.reduceAdd]
  generalize hW0 : ((((((w.alloc _).alloc _).alloc _).alloc _).alloc _).alloc _) = W0
  have J0 : jAll w w.heap.size r [] ((W0.alloc (.deferred (some []))).alloc (.loop r)) := by
    subst hW0
    refine ⟨?_, ?_, ?_, ⟨_, ?_, World.ownsRow_nil _ _ _ _⟩, ?_, ?_⟩
    · repeat (first | (with_reducible exact Below.refl _ _) | ((with_reducible refine Below.setCell ?_ ?_ _); rotate_left; (focus (first | omega | (simp; done) | (simp; omega)))) | ((with_reducible refine Below.alloc ?_ ?_ _); rotate_left; (focus (first | omega | (simp; done) | (simp; omega)))) | (with_reducible refine Below.drew ?_) | (with_reducible refine below_drewN' ?_ _) | ((refine Below.trans ?_ (Below.mono (by with_reducible assumption) ?_)); rotate_left; (focus (first | omega | (simp; done) | (simp; omega)))))
    all_goals (try unfold Boxed); (repeat (first | (with_reducible exact heap_new _ _) | ((with_reducible apply heap_new'); (focus (simp; done))) | ((with_reducible apply heap_old); (focus (first | omega | (simp; done) | (simp; omega))))))
  have st0 : stAll ((W0.alloc (.deferred (some []))).alloc (.loop r)) (w.heap.size + 5) (w.heap.size + 3) (w.heap.size + 4) p g n V left a := by
    subst hW0
    refine ⟨?_, ?_, ?_, (((((((h.alloc _).alloc _).alloc _).alloc _).alloc _).alloc _).alloc _).alloc _⟩
    all_goals (try unfold Boxed); (repeat (first | (with_reducible exact heap_new _ _) | ((with_reducible apply heap_new'); (focus (simp; done))) | ((with_reducible apply heap_old); (focus (first | omega | (simp; done) | (simp; omega))))))
  clear hW0
  refine (all1_in 8 (by omega) (w.heap.size + 7) (w.heap.size + 5) (w.heap.size + 3) (w.heap.size + 4) p g n V b (jAll w w.heap.size r) (jxAll w w.heap.size r) a left xs (fun s W W' h k => h.else k) ?y1 ?y2 _ st0 (by omega) (by omega) hw ha hl J0).mono ?_
  case y1 =>
    intro pre x W hJ hlen
    refine round_at hJ.loop hr1 hr6 (by rw [hr3]; rfl) ?_
    rw [hr2, hr3, hr4, hr5]
    gi_wp2_with fail
    intro W1 hb1 hl1
    obtain ⟨v, hv, ho⟩ := hJ.own
    have hlN : w.heap.size + 7 < W.heap.size := (Array.getElem?_eq_some_iff.1 hJ.loop).1
    have hv1 : Boxed W1 (w.heap.size + 2) 71 v := (hb1.block _ (by omega) (by omega)).trans hv
    have ho1 := own_blocks ho fun k h1 h2 => hb1.block k h2 (by omega)
    have hc := hv1.cell
    have hz1 := hb1.size
    have hle := hlen
    gi_wp2_with (gi_at_builtin; refine wpListIn_append_own _ rfl _ _ 71 rfl (w.heap.size + 8) 3 i0 (.int .i64 0) 1 8 under_ints hi hz0 hs1 hz2 rfl (by decide) _ _ _ rfl (own_alloc ho1 _) ⟨W1.heap.size, 0, none⟩ 1 1 [.int .i64 x] rfl rfl (by intro j u hj; match j, hj with | 0, hj => (simp at hj; subst hj; simp [Addr.add, go_sem])) (by intro u hu; simp at hu; subst hu; rfl) (by unfold maxLen; omega) (by omega) (by simp; omega) ?_; intro v' w2 hown2 hgrow _; obtain ⟨g', cap', rfl⟩ := ownsRow_succ hown2; have hv2 : Boxed w2 (w.heap.size + 2) 71 v := hv1.alloc _ |>.kept hgrow (fun e => by have := own_block ho1 e.symm; omega); have hc2 := hv2.cell; have hf2 := hv2.frozen)
    have hp := hJ.pushed hb1 hl1 hv1 ho1 hgrow hown2 hv2
    refine ⟨hp.1, fun W' hb3 hl3 => ?_⟩
    obtain ⟨h1, h2, h3⟩ := hp.2 W' hb3 hl3
    exact ⟨rfl, h1, h2, fun k hk => h3 k (by omega) (by omega)⟩
  case y2 =>
    intro pre x W hJ
    refine round_at hJ.loop hr1 hr6 (by rw [hr3]; rfl) ?_
    rw [hr2, hr3, hr4, hr5]
    gi_wp2_with fail
    intro W1 hb1 hl1
    have hlN : w.heap.size + 7 < W.heap.size := (Array.getElem?_eq_some_iff.1 hJ.loop).1
    have r0 : Boxed W1 w.heap.size 71 (.slice none 0 0) := (hb1.block _ (by omega) (by omega)).trans hJ.r0
    have r1 : Boxed W1 (w.heap.size + 1) 24 (.int .i64 0) := (hb1.block _ (by omega) (by omega)).trans hJ.r1
    have hd1 : W1.heap[w.heap.size + 6]? = some (.deferred (some [])) := (hb1.block _ (by omega) (by omega)).trans hJ.dfr
    have hc0 := r0.cell
    have hf0 := r0.frozen
    have hc1 := r1.cell
    have hf1 := r1.frozen
    gi_wp2_with fail
    have hp := hJ.failed hb1 hl1
    refine ⟨hp.1, fun W' hb3 hl3 => ⟨rfl, hp.2 W' hb3 hl3⟩⟩
  rintro e W2 ⟨⟨v, rfl⟩, ht, hf⟩
  cases b with
  | true =>
    have hJ := ht rfl
    clear ht hf
    have hlN : w.heap.size + 7 < W2.heap.size := (Array.getElem?_eq_some_iff.1 hJ.loop).1
    have hend := run_endLoop (P := Try.prog) hJ.loop (by rw [hr1]; simp)
    obtain ⟨W3, HW⟩ : ∃ W3, Hid (W3 = W2.putObj (w.heap.size + 7) (.loop { r with state := .exhausted })) := ⟨_, Lib.hid rfl⟩
    have hb3 : But W2.heap.size (w.heap.size + 7) W2 W3 := by rw [HW.out]; exact putObj_but _ _ _ _
    refine ⟨none, W3, by rw [HW.out, hend, hr6], ?_⟩
    obtain ⟨v, hv, ho⟩ := hJ.own
    obtain ⟨A, m, c, rfl⟩ := own_slice ho
    have hv3 : Boxed W3 (w.heap.size + 2) 71 (.slice A m c) := (hb3.block _ (by omega) (by omega)).trans hv
    have ho3 := own_blocks ho fun k h1 h2 => hb3.block k h2 (by omega)
    have hr0 : Boxed W3 w.heap.size 71 (.slice none 0 0) := (hb3.block _ (by omega) (by omega)).trans hJ.r0
    have hr1 : Boxed W3 (w.heap.size + 1) 24 (.int .i64 0) := (hb3.block _ (by omega) (by omega)).trans hJ.r1
    have hd3 : W3.heap[w.heap.size + 6]? = some (.deferred (some [])) := (hb3.block _ (by omega) (by omega)).trans hJ.dfr
    have hc := hv3.cell
    have hc0 := hr0.cell
    have hf0 := hr0.frozen
    have hc1 := hr1.cell
    have hf1 := hr1.frozen
    gi_wp2_with fail
    have hdd : ((W3.setCell ⟨w.heap.size, 0, none⟩ (.slice A m c)).setCell ⟨w.heap.size + 1, 0, none⟩ (.int .i64 0)).heap[w.heap.size + 6]? = some (.deferred (some [])) := (Below.heap_setCell _ _ _ _ (show w.heap.size + 6 ≠ w.heap.size + 1 by omega)).trans ((Below.heap_setCell _ _ _ _ (show w.heap.size + 6 ≠ w.heap.size by omega)).trans hd3)
    have b0 : Boxed ((W3.setCell ⟨w.heap.size, 0, none⟩ (.slice A m c)).setCell ⟨w.heap.size + 1, 0, none⟩ (.int .i64 0)) w.heap.size 71 (.slice A m c) := (hr0.set _).other (by omega) _
    have b1 : Boxed ((W3.setCell ⟨w.heap.size, 0, none⟩ (.slice A m c)).setCell ⟨w.heap.size + 1, 0, none⟩ (.int .i64 0)) (w.heap.size + 1) 24 (.int .i64 0) := (hr1.other (by omega) _).set _
    have hbb : Below w.heap.size W3 ((W3.setCell ⟨w.heap.size, 0, none⟩ (.slice A m c)).setCell ⟨w.heap.size + 1, 0, none⟩ (.int .i64 0)) := ((Below.refl _ _).setCell (p := ⟨w.heap.size, 0, none⟩) (Nat.le_refl _) _).setCell (p := ⟨w.heap.size + 1, 0, none⟩) (by simp) _
    have oo := own_blocks (w' := ((W3.setCell ⟨w.heap.size, 0, none⟩ (.slice A m c)).setCell ⟨w.heap.size + 1, 0, none⟩ (.int .i64 0))) ho3 fun k h1 h2 => (Below.heap_setCell _ _ _ _ (show k ≠ w.heap.size + 1 by omega)).trans (Below.heap_setCell _ _ _ _ (show k ≠ w.heap.size by omega))
    refine ⟨by simp, .inl ⟨_, _, rfl, run_takeDeferred hdd, ?_⟩⟩
    have c0 := Boxed.cell (W := World.putObj _ (w.heap.size + 6) (.deferred none)) (Eq.trans (World.putObj_heap_other (by omega)) b0)
    have c1 := Boxed.cell (W := World.putObj _ (w.heap.size + 6) (.deferred none)) (Eq.trans (World.putObj_heap_other (by omega)) b1)
    have hB := hJ.below.trans ((hb3.below (by omega) (by omega)).trans (hbb.trans ((putObj_but _ (w.heap.size + 6) (.deferred none) (w.heap.size + 6)).below (by omega) (by omega))))
    refine ⟨.tuple #[.slice A m c, .int .i64 0], ?_, ⟨_, rfl, ⟨fun _ => own_base (own_putObj oo hdd _) (by omega), fun h => (by cases h)⟩, hB⟩⟩
    simp [results, Try.f39, go_sem, c0, c1]
  | false =>
    have hJ := hf rfl
    clear ht hf
    have hlN : w.heap.size + 7 < W2.heap.size := (Array.getElem?_eq_some_iff.1 hJ.loop).1
    have hend := run_endLoop (P := Try.prog) hJ.loop (by simp [doneOf])
    obtain ⟨W3, HW⟩ : ∃ W3, Hid (W3 = W2.putObj (w.heap.size + 7) (.loop { doneOf r with state := .exhausted })) := ⟨_, Lib.hid rfl⟩
    have hb3 : But W2.heap.size (w.heap.size + 7) W2 W3 := by rw [HW.out]; exact putObj_but _ _ _ _
    refine ⟨some .ret, W3, by rw [HW.out, hend]; rfl, ?_⟩
    have hr0 : Boxed W3 w.heap.size 71 (.slice none 0 0) := (hb3.block _ (by omega) (by omega)).trans hJ.r0
    have hr1 : Boxed W3 (w.heap.size + 1) 24 (.int .i64 18) := (hb3.block _ (by omega) (by omega)).trans hJ.r1
    have hd3 : W3.heap[w.heap.size + 6]? = some (.deferred (some [])) := (hb3.block _ (by omega) (by omega)).trans hJ.dfr
    gi_wp2_with fail
    have hdd : W3.heap[w.heap.size + 6]? = some (.deferred (some [])) := hd3
    have b0 := hr0
    have b1 := hr1
    have hbb := Below.refl w.heap.size W3
    refine ⟨by simp, .inl ⟨_, _, rfl, run_takeDeferred hdd, ?_⟩⟩
    have c0 := Boxed.cell (W := World.putObj _ (w.heap.size + 6) (.deferred none)) (Eq.trans (World.putObj_heap_other (by omega)) b0)
    have c1 := Boxed.cell (W := World.putObj _ (w.heap.size + 6) (.deferred none)) (Eq.trans (World.putObj_heap_other (by omega)) b1)
    have hB := hJ.below.trans ((hb3.below (by omega) (by omega)).trans (hbb.trans ((putObj_but _ (w.heap.size + 6) (.deferred none) (w.heap.size + 6)).below (by omega) (by omega))))
    refine ⟨.tuple #[.slice none 0 0, .int .i64 18], ?_, ⟨_, rfl, ⟨fun h => (by cases h), fun _ => rfl⟩, hB⟩⟩
    simp [results, Try.f39, go_sem, c0, c1]

set_option maxRecDepth 100000 in
set_option maxHeartbeats 4000000 in
theorem walk_neg (w : World) (p : Nat) (a left : Int) (hl : left < 0) :
    Calls Try.prog 39 #[.pointer (some ⟨p, 0, none⟩), .int .i64 a, .int .i64 left] w fun x w' => x = .returned (.tuple #[.slice none 0 0, .int .i64 18]) ∧ Below w.heap.size w w' := by
  refine (callsIn_wide (n := 9)).1 ?_
  refine callsIn_of_wp_marks Try.func39 rfl trivial ?_ rfl
  simp only [Try.ntmps39, List.size_toArray, List.length_cons, List.length_nil, Nat.reduceAdd, Nat.reduceSub, Array.replicate_succ, Array.replicate_zero, List.push_toArray, List.append_toArray, List.nil_append, List.cons_append]
  gi_wp2_with fail
  refine ⟨.tuple #[.slice none 0 0, .int .i64 18], ?_, rfl, ?_⟩
  · simp [results, Try.f39, go_sem]
  · repeat (first | (with_reducible exact Below.refl _ _) | ((with_reducible refine Below.setCell ?_ ?_ _); rotate_left; (focus (first | omega | (simp; done) | (simp; omega)))) | ((with_reducible refine Below.alloc ?_ ?_ _); rotate_left; (focus (first | omega | (simp; done) | (simp; omega)))) | (with_reducible refine Below.drew ?_) | (with_reducible refine below_drewN' ?_ _) | ((refine Below.trans ?_ (Below.mono (by with_reducible assumption) ?_)); rotate_left; (focus (first | omega | (simp; done) | (simp; omega)))))

end Go.Proofs.Ytahkplakdbbmmaa
