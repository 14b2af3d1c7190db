/-
  The statement Rows.ArenaZerosSaid is proved: for every input the Go function penfold/penfoldlaw02.ArenaZeros returns true, and its arguments read afterwards as they read before. No condition.
-/
import Derived.Test.YtahkplakdbbmmaaArenaZeros
import Derived.Test.YtahkplakdbbmmaaWf
import Derived.Test.YtahkplakdbbmmaaFlat
import Derived.WalkKit
import Derived.ProofKit
import Derived.OpenShut
import Derived.ChangeOld
import Derived.Below
namespace Go.Proofs.Ytahkplakdbbmmaa.arenaZeros
open Go.ChangeShapes Go.WideShapes Go.ChangeAt Go.RowKit
set_option linter.unusedVariables false

theorem own : ownKnob Try.prog.godebug = none := by kernel_rfl
theorem laidOut : laidOutB Try.prog = true := by kernel_rfl

theorem int_of {P : Program} {w : World} {r : Reach} {b : Nat} {t : TypeId} {k : IntKind} {v : Value} (ht : P.underlying t = some (.int k)) (h : Value.okWide P w r b t v) : ∃ n, v = .int k n ∧ (Lit.int k n).wf = true := by
  simp only [Value.okWide, ht, Cell.okWide, Cell.ok] at h
  cases v <;> simp_all [IntKind.has, Lit.wf]
theorem bool_of {P : Program} {w : World} {r : Reach} {b : Nat} {t : TypeId} {v : Value} (ht : P.underlying t = some .bool) (h : Value.okWide P w r b t v) : ∃ c, v = .bool c := by
  simp only [Value.okWide, ht, Cell.okWide, Cell.ok] at h
  cases v <;> simp_all

set_option maxRecDepth 100000 in
theorem lifted (os : Os) (started : os.Started) (H : Type) (enc : TypeId × Value → H) :
    ReturnsInHanded {} Try.checked os 7 .any (Rows.arenaZerosSpec.pre6 enc Try.prog Try.f7 Rows.arenaZerosRow.domain false) (Rows.arenaZerosSpec.post enc Try.prog Try.f7 false true false false) := by
  refine returnsInHanded_of_change (C := Try.checked) own started (by kernel_rfl) Try.func7
    (ChangeSpec.witness6 (enc := enc) (C := Try.checked) false ⟨#[], #[.agg #[.int .u64 0, .int .u64 0, .int .u64 0, .int .u64 0, .int .u64 0, .int .u64 0, .int .u64 0, .int .u64 0, .int .u64 0, .int .u64 0, .int .u64 0, .int .u64 0, .int .u64 0, .int .u64 0, .int .u64 0, .int .u64 0, .int .u64 0, .int .u64 0, .int .u64 0, .int .u64 0], .int .i64 0, .int .i64 0], []⟩ 8 (by kernel_rfl) (by kernel_rfl) (by kernel_rfl) (by kernel_rfl)) ?_
  intro W base args ds gs before hval0 hW hcnd _
  have hval : ∀ (j : Nat) t v, Try.f7.params[j]? = some t → args[j]? = some v → Value.okWide Try.prog W .any base t v := hval0
  have hW' := hW
  obtain ⟨p, q, hA0, hV, rfl, hfz, hnd⟩ := hW
  have hA : DataW.TrodAll enc Try.prog W 0 (fun _ => true) true Try.f7.params.toList args.toList ds p := hA0
  rw [Try.params7] at hA hval
  obtain ⟨v0, vs0, d0, ds0, p0, q0, hargs, rfl, rfl, h0, r0⟩ := trodAll_cons hA
  obtain ⟨v1, vs1, d1, ds1, p1, q1, rfl, rfl, rfl, h1, r1⟩ := trodAll_cons r0
  obtain ⟨v2, vs2, d2, ds2, p2, q2, rfl, rfl, rfl, h2, r2⟩ := trodAll_cons r1
  obtain ⟨rfl, rfl, rfl⟩ := trodAll_nil r2
  obtain rfl : args = #[v0, v1, v2] := by cases args; simp_all
  obtain ⟨rfl, rfl⟩ := trodVars_none hV
  have k0 := h0
  have lt0 : ∀ x ∈ p0, x.block < W.heap.size := by obtain ⟨m, hm⟩ := k0; exact DataW.trod_lt m _ _ _ hm
  obtain ⟨vs0', rfl, n0_0, _, rfl, f0_0, n0_1, _, rfl, f0_1, n0_2, _, rfl, f0_2, n0_3, _, rfl, f0_3, n0_4, _, rfl, f0_4, n0_5, _, rfl, f0_5, n0_6, _, rfl, f0_6, n0_7, _, rfl, f0_7, n0_8, _, rfl, f0_8, n0_9, _, rfl, f0_9, n0_10, _, rfl, f0_10, n0_11, _, rfl, f0_11, n0_12, _, rfl, f0_12, n0_13, _, rfl, f0_13, n0_14, _, rfl, f0_14, n0_15, _, rfl, f0_15, n0_16, _, rfl, f0_16, n0_17, _, rfl, f0_17, n0_18, _, rfl, f0_18, n0_19, _, rfl, f0_19, rfl⟩ := open_flat [some .u64, some .u64, some .u64, some .u64, some .u64, some .u64, some .u64, some .u64, some .u64, some .u64, some .u64, some .u64, some .u64, some .u64, some .u64, some .u64, some .u64, some .u64, some .u64, some .u64] (by kernel_rfl) (by kernel_rfl) (by kernel_rfl) (hval 0 39 v0 rfl rfl)
  have k1 := h1
  have lt1 : ∀ x ∈ p1, x.block < W.heap.size := by obtain ⟨m, hm⟩ := k1; exact DataW.trod_lt m _ _ _ hm
  obtain ⟨n1_0, rfl, f1_0⟩ := int_of Try.underlying3 (hval 1 3 v1 rfl rfl)
  have k2 := h2
  have lt2 : ∀ x ∈ p2, x.block < W.heap.size := by obtain ⟨m, hm⟩ := k2; exact DataW.trod_lt m _ _ _ hm
  obtain ⟨n2_0, rfl, f2_0⟩ := int_of Try.underlying3 (hval 2 3 v2 rfl rfl)
  clear hA0 hval0
  refine (walkArenaZerosL [n0_0, n0_1, n0_2, n0_3, n0_4, n0_5, n0_6, n0_7, n0_8, n0_9, n0_10, n0_11, n0_12, n0_13, n0_14, n0_15, n0_16, n0_17, n0_18, n0_19] rfl n1_0 n2_0 W (by simp only [List.forall_mem_cons]; exact ⟨wf_u64' f0_0, wf_u64' f0_1, wf_u64' f0_2, wf_u64' f0_3, wf_u64' f0_4, wf_u64' f0_5, wf_u64' f0_6, wf_u64' f0_7, wf_u64' f0_8, wf_u64' f0_9, wf_u64' f0_10, wf_u64' f0_11, wf_u64' f0_12, wf_u64' f0_13, wf_u64' f0_14, wf_u64' f0_15, wf_u64' f0_16, wf_u64' f0_17, wf_u64' f0_18, wf_u64' f0_19, fun _ h => absurd h (by simp)⟩) (wf_i64' f1_0) (wf_i64' f2_0)).mono fun e W' ⟨he, bel⟩ => ?_
  subst he
  exact ⟨_, rfl, _, _, _, [], _, [], hW', trodAll_mk1 (shut_bool Try.underlying4 _), (trodAll_cons_mk (Below.trod laidOut (by kernel_rfl) (of_decide_eq_true (by kernel_rfl)) k0 bel lt0) (trodAll_cons_mk (Below.trod laidOut (by kernel_rfl) (of_decide_eq_true (by kernel_rfl)) k1 bel lt1) (trodAll_cons_mk (Below.trod laidOut (by kernel_rfl) (of_decide_eq_true (by kernel_rfl)) k2 bel lt2) trodAll_mk0))), rfl, bel.frame _, fun h => by cases h⟩

theorem over : Rows.arenaZerosRow.holds Try.pinned (OpenSpec.ofChange Rows.arenaZerosSpec) :=
  OpenClaim.holds_of_wide 7 Try.f7 rfl rfl rfl rfl rfl rfl rfl ⟨rfl, rfl, rfl, rfl, rfl⟩ rfl rfl rfl rfl rfl (by kernel_rfl) Try.func7 (by kernel_rfl)
    (of_decide_eq_true (by kernel_rfl)) (by unfold Func.isWrapper; first | (rw [if_pos (by decide +kernel)]; kernel_rfl) | (rw [if_neg (by decide +kernel)]; exact ⟨rfl, rfl⟩))
    (fun os started H enc _ => lifted os started H enc)

/-- The statement. -/
theorem proved : Rows.ArenaZerosSaid := over
#print axioms proved
end Go.Proofs.Ytahkplakdbbmmaa.arenaZeros
