/-
  The statement Rows.ArenaApartSaid is proved: for every input the Go function penfold/penfoldlaw02.ArenaApart returns true, and its arguments read afterwards as they read before. No condition.
-/
import Derived.Test.YtahkplakdbbmmaaArenaApart
import Derived.Test.YtahkplakdbbmmaaWf
import Derived.Test.YtahkplakdbbmmaaFlat
import Derived.WalkKit
import Derived.ProofKit
import Derived.OpenShut
import Derived.ChangeOld
import Derived.Below
namespace Go.Proofs.Ytahkplakdbbmmaa.arenaApart
open Go.ChangeShapes Go.WideShapes Go.ChangeAt Go.RowKit
set_option linter.unusedVariables false

theorem own : ownKnob Try.prog.godebug = none := by kernel_rfl
theorem laidOut : laidOutB Try.prog = true := by kernel_rfl

theorem int_of {P : Program} {w : World} {r : Reach} {b : Nat} {t : TypeId} {k : IntKind} {v : Value} (ht : P.underlying t = some (.int k)) (h : Value.okWide P w r b t v) : ∃ n, v = .int k n ∧ (Lit.int k n).wf = true := by
  simp only [Value.okWide, ht, Cell.okWide, Cell.ok] at h
  cases v <;> simp_all [IntKind.has, Lit.wf]
theorem bool_of {P : Program} {w : World} {r : Reach} {b : Nat} {t : TypeId} {v : Value} (ht : P.underlying t = some .bool) (h : Value.okWide P w r b t v) : ∃ c, v = .bool c := by
  simp only [Value.okWide, ht, Cell.okWide, Cell.ok] at h
  cases v <;> simp_all

set_option maxRecDepth 100000 in
theorem lifted (os : Os) (started : os.Started) (H : Type) (enc : TypeId × Value → H) :
    ReturnsInHanded {} Try.checked os 4 .any (Rows.arenaApartSpec.pre6 enc Try.prog Try.f4 Rows.arenaApartRow.domain false) (Rows.arenaApartSpec.post enc Try.prog Try.f4 false true false false) := by
  refine returnsInHanded_of_change (C := Try.checked) own started (by kernel_rfl) Try.func4
    (ChangeSpec.witness6 (enc := enc) (C := Try.checked) false ⟨#[], #[.agg #[.int .u8 0, .int .u8 0], .agg #[.int .u64 0, .int .u64 0], .agg #[.int .u8 0, .int .u8 0]], []⟩ 8 (by kernel_rfl) (by kernel_rfl) (by kernel_rfl) (by kernel_rfl)) ?_
  intro W base args ds gs before hval0 hW hcnd _
  have hval : ∀ (j : Nat) t v, Try.f4.params[j]? = some t → args[j]? = some v → Value.okWide Try.prog W .any base t v := hval0
  have hW' := hW
  obtain ⟨p, q, hA0, hV, rfl, hfz, hnd⟩ := hW
  have hA : DataW.TrodAll enc Try.prog W 0 (fun _ => true) true Try.f4.params.toList args.toList ds p := hA0
  rw [Try.params4] at hA hval
  obtain ⟨v0, vs0, d0, ds0, p0, q0, hargs, rfl, rfl, h0, r0⟩ := trodAll_cons hA
  obtain ⟨v1, vs1, d1, ds1, p1, q1, rfl, rfl, rfl, h1, r1⟩ := trodAll_cons r0
  obtain ⟨v2, vs2, d2, ds2, p2, q2, rfl, rfl, rfl, h2, r2⟩ := trodAll_cons r1
  obtain ⟨rfl, rfl, rfl⟩ := trodAll_nil r2
  obtain rfl : args = #[v0, v1, v2] := by cases args; simp_all
  obtain ⟨rfl, rfl⟩ := trodVars_none hV
  have k0 := h0
  have lt0 : ∀ x ∈ p0, x.block < W.heap.size := by obtain ⟨m, hm⟩ := k0; exact DataW.trod_lt m _ _ _ hm
  obtain ⟨vs0', rfl, n0_0, _, rfl, f0_0, n0_1, _, rfl, f0_1, rfl⟩ := open_flat [some .u8, some .u8] (by kernel_rfl) (by kernel_rfl) (by kernel_rfl) (hval 0 34 v0 rfl rfl)
  have k1 := h1
  have lt1 : ∀ x ∈ p1, x.block < W.heap.size := by obtain ⟨m, hm⟩ := k1; exact DataW.trod_lt m _ _ _ hm
  obtain ⟨vs1', rfl, n1_0, _, rfl, f1_0, n1_1, _, rfl, f1_1, rfl⟩ := open_flat [some .u64, some .u64] (by kernel_rfl) (by kernel_rfl) (by kernel_rfl) (hval 1 35 v1 rfl rfl)
  have k2 := h2
  have lt2 : ∀ x ∈ p2, x.block < W.heap.size := by obtain ⟨m, hm⟩ := k2; exact DataW.trod_lt m _ _ _ hm
  obtain ⟨vs2', rfl, n2_0, _, rfl, f2_0, n2_1, _, rfl, f2_1, rfl⟩ := open_flat [some .u8, some .u8] (by kernel_rfl) (by kernel_rfl) (by kernel_rfl) (hval 2 34 v2 rfl rfl)
  clear hA0 hval0
  refine (walkArenaApart n0_0 n0_1 n1_0 n1_1 n2_0 n2_1 W (wf_u8' f0_0) (wf_u8' f0_1) (wf_u64' f1_0) (wf_u64' f1_1) (wf_u8' f2_0) (wf_u8' f2_1)).mono fun e W' ⟨he, bel⟩ => ?_
  subst he
  exact ⟨_, rfl, _, _, _, [], _, [], hW', trodAll_mk1 (shut_bool Try.underlying4 _), (trodAll_cons_mk (Below.trod laidOut (by kernel_rfl) (of_decide_eq_true (by kernel_rfl)) k0 bel lt0) (trodAll_cons_mk (Below.trod laidOut (by kernel_rfl) (of_decide_eq_true (by kernel_rfl)) k1 bel lt1) (trodAll_cons_mk (Below.trod laidOut (by kernel_rfl) (of_decide_eq_true (by kernel_rfl)) k2 bel lt2) trodAll_mk0))), rfl, bel.frame _, fun h => by cases h⟩

theorem over : Rows.arenaApartRow.holds Try.pinned (OpenSpec.ofChange Rows.arenaApartSpec) :=
  OpenClaim.holds_of_wide 4 Try.f4 rfl rfl rfl rfl rfl rfl rfl ⟨rfl, rfl, rfl, rfl, rfl⟩ rfl rfl rfl rfl rfl (by kernel_rfl) Try.func4 (by kernel_rfl)
    (of_decide_eq_true (by kernel_rfl)) (by unfold Func.isWrapper; first | (rw [if_pos (by decide +kernel)]; kernel_rfl) | (rw [if_neg (by decide +kernel)]; exact ⟨rfl, rfl⟩))
    (fun os started H enc _ => lifted os started H enc)

/-- The statement. -/
theorem proved : Rows.ArenaApartSaid := over
#print axioms proved
end Go.Proofs.Ytahkplakdbbmmaa.arenaApart
