/- thing.all: the function value that it hands back, by contract, whatever is done with each place. -/
import Derived.RangeFuncNested
import Derived.RangeFuncBound
import Derived.RangeFuncCalls
import Derived.RangeFuncLeaves
import Derived.Shelf.Abstract
import Derived.Shelf.RegionOpen
import Derived.WalkKit
import Derived.OwnWalkIn
import Derived.TacticsInMore
import Derived.LoopNIn
import Derived.LoopIn
import Derived.Deep.RegionHeld3
import Derived.Test.YtahkplakdbbmmaaObj
namespace Go.Proofs.Ytahkplakdbbmmaa
set_option linter.unusedVariables false
set_option linter.unusedSimpArgs false
open Go.RowKit Go.Shelf
attribute [local go_sem] Oper.semAt_some

/-- What a round keeps: these blocks. -/
structure Holds (K : Nat → Prop) (W W' : World) : Prop where
  size : W.heap.size ≤ W'.heap.size
  block : ∀ k, K k → W'.heap[k]? = W.heap[k]?
/-- What the walk itself does: it writes two boxes, and lays blocks. -/
structure Else (b1 b2 : Nat) (W W' : World) : Prop where
  os : W'.os = W.os
  tape : W'.tape = W.tape
  output : W'.output = W.output
  size : W.heap.size ≤ W'.heap.size
  block : ∀ k, k < W.heap.size → k ≠ b1 → k ≠ b2 → W'.heap[k]? = W.heap[k]?
theorem Else.of_below {b1 b2 : Nat} {W W' : World} (h : Below W.heap.size W W') : Else b1 b2 W W' := ⟨h.os, h.tape, h.output, h.size, fun k hk _ _ => h.block k hk⟩
theorem Else.trans {b1 b2 : Nat} {A B C : World} (h : Else b1 b2 A B) (k : Else b1 b2 B C) : Else b1 b2 A C :=
  ⟨k.os.trans h.os, k.tape.trans h.tape, k.output.trans h.output, Nat.le_trans h.size k.size, fun i hi h1 h2 => (k.block i (Nat.lt_of_lt_of_le hi h.size) h1 h2).trans (h.block i hi h1 h2)⟩
theorem Else.alloc {b1 b2 : Nat} {A W : World} (h : Else b1 b2 A W) (o : Obj) : Else b1 b2 A (W.alloc o) := h.trans (.of_below ((Below.refl _ _).alloc (Nat.le_refl _) _))
theorem Else.drew {b1 b2 : Nat} {A W : World} (h : Else b1 b2 A W) : Else b1 b2 A W.drew := ⟨h.os, h.tape, h.output, h.size, h.block⟩
theorem Else.set1 {b1 b2 : Nat} {A W : World} (h : Else b1 b2 A W) (v : Value) : Else b1 b2 A (W.setCell ⟨b1, 0, none⟩ v) :=
  h.trans ⟨rfl, rfl, rfl, by simp [World.setCell], fun k _ hn _ => Below.heap_setCell _ _ _ _ hn⟩
theorem Else.set2 {b1 b2 : Nat} {A W : World} (h : Else b1 b2 A W) (v : Value) : Else b1 b2 A (W.setCell ⟨b2, 0, none⟩ v) :=
  h.trans ⟨rfl, rfl, rfl, by simp [World.setCell], fun k _ _ hn => Below.heap_setCell _ _ _ _ hn⟩
theorem isW.heap {w w' : World} {p g n : Nat} {F : Nat → Int} (h : isW w p g n F) (hp : w'.heap[p]? = w.heap[p]?) (hg : w'.heap[g]? = w.heap[g]?) : isW w' p g n F := by
  obtain ⟨f, ha, hf⟩ := h
  exact ⟨f, ⟨hp.trans ha.head, hg.trans ha.row, ha.ne, ha.most, ha.fits⟩, hf⟩

/-- The state between two rounds. -/
structure stAll (W : World) (Bl Ba Bt p g n : Nat) (V : Nat → Int) (L A : Int) : Prop where
  l : Boxed W Bl 3 (.int .i64 L)
  a : Boxed W Ba 23 (.pointer (some ⟨p, 0, none⟩))
  t : Boxed W Bt 3 (.int .i64 A)
  w : isW W p g n V
theorem stAll.holds {W W' : World} {Bl Ba Bt p g n : Nat} {V : Nat → Int} {L A : Int} (h : stAll W Bl Ba Bt p g n V L A) (k : Holds (fun k => k = Bl ∨ k = Ba ∨ k = Bt ∨ k = p ∨ k = g) W W') : stAll W' Bl Ba Bt p g n V L A :=
  ⟨(k.block _ (by simp)).trans h.l, (k.block _ (by simp)).trans h.a, (k.block _ (by simp)).trans h.t, h.w.heap (k.block _ (by simp)) (k.block _ (by simp))⟩
theorem stAll.below {W W' : World} {Bl Ba Bt p g n : Nat} {V : Nat → Int} {L A : Int} (h : stAll W Bl Ba Bt p g n V L A) (k : Below W.heap.size W W') : stAll W' Bl Ba Bt p g n V L A :=
  ⟨(k.block _ h.l.lt).trans h.l, (k.block _ h.a.lt).trans h.a, (k.block _ h.t.lt).trans h.t, h.w.below k h.w.lts.1 h.w.lts.2.1⟩
/-- How much is left, read off the world. -/
def leftOf (B : Nat) (W : World) : Nat := match W.cell? ⟨B, 0, none⟩ with
  | some (.int _ x) => x.toNat
  | _ => 0
theorem leftOf_eq {W : World} {B : Nat} {t : TypeId} {x : Int} (h : Boxed W B t (.int .i64 x)) : leftOf B W = x.toNat := by unfold leftOf; rw [h.cell]

set_option maxRecDepth 100000 in
set_option maxHeartbeats 4000000 in
theorem all1_in (m : Nat) (hm1 : 3 ≤ m) (l Bl Ba Bt p g n : Nat) (V : Nat → Int) (b : Bool) (J : List Int → World → Prop) (Jx : World → Prop) (a left : Int) (xs : List Int)
    (hJ : ∀ s W W', J s W → Else Bl Bt W W' → J s W')
    (hY1 : ∀ pre x W, J pre W → pre.length < xs.length → YieldAt Fence.wide (m - 1) Try.prog l #[.int .i64 x, .bool true] W fun e W' => e = .returned (.bool true) ∧ J (pre ++ [x]) W' ∧ Holds (fun k => k = Bl ∨ k = Ba ∨ k = Bt ∨ k = p ∨ k = g) W W')
    (hY2 : ∀ pre x W, J pre W → YieldAt Fence.wide (m - 1) Try.prog l #[.int .i64 x, .bool false] W fun e W' => e = .returned (.bool false) ∧ Jx W')
    (W : World) (hs : stAll W Bl Ba Bt p g n V left a) (hd1 : Bl ≠ Bt ∧ Bl ≠ Ba ∧ Bt ≠ Ba) (hd2 : p ≠ Bl ∧ p ≠ Bt ∧ g ≠ Bl ∧ g ≠ Bt) (hw : way V n b a left xs) (ha : inR a) (hl : 0 ≤ left ∧ left ≤ 9223372036854775807) (h0 : J [] W) :
    CallsIn Fence.wide m Try.prog 57 #[.func (.yield l) #[] #[], .pointer (some ⟨Bl, 0, none⟩), .pointer (some ⟨Ba, 0, none⟩), .pointer (some ⟨Bt, 0, none⟩)] W fun e W' => (∃ v, e = .returned v) ∧ (b = true → J xs W') ∧ (b = false → Jx W') := by
  have hro : Fence.wide.round = none := rfl
  have hm := hs.w.most
  refine callsIn_of_wp Try.func57 rfl trivial ?_ hro
  simp only [Try.ntmps57, List.size_toArray, List.length_cons, List.length_nil, Nat.reduceAdd, Nat.reduceSub, Array.replicate_succ, Array.replicate_zero, List.push_toArray, List.append_toArray, List.nil_append, List.cons_append]
  gi_wp2
  gi_loopw [7] (fun z wr => ∃ (pre rest : List Int) (A L : Int), Hid (xs = pre ++ rest) ∧ way V n b A L rest ∧ inR A ∧ (0 ≤ L ∧ L ≤ 9223372036854775807) ∧ stAll wr Bl Ba Bt p g n V L A ∧ J pre wr) (fun z wr => leftOf Bl wr)
  case atStart =>
    exact ⟨[], xs, a, left, Lib.hid rfl, hw, ha, hl, hs, h0⟩
  case round =>
    obtain ⟨pre, rest, A, L, hx, hr, hA, hL, hst, hJs⟩ := hrel
    have cl := hst.l.cell
    have ca := hst.a.cell
    have ct := hst.t.cell
    cases hr with
    | done =>
      gi_wp2
      go_end0
      refine ⟨⟨_, rfl⟩, ?_⟩
      rw [hx.out, List.append_nil]
      exact hJs
    | no hl0 hno =>
      have N := Lib.hid hno
      clear hno
      gi_wp2_with fail
      refine ⟨trivial, fun _ => by omega, ?_⟩
      refine (callsIn_wide.2 (tat_f _ _ _ _ _ _ hst.w N.out hA)).mono ?_
      rintro e w1 ⟨rfl, hb1⟩
      have hst1 := hst.below hb1
      have hJ1 := hJ _ _ _ hJs (.of_below hb1)
      have hz1 := hb1.size
      have cl1 := hst1.l.cell
      have ca1 := hst1.a.cell
      have ct1 := hst1.t.cell
      have hlt := hst1.l.lt
      have hat := hst1.a.lt
      have htt := hst1.t.lt
      unfold zHead
      obtain ⟨fn, tmps, assign, body, hy, hR⟩ := hY2 pre A (w1.alloc (.cells #[.int .i64 0, .int .i64 0, .int .i64 0, .bool false, .int .i64 0, .int .i64 0] 64)) (hJ _ _ _ hJ1 (.of_below ((Below.refl _ _).alloc (Nat.le_refl _) _)))
      gi_wp2_with fail
      refine ⟨fun _ => by omega, ?_⟩
      refine hR.mono ?_
      rintro e w2 ⟨rfl, hJx⟩
      gi_wp2_with fail
      refine bodyPost_ret (results_none rfl _ _ _) rfl ?_
      exact ⟨⟨_, rfl⟩, hJx⟩
    | @long _ _ z hl0 ho hz =>
      have hob := ho.bd
      obtain ⟨k, l', t, d, s', e', ea, hk, o⟩ := ho
      have K := Lib.hid ea
      clear ea
      have hdz : decide (z * 8 ≤ L) = false := by simp; omega
      gi_wp2_with fail
      refine ⟨trivial, fun _ => by omega, ?_⟩
      refine (callsIn_wide.2 (tat_t _ _ _ _ _ _ k _ _ _ _ _ _ hst.w K.out hk o)).mono ?_
      rintro e w1 ⟨rfl, hb1⟩
      have hst1 := hst.below hb1
      have hJ1 := hJ _ _ _ hJs (.of_below hb1)
      have hz1 := hb1.size
      have cl1 := hst1.l.cell
      have ca1 := hst1.a.cell
      have ct1 := hst1.t.cell
      have hlt := hst1.l.lt
      have hat := hst1.a.lt
      have htt := hst1.t.lt
      obtain ⟨fn, tmps, assign, body, hy, hR⟩ := hY2 pre A (w1.alloc (.cells #[.int .i64 z, .int .i64 l', .int .i64 t, .bool d, .int .i64 s', .int .i64 e'] 64)) (hJ _ _ _ hJ1 (.of_below ((Below.refl _ _).alloc (Nat.le_refl _) _)))
      gi_wp2_with fail
      refine ⟨fun _ => by omega, ?_⟩
      refine hR.mono ?_
      rintro e w2 ⟨rfl, hJx⟩
      gi_wp2_with fail
      refine bodyPost_ret (results_none rfl _ _ _) rfl ?_
      exact ⟨⟨_, rfl⟩, hJx⟩
    | @step _ _ _ z rest ho hz hr' =>
      have hob := ho.bd
      have hxl : Hid (pre.length < xs.length) := Lib.hid (by rw [hx.out]; simp)
      obtain ⟨k, l', t, d, s', e', ea, hk, o⟩ := ho
      have K := Lib.hid ea
      clear ea
      have hdz : decide (z * 8 ≤ L) = true := by simp; omega
      gi_wp2_with fail
      refine ⟨trivial, fun _ => by omega, ?_⟩
      refine (callsIn_wide.2 (tat_t _ _ _ _ _ _ k _ _ _ _ _ _ hst.w K.out hk o)).mono ?_
      rintro e w1 ⟨rfl, hb1⟩
      have hst1 := hst.below hb1
      have hJ1 := hJ _ _ _ hJs (.of_below hb1)
      have hz1 := hb1.size
      have cl1 := hst1.l.cell
      have ca1 := hst1.a.cell
      have ct1 := hst1.t.cell
      have hlt := hst1.l.lt
      have hat := hst1.a.lt
      have htt := hst1.t.lt
      obtain ⟨fn, tmps, assign, body, hy, hR⟩ := hY1 pre A (w1.alloc (.cells #[.int .i64 z, .int .i64 l', .int .i64 t, .bool d, .int .i64 s', .int .i64 e'] 64)) (hJ _ _ _ hJ1 (.of_below ((Below.refl _ _).alloc (Nat.le_refl _) _))) hxl.out
      gi_wp2_with fail
      refine ⟨fun _ => by omega, ?_⟩
      refine hR.mono ?_
      rintro e w2 ⟨rfl, hJ2, hH⟩
      have hst2 := (hst1.below ((Below.refl _ _).alloc (Nat.le_refl _) _)).holds hH
      have cl2 := hst2.l.cell
      have ct2 := hst2.t.cell
      have fl2 := hst2.l.frozen
      have ft2 := hst2.t.frozen
      clear hy hR
      gi_wp2_with fail
      refine wpIn_wide.2 ?_
      have E1 : IntKind.i64.wrap (A + z * 8) = A + 8 * z := by rw [IntKind.wrap_i64]; omega
      have E2 : IntKind.i64.wrap (L - z * 8) = L - 8 * z := by rw [IntKind.wrap_i64]; omega
      have hst3 : stAll ((w2.setCell ⟨Bt, 0, none⟩ (.int .i64 (A + 8 * z))).setCell ⟨Bl, 0, none⟩ (.int .i64 (L - 8 * z))).drew Bl Ba Bt p g n V (L - 8 * z) (A + 8 * z) :=
        ⟨(hst2.l.other hd1.1 _).set _, (hst2.a.other (Ne.symm hd1.2.2) _).other (Ne.symm hd1.2.1) _, (hst2.t.set _).other (Ne.symm hd1.1) _,
          ((hst2.w.far (a := ⟨Bt, 0, none⟩) hd2.2.1 hd2.2.2.2 _).far (a := ⟨Bl, 0, none⟩) hd2.1 hd2.2.2.1 _).drew⟩
      have hJ3 := hJ _ _ _ hJ2 ((((Else.of_below (Below.refl _ w2)).set2 (.int .i64 (A + 8 * z))).set1 (.int .i64 (L - 8 * z))).drew)
      have hms := leftOf_eq hst3.l
      have hms2 := leftOf_eq hst.l
      go_region
      all_goals
        gi_wp2_with fail
        go_roundw
        case rel => exact ⟨pre ++ [A], rest, A + 8 * z, L - 8 * z, Lib.hid (by rw [hx.out]; simp), hr', by unfold inR at hA ⊢; omega, by omega, hst3, hJ3⟩
        case measure => rw [hms2, hms]; omega

end Go.Proofs.Ytahkplakdbbmmaa
