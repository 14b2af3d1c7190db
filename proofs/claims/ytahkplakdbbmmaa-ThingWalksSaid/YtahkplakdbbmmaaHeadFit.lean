/- A head as an object's words; the reference's Fit. -/
import Derived.Test.YtahkplakdbbmmaaHeadUnp
namespace Go.Proofs.Ytahkplakdbbmmaa
set_option linter.unusedVariables false
open Go.RowKit

/-- Two words that are a head's. -/
structure isObj (f t z l g : Int) (d : Bool) (s e : Int) : Prop where
  ok : okHead z l g s e
  one : f = hF z l g (bi d)
  two : t = s + 256 * e
theorem isObj.bd {f t z l g : Int} {d : Bool} {s e : Int} (o : isObj f t z l g d s e) : inU f ∧ inU t := by
  have := bi_bd d
  obtain ⟨⟨a, b, c, x, y⟩, rfl, rfl⟩ := o
  unfold hF inU
  omega
theorem isObj.parts {f t z l g : Int} {d : Bool} {s e : Int} (o : isObj f t z l g d s e) : uZ f = z ∧ uL f = l ∧ uG f = g ∧ uD f = d ∧ uS' t = s ∧ uE' t = e ∧ okU f t := by
  obtain ⟨⟨a, b, c, x, y⟩, rfl, rfl⟩ := o
  cases d
  · rw [bi_false]
    unfold uZ uL uG uD uS' uE' okU hF okHead uZ uL uG uS' uE'
    refine ⟨by omega, by omega, by omega, by simp; omega, by omega, by omega, ⟨by omega, by omega, by omega, by omega, by omega⟩, by omega, by omega⟩
  · rw [bi_true]
    unfold uZ uL uG uD uS' uE' okU hF okHead uZ uL uG uS' uE'
    refine ⟨by omega, by omega, by omega, by simp; omega, by omega, by omega, ⟨by omega, by omega, by omega, by omega, by omega⟩, by omega, by omega⟩
theorem isObj.of {f t : Int} (hf : inU f) (ok : okU f t) : isObj f t (uZ f) (uL f) (uG f) (uD f) (uS' t) (uE' t) := by
  refine ⟨ok.1, ?_, by unfold uS' uE'; omega⟩
  rw [(bi_uD f hf).1 ok.2.2]
  have h1 := ok.2.1
  have h2 := ok.2.2
  unfold hF uZ uL uG
  unfold inU at hf
  omega
/-- The same object, marked. -/
theorem isObj.mark {f t z l g : Int} {d : Bool} {s e : Int} (o : isObj f t z l g d s e) : isObj (hF z l g 1) t z l g true s e := ⟨o.ok, rfl, o.two⟩

theorem hunpack_o (f t z l g : Int) (d : Bool) (s e : Int) (w : World) (o : isObj f t z l g d s e) :
    Calls Try.prog 51 #[.int .u64 f, .int .u64 t] w fun x w' => x = .returned (.tuple #[.agg #[.int .i64 z, .int .i64 l, .int .i64 g, .bool d, .int .i64 s, .int .i64 e], .int .i64 0]) ∧ Below w.heap.size w w' := by
  obtain ⟨h1, h2, h3, h4, h5, h6, ok⟩ := o.parts
  have := hunpack_ok f t w o.bd.1 o.bd.2 (Lib.hid ok)
  rw [h1, h2, h3, h4, h5, h6] at this
  exact this
theorem hpack_o (z l g : Int) (d : Bool) (s e : Int) (w : World) (ok : okHead z l g s e) :
    Calls Try.prog 54 #[.agg #[.int .i64 z, .int .i64 l, .int .i64 g, .bool d, .int .i64 s, .int .i64 e]] w fun x w' => x = .returned (.tuple #[.int .u64 (hF z l g (bi d)), .int .u64 (s + 256 * e), .int .i64 0]) ∧ Below w.heap.size w w' :=
  hpack_ok z l g d s e w (Lib.hid ok)
theorem hrunpack_o (f t z l g : Int) (d : Bool) (s e : Int) (w : World) (o : isObj f t z l g d s e) :
    Calls Try.prog 52 #[.int .u64 f, .int .u64 t] w fun x w' => x = .returned (.tuple #[.agg #[.int .i64 z, .int .i64 l, .int .i64 g, .bool d, .int .i64 s, .int .i64 e], .int .i64 0]) ∧ Below w.heap.size w w' := by
  obtain ⟨h1, h2, h3, h4, h5, h6, ok⟩ := o.parts
  have := hrunpack_ok f t w o.bd.1 o.bd.2 (Lib.hid ok)
  rw [h1, h2, h3, h4, h5, h6] at this
  exact this
theorem hrpack_o (z l g : Int) (d : Bool) (s e : Int) (w : World) (ok : okHead z l g s e) :
    Calls Try.prog 46 #[.agg #[.int .i64 z, .int .i64 l, .int .i64 g, .bool d, .int .i64 s, .int .i64 e]] w fun x w' => x = .returned (.tuple #[.int .u64 (hF z l g (bi d)), .int .u64 (s + 256 * e), .int .i64 0]) ∧ Below w.heap.size w w' :=
  hrpack_ok z l g d s e w (Lib.hid ok)
theorem fit07_e (z l g : Int) (d : Bool) (s e : Int) (w : World) :
    Calls Try.prog 45 #[.agg #[.int .i64 z, .int .i64 l, .int .i64 g, .bool d, .int .i64 s, .int .i64 e]] w fun x w' => ∃ z1 l1 g1 s1 e1 : Int, x = .returned (.agg #[.int .i64 z1, .int .i64 l1, .int .i64 g1, .bool d, .int .i64 s1, .int .i64 e1]) ∧ (0 ≤ l1 ∧ l1 ≤ 6) ∧ (2 + l1 ≤ z1 ∧ z1 ≤ 71) ∧ (0 ≤ g1 ∧ g1 ≤ 7) ∧ (0 ≤ s1 ∧ s1 ≤ 7) ∧ (0 ≤ e1 ∧ e1 ≤ 16777215) ∧ Below w.heap.size w w' := by
  have b1 := i64_and7 l
  have b2 := i64_and63 z
  have b3 := i64_and7 g
  have b4 := i64_and7 s
  have b5 := i64_andEpoch e
  have key : Calls Try.prog 45 #[.agg #[.int .i64 z, .int .i64 l, .int .i64 g, .bool d, .int .i64 s, .int .i64 e]] w fun x w' => x = .returned (.agg #[.int .i64 (2 + l % 8 % 7 + z % 64), .int .i64 (l % 8 % 7), .int .i64 (g % 8), .bool d, .int .i64 (s % 8), .int .i64 (e % 16777216)]) ∧ Below w.heap.size w w' := by
    go_enter Try.func45, Try.ntmps45
    go_wp2_with fail
    refine ret_cell (g := w.heap.size + 1) (t := 64) (fr := (0, 0)) (cs := #[.int .i64 (2 + l % 8 % 7 + z % 64), .int .i64 (l % 8 % 7), .int .i64 (g % 8), .bool d, .int .i64 (s % 8), .int .i64 (e % 16777216)]) Try.results45 ?_ ?_ ?_ Try.underlying64 rfl ?_ ?_; (focus rfl); (focus rfl); (focus (apply Exists.intro; apply And.intro; (focus (repeat (first | (with_reducible exact heap_new _ _) | ((with_reducible apply heap_new'); (focus (first | (simp; done) | omega))) | (with_reducible apply heap_set) | ((with_reducible apply heap_old); (focus (first | omega | (simp; done) | (simp; omega)))) | ((with_reducible apply heap_below); (focus (with_reducible assumption)); (focus (first | omega | (simp; done) | (simp; omega)))) | ((with_reducible apply heap_set_far); (focus (first | omega | (simp; done) | (simp; omega))))))); (focus rfl))); (focus kernel_rfl)
    refine ⟨rfl, ?_⟩
    repeat (first | (with_reducible exact Below.refl _ _) | ((with_reducible refine Below.setCell ?_ ?_ _); rotate_left; (focus (first | omega | (simp; done) | (simp; omega)))) | ((with_reducible refine Below.alloc ?_ ?_ _); rotate_left; (focus (first | omega | (simp; done) | (simp; omega)))) | (with_reducible refine Below.drew ?_) | (with_reducible refine below_drewN' ?_ _) | ((refine Below.trans ?_ (Below.mono (by with_reducible assumption) ?_)); rotate_left; (focus (first | omega | (simp; done) | (simp; omega)))))
  exact key.mono fun _ _ h => ⟨_, _, _, _, _, h.1, by omega, by omega, by omega, by omega, by omega, h.2⟩

end Go.Proofs.Ytahkplakdbbmmaa
