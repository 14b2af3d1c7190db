/- What the arena and its reference do alike, call by call. -/
import Derived.Test.YtahkplakdbbmmaaRef02b
namespace Go.Proofs.Ytahkplakdbbmmaa
set_option linter.unusedVariables false
set_option linter.unusedSimpArgs false
open Go.RowKit

/-- A call returns v and makes the arena's words V' out of V. -/
def doesW (f : FuncId) (args : Array Value) (p g k : Nat) (V : Nat → Int) (v : Value) (V' : Nat → Int) : Prop :=
  ∀ W, isW W p g k V → Calls Try.prog f args W fun e w' => e = .returned v ∧ isW w' p g k V' ∧ But W.heap.size g W w'
def doesY (f : FuncId) (args : Array Value) (p g k : Nat) (V : Nat → Int) (v : Value) (V' : Nat → Int) : Prop :=
  ∀ W, isY W p g k V → Calls Try.prog f args W fun e w' => e = .returned v ∧ isY w' p g k V' ∧ But W.heap.size g W w'
theorem toW {f : FuncId} {args : Array Value} {v : Value} {w : World} {p g k : Nat} {V : Nat → Int} (h : isW w p g k V) (c : Calls Try.prog f args w fun e w' => e = .returned v ∧ w = w') :
    Calls Try.prog f args w fun e w' => e = .returned v ∧ isW w' p g k V ∧ But w.heap.size g w w' :=
  c.mono fun _ _ hh => by obtain ⟨a, b⟩ := hh; subst b; exact ⟨a, h, But.refl _ _ _⟩
theorem toY {f : FuncId} {args : Array Value} {v : Value} {w : World} {p g k : Nat} {V : Nat → Int} (h : isY w p g k V) (c : Calls Try.prog f args w fun e w' => e = .returned v ∧ w = w') :
    Calls Try.prog f args w fun e w' => e = .returned v ∧ isY w' p g k V ∧ But w.heap.size g w w' :=
  c.mono fun _ _ hh => by obtain ⟨a, b⟩ := hh; subst b; exact ⟨a, h, But.refl _ _ _⟩

section
variable (p g q h k : Nat) (V : Nat → Int) (a : Int)
theorem both_word : ∃ x r, doesW 18 #[.pointer (some ⟨p, 0, none⟩), .int .i64 a] p g k V (.tuple #[.int .u64 x, .int .i64 r]) V ∧
    doesY 26 #[.pointer (some ⟨q, 0, none⟩), .int .i64 a] q h k V (.tuple #[.int .u64 x, .int .i64 r]) V := by
  by_cases c : a < 0 ∨ 8 * k ≤ a ∨ a % 8 ≠ 0
  · exact ⟨0, 1, fun W hW => toW hW (wword_f W p g k V a hW c), fun W hW => toY hW (yword_f W q h k V a hW c)⟩
  · exact ⟨V (a / 8).toNat, 0, fun W hW => toW hW (wword_t W p g k V a _ hW (by omega) (by omega)), fun W hW => toY hW (yword_t W q h k V a _ hW (by omega) (by omega))⟩
theorem both_put (x : Int) (hx : inU x) : ∃ r V', doesW 19 #[.pointer (some ⟨p, 0, none⟩), .int .i64 a, .int .u64 x] p g k V (.int .i64 r) V' ∧
    doesY 32 #[.pointer (some ⟨q, 0, none⟩), .int .i64 a, .int .u64 x] q h k V (.int .i64 r) V' := by
  by_cases c : a < 0 ∨ 8 * k ≤ a ∨ a % 8 ≠ 0
  · exact ⟨1, V, fun W hW => toW hW (wput_f W p g k V a x hW c), fun W hW => toY hW (yput_f W q h k V a x hW c)⟩
  · exact ⟨0, _, fun W hW => wput_t W p g k V a x (a / 8).toNat hW (by omega) (by omega) hx, fun W hW => yput_t W q h k V a x (a / 8).toNat hW (by omega) (by omega) hx⟩
theorem both_byte : ∃ x r, doesW 17 #[.pointer (some ⟨p, 0, none⟩), .int .i64 a] p g k V (.tuple #[.int .u8 x, .int .i64 r]) V ∧
    doesY 27 #[.pointer (some ⟨q, 0, none⟩), .int .i64 a] q h k V (.tuple #[.int .u8 x, .int .i64 r]) V := by
  by_cases c : a < 0 ∨ 8 * k ≤ a
  · exact ⟨0, 1, fun W hW => toW hW (wbyte_f W p g k V a hW c), fun W hW => toY hW (ybyte_f W q h k V a hW c)⟩
  · refine ⟨_, 0, fun W hW => toW hW (wbyte_t W p g k V a (a / 8).toNat (a % 8).toNat hW (by omega) (by omega) (by omega)), fun W hW => ?_⟩
    refine (ybyte_t W q h k V a (a / 8).toNat (a % 8).toNat hW (by omega) (by omega) (by omega)).mono fun e w' hh => ?_
    obtain ⟨he, m, rfl⟩ := hh
    exact ⟨he, hW.drewN m, ⟨rfl, rfl, rfl, Nat.le_refl _, fun _ _ _ => rfl⟩⟩
theorem both_putByte (x : Int) (hx : 0 ≤ x ∧ x ≤ 255) : ∃ r V', doesW 20 #[.pointer (some ⟨p, 0, none⟩), .int .i64 a, .int .u8 x] p g k V (.int .i64 r) V' ∧
    doesY 28 #[.pointer (some ⟨q, 0, none⟩), .int .i64 a, .int .u8 x] q h k V (.int .i64 r) V' := by
  by_cases c : a < 0 ∨ 8 * k ≤ a
  · exact ⟨1, V, fun W hW => toW hW (wputByte_f W p g k V a x hW c), fun W hW => toY hW (yputByte_f W q h k V a x hW c)⟩
  · exact ⟨0, _, fun W hW => wputByte_t W p g k V a x (a / 8).toNat (a % 8).toNat hW (by omega) (by omega) (by omega) hx, fun W hW => yputByte_t W q h k V a x (a / 8).toNat (a % 8).toNat hW (by omega) (by omega) (by omega) hx⟩
theorem both_cas (o x : Int) (hx : inU x) : ∃ b r V', doesW 22 #[.pointer (some ⟨p, 0, none⟩), .int .i64 a, .int .u64 o, .int .u64 x] p g k V (.tuple #[.bool b, .int .i64 r]) V' ∧
    doesY 29 #[.pointer (some ⟨q, 0, none⟩), .int .i64 a, .int .u64 o, .int .u64 x] q h k V (.tuple #[.bool b, .int .i64 r]) V' := by
  by_cases c : a < 0 ∨ 8 * k ≤ a ∨ a % 8 ≠ 0
  · exact ⟨false, 1, V, fun W hW => toW hW (wcas_f W p g k V a o x hW c), fun W hW => toY hW (ycas_f W q h k V a o x hW c)⟩
  · by_cases d : V (a / 8).toNat = o
    · exact ⟨true, 0, _, fun W hW => wcas_t W p g k V a o x (a / 8).toNat hW (by omega) (by omega) hx d, fun W hW => ycas_t W q h k V a o x (a / 8).toNat hW (by omega) (by omega) hx d⟩
    · exact ⟨false, 0, V, fun W hW => toW hW (wcas_n W p g k V a o x (a / 8).toNat hW (by omega) (by omega) d), fun W hW => toY hW (ycas_n W q h k V a o x (a / 8).toNat hW (by omega) (by omega) d)⟩
theorem both_zero (n : Int) (hn : -9223372036854775808 ≤ n ∧ n ≤ 9223372036854775807) : ∃ r V', doesW 23 #[.pointer (some ⟨p, 0, none⟩), .int .i64 a, .int .i64 n] p g k V (.int .i64 r) V' ∧
    doesY 31 #[.pointer (some ⟨q, 0, none⟩), .int .i64 a, .int .i64 n] q h k V (.int .i64 r) V' := by
  by_cases c0 : n = 0
  · subst c0
    exact ⟨0, V, fun W hW => toW hW (wzero_0 W p g k V a hW), fun W hW => toY hW (yzero_0 W q h k V a hW)⟩
  · by_cases c : n < 0 ∨ (n ≠ 0 ∧ ((a < 0 ∨ 8 * k ≤ a ∨ a % 8 ≠ 0) ∨ (0 ≤ a ∧ k - a / 8 < n)))
    · exact ⟨1, V, fun W hW => toW hW (wzero_f W p g k V a n hW hn c), fun W hW => toY hW (yzero_f W q h k V a n hW hn c)⟩
    · obtain ⟨m, rfl⟩ : ∃ m : Nat, n = m := ⟨n.toNat, by omega⟩
      exact ⟨0, _, fun W hW => wzero_t W p g k V a (a / 8).toNat m hW (by omega) (by omega) (by omega), fun W hW => yzero_t W q h k V a (a / 8).toNat m hW (by omega) (by omega) (by omega)⟩
theorem both_claim (y m b x1 x2 : Int) (hV : ∀ i, i < k → inU (V i)) (hk : 8 * k ≤ 65536) (hy : inU y) (hm : inU m) (hx1 : inU x1) (hx2 : inU x2) : ∃ x ok r V',
    doesW 24 #[.pointer (some ⟨p, 0, none⟩), .int .i64 a, .int .u64 y, .int .u64 m, .int .i64 b, .int .u64 x1, .int .u64 x2] p g k V (.tuple #[.int .u64 x, .bool ok, .int .i64 r]) V' ∧
    doesY 30 #[.pointer (some ⟨q, 0, none⟩), .int .i64 a, .int .u64 y, .int .u64 m, .int .i64 b, .int .u64 x1, .int .u64 x2] q h k V (.tuple #[.int .u64 x, .bool ok, .int .i64 r]) V' := by
  by_cases c : a < 0 ∨ 8 * k ≤ a ∨ a % 8 ≠ 0
  · exact ⟨0, false, 1, V, fun W hW => toW hW (wclaim_f W p g k V a y m b x1 x2 hW c), fun W hW => toY hW (yclaim_f W q h k V a y m b x1 x2 hW c)⟩
  · obtain ⟨i, hi⟩ : ∃ i : Nat, a = 8 * i := ⟨(a / 8).toNat, by omega⟩
    have hik : i < k := by omega
    have hVi := hV i hik
    by_cases d : m < V i ∨ m - V i < y
    · exact ⟨_, false, 0, V, fun W hW => toW hW (wclaim_n W p g k V a y m b x1 x2 i hW hi hik hy hm d), fun W hW => toY hW (yclaim_n W q h k V a y m b x1 x2 i hW hi hik hy hm d)⟩
    · by_cases o : 65536 < V i ∨ b < 0 ∨ 65536 < b ∨ 8 * k < b + V i + 16 ∨ (b + V i) % 8 ≠ 0
      · exact ⟨0, false, 1, V, fun W hW => toW hW (wclaim_o W p g k V a y m b x1 x2 i hW hi hik hy hm (by omega) (by omega) o), fun W hW => toY hW (yclaim_o W q h k V a y m b x1 x2 i hW hi hik hy hm (by omega) (by omega) o)⟩
      · obtain ⟨j, hj⟩ : ∃ j : Nat, b + V i = 8 * j := ⟨((b + V i) / 8).toNat, by unfold inU at hVi; omega⟩
        exact ⟨V i, true, 0, _, fun W hW => wclaim_t W p g k V a y m b x1 x2 (V i) i j hW hi hik hy hm rfl (by omega) (by omega) (by omega) (by omega) hj (by omega) hx1 hx2,
          fun W hW => yclaim_t W q h k V a y m b x1 x2 (V i) i j hW hi hik hy hm rfl (by omega) (by omega) (by omega) (by omega) hj (by omega) hx1 hx2⟩
end
end Go.Proofs.Ytahkplakdbbmmaa
