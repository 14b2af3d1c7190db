/- Contracts of the functions of package head, and of the references and examples of layer 7. -/
import Derived.Test.YtahkplakdbbmmaaBase
namespace Go.Proofs.Ytahkplakdbbmmaa
set_option linter.unusedVariables false
open Go.RowKit

/-- What a head may be. -/
abbrev okHead (z l g s e : Int) : Prop := (0 ≤ l ∧ l ≤ 6) ∧ (2 + l ≤ z ∧ z ≤ 72) ∧ (0 ≤ g ∧ g ≤ 7) ∧ (0 ≤ s ∧ s ≤ 7) ∧ (0 ≤ e ∧ e ≤ 16777215)
abbrev hAgg (z l g : Int) (d : Bool) (s e : Int) : Value := .agg #[.int .i64 z, .int .i64 l, .int .i64 g, .bool d, .int .i64 s, .int .i64 e]

theorem hbelow_t (n m : Int) (w : World) (h1 : 0 ≤ n) (h2 : n < m) (h3 : m ≤ 16777216) :
    Calls Try.prog 59 #[.int .i64 n, .int .i64 m] w fun x w' => x = .returned (.bool true) ∧ w = w' := by
  go_enter Try.func59, Try.ntmps59
  go_wp2_with (go_at_call 47; refine (within_t _ _ _ _ (by omega) (by omega)).mono ?_; rintro e w' ⟨rfl, rfl⟩)
  go_ret; exact ⟨rfl, rfl⟩
theorem hbelow_f (n m : Int) (w : World) (h1 : n < 0 ∨ m ≤ n) (h2 : 1 ≤ m) (h3 : m ≤ 16777216) :
    Calls Try.prog 59 #[.int .i64 n, .int .i64 m] w fun x w' => x = .returned (.bool false) ∧ w = w' := by
  go_enter Try.func59, Try.ntmps59
  go_wp2_with (go_at_call 47; refine (within_f _ _ _ _ (by omega)).mono ?_; rintro e w' ⟨rfl, rfl⟩)
  go_ret; exact ⟨rfl, rfl⟩

set_option maxHeartbeats 1000000 in
theorem hright_any (z l g : Int) (d : Bool) (s e : Int) (w : World) :
    Calls Try.prog 58 #[hAgg z l g d s e] w fun x w' => x = .returned (.bool (if okHead z l g s e then true else false)) ∧ Below w.heap.size w w' := by
  unfold hAgg
  by_cases c0 : 0 ≤ l ∧ l ≤ 6
  case neg =>
    rw [if_neg (by omega)]
    go_enter Try.func58, Try.ntmps58
    go_wp2_with (go_at_call 59; refine (hbelow_f _ _ _ (by omega) (by omega) (by omega)).mono ?_; rintro e w' ⟨rfl, rfl⟩)
    go_ret; refine ⟨rfl, ?_⟩
    repeat (first | (with_reducible exact Below.refl _ _) | ((with_reducible refine Below.setCell ?_ ?_ _); rotate_left; (focus (first | omega | (simp; done) | (simp; omega)))) | ((with_reducible refine Below.alloc ?_ ?_ _); rotate_left; (focus (first | omega | (simp; done) | (simp; omega)))) | (with_reducible refine Below.drew ?_) | (with_reducible refine below_drewN' ?_ _) | ((refine Below.trans ?_ (Below.mono (by with_reducible assumption) ?_)); rotate_left; (focus (first | omega | (simp; done) | (simp; omega)))))
  by_cases c1 : 2 + l ≤ z ∧ z ≤ 72
  case neg =>
    rw [if_neg (by omega)]
    go_enter Try.func58, Try.ntmps58
    go_wp2_with (first | (go_at_call 59; refine (hbelow_t _ _ _ (by omega) (by omega) (by omega)).mono ?_; rintro e w' ⟨rfl, rfl⟩) | (go_at_call 47; refine (within_f _ _ _ _ (by omega)).mono ?_; rintro e w' ⟨rfl, rfl⟩))
    go_ret; refine ⟨rfl, ?_⟩
    repeat (first | (with_reducible exact Below.refl _ _) | ((with_reducible refine Below.setCell ?_ ?_ _); rotate_left; (focus (first | omega | (simp; done) | (simp; omega)))) | ((with_reducible refine Below.alloc ?_ ?_ _); rotate_left; (focus (first | omega | (simp; done) | (simp; omega)))) | (with_reducible refine Below.drew ?_) | (with_reducible refine below_drewN' ?_ _) | ((refine Below.trans ?_ (Below.mono (by with_reducible assumption) ?_)); rotate_left; (focus (first | omega | (simp; done) | (simp; omega)))))
  by_cases c2 : 0 ≤ g ∧ g ≤ 7
  case neg =>
    rw [if_neg (by omega)]
    go_enter Try.func58, Try.ntmps58
    go_wp2_with (first | (go_at_call 59; refine (hbelow_t _ _ _ (by omega) (by omega) (by omega)).mono ?_; rintro e w' ⟨rfl, rfl⟩) | (go_at_call 59; refine (hbelow_f _ _ _ (by omega) (by omega) (by omega)).mono ?_; rintro e w' ⟨rfl, rfl⟩) | (go_at_call 47; refine (within_t _ _ _ _ (by omega) (by omega)).mono ?_; rintro e w' ⟨rfl, rfl⟩))
    go_ret; refine ⟨rfl, ?_⟩
    repeat (first | (with_reducible exact Below.refl _ _) | ((with_reducible refine Below.setCell ?_ ?_ _); rotate_left; (focus (first | omega | (simp; done) | (simp; omega)))) | ((with_reducible refine Below.alloc ?_ ?_ _); rotate_left; (focus (first | omega | (simp; done) | (simp; omega)))) | (with_reducible refine Below.drew ?_) | (with_reducible refine below_drewN' ?_ _) | ((refine Below.trans ?_ (Below.mono (by with_reducible assumption) ?_)); rotate_left; (focus (first | omega | (simp; done) | (simp; omega)))))
  by_cases c3 : 0 ≤ s ∧ s ≤ 7
  case neg =>
    rw [if_neg (by omega)]
    go_enter Try.func58, Try.ntmps58
    go_wp2_with (first | (go_at_call 59; refine (hbelow_t _ _ _ (by omega) (by omega) (by omega)).mono ?_; rintro e w' ⟨rfl, rfl⟩) | (go_at_call 59; refine (hbelow_f _ _ _ (by omega) (by omega) (by omega)).mono ?_; rintro e w' ⟨rfl, rfl⟩) | (go_at_call 47; refine (within_t _ _ _ _ (by omega) (by omega)).mono ?_; rintro e w' ⟨rfl, rfl⟩))
    go_ret; refine ⟨rfl, ?_⟩
    repeat (first | (with_reducible exact Below.refl _ _) | ((with_reducible refine Below.setCell ?_ ?_ _); rotate_left; (focus (first | omega | (simp; done) | (simp; omega)))) | ((with_reducible refine Below.alloc ?_ ?_ _); rotate_left; (focus (first | omega | (simp; done) | (simp; omega)))) | (with_reducible refine Below.drew ?_) | (with_reducible refine below_drewN' ?_ _) | ((refine Below.trans ?_ (Below.mono (by with_reducible assumption) ?_)); rotate_left; (focus (first | omega | (simp; done) | (simp; omega)))))
  by_cases c4 : 0 ≤ e ∧ e ≤ 16777215
  case neg =>
    rw [if_neg (by omega)]
    go_enter Try.func58, Try.ntmps58
    go_wp2_with (first | (go_at_call 59; refine (hbelow_t _ _ _ (by omega) (by omega) (by omega)).mono ?_; rintro e w' ⟨rfl, rfl⟩) | (go_at_call 59; refine (hbelow_f _ _ _ (by omega) (by omega) (by omega)).mono ?_; rintro e w' ⟨rfl, rfl⟩) | (go_at_call 47; refine (within_t _ _ _ _ (by omega) (by omega)).mono ?_; rintro e w' ⟨rfl, rfl⟩))
    go_ret; refine ⟨rfl, ?_⟩
    repeat (first | (with_reducible exact Below.refl _ _) | ((with_reducible refine Below.setCell ?_ ?_ _); rotate_left; (focus (first | omega | (simp; done) | (simp; omega)))) | ((with_reducible refine Below.alloc ?_ ?_ _); rotate_left; (focus (first | omega | (simp; done) | (simp; omega)))) | (with_reducible refine Below.drew ?_) | (with_reducible refine below_drewN' ?_ _) | ((refine Below.trans ?_ (Below.mono (by with_reducible assumption) ?_)); rotate_left; (focus (first | omega | (simp; done) | (simp; omega)))))
  rw [if_pos (by omega)]
  go_enter Try.func58, Try.ntmps58
  go_wp2_with (first | (go_at_call 59; refine (hbelow_t _ _ _ (by omega) (by omega) (by omega)).mono ?_; rintro e w' ⟨rfl, rfl⟩) | (go_at_call 47; refine (within_t _ _ _ _ (by omega) (by omega)).mono ?_; rintro e w' ⟨rfl, rfl⟩))
  go_ret; refine ⟨rfl, ?_⟩
  repeat (first | (with_reducible exact Below.refl _ _) | ((with_reducible refine Below.setCell ?_ ?_ _); rotate_left; (focus (first | omega | (simp; done) | (simp; omega)))) | ((with_reducible refine Below.alloc ?_ ?_ _); rotate_left; (focus (first | omega | (simp; done) | (simp; omega)))) | (with_reducible refine Below.drew ?_) | (with_reducible refine below_drewN' ?_ _) | ((refine Below.trans ?_ (Below.mono (by with_reducible assumption) ?_)); rotate_left; (focus (first | omega | (simp; done) | (simp; omega)))))

set_option maxHeartbeats 1000000 in
theorem hrright_any (z l g : Int) (d : Bool) (s e : Int) (w : World) (hl : inR l) :
    Calls Try.prog 55 #[hAgg z l g d s e] w fun x w' => x = .returned (.bool (if okHead z l g s e then true else false)) ∧ Below w.heap.size w w' := by
  unfold hAgg
  by_cases c0 : 0 ≤ l
  case neg =>
    have d0 : decide (0 ≤ l) = false := by simp; omega
    rw [if_neg (by omega)]
    go_enter Try.func55, Try.ntmps55
    go_wp2
    go_ret; exact ⟨rfl, by
      repeat (first | (with_reducible exact Below.refl _ _) | ((with_reducible refine Below.setCell ?_ ?_ _); rotate_left; (focus (first | omega | (simp; done) | (simp; omega)))) | ((with_reducible refine Below.alloc ?_ ?_ _); rotate_left; (focus (first | omega | (simp; done) | (simp; omega)))) | (with_reducible refine Below.drew ?_) | (with_reducible refine below_drewN' ?_ _) | ((refine Below.trans ?_ (Below.mono (by with_reducible assumption) ?_)); rotate_left; (focus (first | omega | (simp; done) | (simp; omega)))))⟩
  have d0 : decide (0 ≤ l) = true := by simp; omega
  by_cases c1 : l ≤ 6
  case neg =>
    have d1 : decide (l ≤ 6) = false := by simp; omega
    rw [if_neg (by omega)]
    go_enter Try.func55, Try.ntmps55
    go_wp2
    go_ret; exact ⟨rfl, by
      repeat (first | (with_reducible exact Below.refl _ _) | ((with_reducible refine Below.setCell ?_ ?_ _); rotate_left; (focus (first | omega | (simp; done) | (simp; omega)))) | ((with_reducible refine Below.alloc ?_ ?_ _); rotate_left; (focus (first | omega | (simp; done) | (simp; omega)))) | (with_reducible refine Below.drew ?_) | (with_reducible refine below_drewN' ?_ _) | ((refine Below.trans ?_ (Below.mono (by with_reducible assumption) ?_)); rotate_left; (focus (first | omega | (simp; done) | (simp; omega)))))⟩
  have d1 : decide (l ≤ 6) = true := by simp; omega
  by_cases c2 : 2 + l ≤ z
  case neg =>
    have d2 : decide (2 + l ≤ z) = false := by simp; omega
    rw [if_neg (by omega)]
    go_enter Try.func55, Try.ntmps55
    go_wp2
    go_ret; exact ⟨rfl, by
      repeat (first | (with_reducible exact Below.refl _ _) | ((with_reducible refine Below.setCell ?_ ?_ _); rotate_left; (focus (first | omega | (simp; done) | (simp; omega)))) | ((with_reducible refine Below.alloc ?_ ?_ _); rotate_left; (focus (first | omega | (simp; done) | (simp; omega)))) | (with_reducible refine Below.drew ?_) | (with_reducible refine below_drewN' ?_ _) | ((refine Below.trans ?_ (Below.mono (by with_reducible assumption) ?_)); rotate_left; (focus (first | omega | (simp; done) | (simp; omega)))))⟩
  have d2 : decide (2 + l ≤ z) = true := by simp; omega
  by_cases c3 : z ≤ 72
  case neg =>
    have d3 : decide (z ≤ 72) = false := by simp; omega
    rw [if_neg (by omega)]
    go_enter Try.func55, Try.ntmps55
    go_wp2
    go_ret; exact ⟨rfl, by
      repeat (first | (with_reducible exact Below.refl _ _) | ((with_reducible refine Below.setCell ?_ ?_ _); rotate_left; (focus (first | omega | (simp; done) | (simp; omega)))) | ((with_reducible refine Below.alloc ?_ ?_ _); rotate_left; (focus (first | omega | (simp; done) | (simp; omega)))) | (with_reducible refine Below.drew ?_) | (with_reducible refine below_drewN' ?_ _) | ((refine Below.trans ?_ (Below.mono (by with_reducible assumption) ?_)); rotate_left; (focus (first | omega | (simp; done) | (simp; omega)))))⟩
  have d3 : decide (z ≤ 72) = true := by simp; omega
  by_cases c4 : 0 ≤ g
  case neg =>
    have d4 : decide (0 ≤ g) = false := by simp; omega
    rw [if_neg (by omega)]
    go_enter Try.func55, Try.ntmps55
    go_wp2
    go_ret; exact ⟨rfl, by
      repeat (first | (with_reducible exact Below.refl _ _) | ((with_reducible refine Below.setCell ?_ ?_ _); rotate_left; (focus (first | omega | (simp; done) | (simp; omega)))) | ((with_reducible refine Below.alloc ?_ ?_ _); rotate_left; (focus (first | omega | (simp; done) | (simp; omega)))) | (with_reducible refine Below.drew ?_) | (with_reducible refine below_drewN' ?_ _) | ((refine Below.trans ?_ (Below.mono (by with_reducible assumption) ?_)); rotate_left; (focus (first | omega | (simp; done) | (simp; omega)))))⟩
  have d4 : decide (0 ≤ g) = true := by simp; omega
  by_cases c5 : g < 8
  case neg =>
    have d5 : decide (g < 8) = false := by simp; omega
    rw [if_neg (by omega)]
    go_enter Try.func55, Try.ntmps55
    go_wp2
    go_ret; exact ⟨rfl, by
      repeat (first | (with_reducible exact Below.refl _ _) | ((with_reducible refine Below.setCell ?_ ?_ _); rotate_left; (focus (first | omega | (simp; done) | (simp; omega)))) | ((with_reducible refine Below.alloc ?_ ?_ _); rotate_left; (focus (first | omega | (simp; done) | (simp; omega)))) | (with_reducible refine Below.drew ?_) | (with_reducible refine below_drewN' ?_ _) | ((refine Below.trans ?_ (Below.mono (by with_reducible assumption) ?_)); rotate_left; (focus (first | omega | (simp; done) | (simp; omega)))))⟩
  have d5 : decide (g < 8) = true := by simp; omega
  by_cases c6 : 0 ≤ s
  case neg =>
    have d6 : decide (0 ≤ s) = false := by simp; omega
    rw [if_neg (by omega)]
    go_enter Try.func55, Try.ntmps55
    go_wp2
    go_ret; exact ⟨rfl, by
      repeat (first | (with_reducible exact Below.refl _ _) | ((with_reducible refine Below.setCell ?_ ?_ _); rotate_left; (focus (first | omega | (simp; done) | (simp; omega)))) | ((with_reducible refine Below.alloc ?_ ?_ _); rotate_left; (focus (first | omega | (simp; done) | (simp; omega)))) | (with_reducible refine Below.drew ?_) | (with_reducible refine below_drewN' ?_ _) | ((refine Below.trans ?_ (Below.mono (by with_reducible assumption) ?_)); rotate_left; (focus (first | omega | (simp; done) | (simp; omega)))))⟩
  have d6 : decide (0 ≤ s) = true := by simp; omega
  by_cases c7 : s < 8
  case neg =>
    have d7 : decide (s < 8) = false := by simp; omega
    rw [if_neg (by omega)]
    go_enter Try.func55, Try.ntmps55
    go_wp2
    go_ret; exact ⟨rfl, by
      repeat (first | (with_reducible exact Below.refl _ _) | ((with_reducible refine Below.setCell ?_ ?_ _); rotate_left; (focus (first | omega | (simp; done) | (simp; omega)))) | ((with_reducible refine Below.alloc ?_ ?_ _); rotate_left; (focus (first | omega | (simp; done) | (simp; omega)))) | (with_reducible refine Below.drew ?_) | (with_reducible refine below_drewN' ?_ _) | ((refine Below.trans ?_ (Below.mono (by with_reducible assumption) ?_)); rotate_left; (focus (first | omega | (simp; done) | (simp; omega)))))⟩
  have d7 : decide (s < 8) = true := by simp; omega
  by_cases c8 : 0 ≤ e
  case neg =>
    have d8 : decide (0 ≤ e) = false := by simp; omega
    rw [if_neg (by omega)]
    go_enter Try.func55, Try.ntmps55
    go_wp2
    go_ret; exact ⟨rfl, by
      repeat (first | (with_reducible exact Below.refl _ _) | ((with_reducible refine Below.setCell ?_ ?_ _); rotate_left; (focus (first | omega | (simp; done) | (simp; omega)))) | ((with_reducible refine Below.alloc ?_ ?_ _); rotate_left; (focus (first | omega | (simp; done) | (simp; omega)))) | (with_reducible refine Below.drew ?_) | (with_reducible refine below_drewN' ?_ _) | ((refine Below.trans ?_ (Below.mono (by with_reducible assumption) ?_)); rotate_left; (focus (first | omega | (simp; done) | (simp; omega)))))⟩
  have d8 : decide (0 ≤ e) = true := by simp; omega
  by_cases c9 : e ≤ 16777215
  case neg =>
    have d9 : decide (e ≤ 16777215) = false := by simp; omega
    rw [if_neg (by omega)]
    go_enter Try.func55, Try.ntmps55
    go_wp2
    go_ret; exact ⟨rfl, by
      repeat (first | (with_reducible exact Below.refl _ _) | ((with_reducible refine Below.setCell ?_ ?_ _); rotate_left; (focus (first | omega | (simp; done) | (simp; omega)))) | ((with_reducible refine Below.alloc ?_ ?_ _); rotate_left; (focus (first | omega | (simp; done) | (simp; omega)))) | (with_reducible refine Below.drew ?_) | (with_reducible refine below_drewN' ?_ _) | ((refine Below.trans ?_ (Below.mono (by with_reducible assumption) ?_)); rotate_left; (focus (first | omega | (simp; done) | (simp; omega)))))⟩
  have d9 : decide (e ≤ 16777215) = true := by simp; omega
  rw [if_pos (by omega)]
  go_enter Try.func55, Try.ntmps55
  go_wp2
  go_ret; exact ⟨rfl, by
    repeat (first | (with_reducible exact Below.refl _ _) | ((with_reducible refine Below.setCell ?_ ?_ _); rotate_left; (focus (first | omega | (simp; done) | (simp; omega)))) | ((with_reducible refine Below.alloc ?_ ?_ _); rotate_left; (focus (first | omega | (simp; done) | (simp; omega)))) | (with_reducible refine Below.drew ?_) | (with_reducible refine below_drewN' ?_ _) | ((refine Below.trans ?_ (Below.mono (by with_reducible assumption) ?_)); rotate_left; (focus (first | omega | (simp; done) | (simp; omega)))))⟩

theorem hright_t (z l g : Int) (d : Bool) (s e : Int) (w : World) (ok : okHead z l g s e) :
    Calls Try.prog 58 #[hAgg z l g d s e] w fun x w' => x = .returned (.bool true) ∧ Below w.heap.size w w' := by
  have := hright_any z l g d s e w
  rwa [if_pos ok] at this
theorem hright_f (z l g : Int) (d : Bool) (s e : Int) (w : World) (no : ¬ okHead z l g s e) :
    Calls Try.prog 58 #[hAgg z l g d s e] w fun x w' => x = .returned (.bool false) ∧ Below w.heap.size w w' := by
  have := hright_any z l g d s e w
  rwa [if_neg no] at this
theorem hrright_t (z l g : Int) (d : Bool) (s e : Int) (w : World) (hl : inR l) (ok : okHead z l g s e) :
    Calls Try.prog 55 #[hAgg z l g d s e] w fun x w' => x = .returned (.bool true) ∧ Below w.heap.size w w' := by
  have := hrright_any z l g d s e w hl
  rwa [if_pos ok] at this
theorem hrright_f (z l g : Int) (d : Bool) (s e : Int) (w : World) (hl : inR l) (no : ¬ okHead z l g s e) :
    Calls Try.prog 55 #[hAgg z l g d s e] w fun x w' => x = .returned (.bool false) ∧ Below w.heap.size w w' := by
  have := hrright_any z l g d s e w hl
  rwa [if_neg no] at this

/-- Bit 48 put to a word that lacks it. -/
theorem u64_or48 (x : Int) (h : inU x) (h2 : x % 562949953421312 < 281474976710656) : bits .or .u64 x 281474976710656 = x + 281474976710656 := by
  obtain ⟨X, rfl⟩ := Int.eq_ofNat_of_zero_le h.1
  have hx : X < 18446744073709551616 := by have := h.2; omega
  show bits .or .u64 (X : Int) ((281474976710656 : Nat) : Int) = _
  rw [u64_or_nat X _ hx (by decide)]
  have e : X = 2 ^ 49 * (X / 2 ^ 49) + X % 2 ^ 49 := (Nat.div_add_mod X (2 ^ 49)).symm
  have hb : X % 2 ^ 49 < 2 ^ 48 := by omega
  have e1 : 2 ^ 49 * (X / 2 ^ 49) + X % 2 ^ 49 = 2 ^ 49 * (X / 2 ^ 49) ||| X % 2 ^ 49 := Nat.two_pow_add_eq_or_of_lt (by omega) _
  have e2 : 2 ^ 48 * 1 + X % 2 ^ 49 = 2 ^ 48 * 1 ||| X % 2 ^ 49 := Nat.two_pow_add_eq_or_of_lt hb 1
  have e3 : 2 ^ 49 * (X / 2 ^ 49) + (2 ^ 48 * 1 + X % 2 ^ 49) = 2 ^ 49 * (X / 2 ^ 49) ||| (2 ^ 48 * 1 + X % 2 ^ 49) := Nat.two_pow_add_eq_or_of_lt (by omega) _
  have key : X ||| 281474976710656 = X + 281474976710656 := by
    calc X ||| 281474976710656 = (2 ^ 49 * (X / 2 ^ 49) ||| X % 2 ^ 49) ||| 2 ^ 48 * 1 := by rw [← e1, ← e]
      _ = 2 ^ 49 * (X / 2 ^ 49) ||| (2 ^ 48 * 1 ||| X % 2 ^ 49) := by rw [Nat.or_assoc, Nat.or_comm (X % 2 ^ 49)]
      _ = 2 ^ 49 * (X / 2 ^ 49) + (2 ^ 48 * 1 + X % 2 ^ 49) := by rw [← e2, ← e3]
      _ = X + 281474976710656 := by omega
  rw [key]; rfl

/-- A head's words. -/
abbrev hF (z l g δ : Int) : Int := z + 4294967296 * l + 1099511627776 * g + 281474976710656 * δ + 11889503016258109440
theorem ret_iii {k l m : IntKind} {a b c d e f : Int} (h : a = b) (g : c = d) (i : e = f) : Ending.returned (.tuple #[.int k a, .int l c, .int m e]) = .returned (.tuple #[.int k b, .int l d, .int m f]) := by rw [h, g, i]

end Go.Proofs.Ytahkplakdbbmmaa
