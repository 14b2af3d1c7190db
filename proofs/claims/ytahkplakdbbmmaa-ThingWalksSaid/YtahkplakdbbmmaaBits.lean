/- Bits of numbers of 64 bits, as sums, remainders and quotients; small equations on what a call returns. Conditions: those of each lemma. -/
import Derived.WalkKit
namespace Go.Proofs.Ytahkplakdbbmmaa
set_option linter.unusedVariables false
open Go.RowKit

abbrev inR (n : Int) : Prop := -9223372036854775808 ≤ n ∧ n ≤ 9223372036854775807
abbrev inU (n : Int) : Prop := 0 ≤ n ∧ n ≤ 18446744073709551615

theorem ret_b {a b : Bool} (h : a = b) : Ending.returned (.bool a) = .returned (.bool b) := by rw [h]
theorem ret_i {k : IntKind} {a b : Int} (h : a = b) : Ending.returned (.int k a) = .returned (.int k b) := by rw [h]
theorem ret_ii {k l : IntKind} {a b c d : Int} (h : a = b) (g : c = d) : Ending.returned (.tuple #[.int k a, .int l c]) = .returned (.tuple #[.int k b, .int l d]) := by rw [h, g]

theorem wraps_u64 (n : Int) (h₀ : 0 ≤ n) (h₁ : n < 2 ^ 64) : IntKind.u64.wrap n = n := by rw [IntKind.wrap_u64]; omega
theorem wraps_i64 (n : Int) (h₀ : 0 ≤ n) (h₁ : n < 2 ^ 63) : IntKind.i64.wrap n = n := by rw [IntKind.wrap_i64]; omega

/-- 'n & (2^k - 1)', n any int. -/
theorem i64_mask (k : Nat) (hk : k < 63) (n : Int) : bits .and .i64 n ((2 ^ k - 1 : Nat) : Int) = n % ((2 ^ k : Nat) : Int) := by
  have hp : 2 ^ k ≤ 2 ^ 62 := Nat.pow_le_pow_right (by decide) (by omega)
  have hpos : 0 < 2 ^ k := Nat.two_pow_pos k
  have hm : (BitVec.ofInt 64 ((2 ^ k - 1 : Nat) : Int)).toNat = 2 ^ k - 1 := by
    rw [BitVec.ofInt_natCast, BitVec.toNat_ofNat]; exact Nat.mod_eq_of_lt (by omega)
  have key : (BitVec.ofInt 64 n &&& BitVec.ofInt 64 ((2 ^ k - 1 : Nat) : Int)).toNat = (n % ((2 ^ 64 : Nat) : Int)).toNat % 2 ^ k := by
    rw [BitVec.toNat_and, BitVec.toNat_ofInt, hm, Nat.and_two_pow_sub_one_eq_mod]
  show IntKind.i64.wrap ((BitVec.ofInt 64 n &&& BitVec.ofInt 64 ((2 ^ k - 1 : Nat) : Int)).toNat : Nat) = _
  rw [key]
  have hd : 2 ^ 64 = 2 ^ k * 2 ^ (64 - k) := by rw [← Nat.pow_add]; congr 1; omega
  have e : (((n % ((2 ^ 64 : Nat) : Int)).toNat % 2 ^ k : Nat) : Int) = n % ((2 ^ k : Nat) : Int) := by
    rw [Int.natCast_emod, Int.toNat_of_nonneg (Int.emod_nonneg _ (by decide))]
    exact Int.emod_emod_of_dvd n (by rw [hd]; exact Int.natCast_dvd_natCast.2 (Nat.dvd_mul_right _ _))
  rw [e, wraps_i64]
  · exact Int.emod_nonneg _ (by omega)
  · have := Int.emod_lt_of_pos n (b := ((2 ^ k : Nat) : Int)) (by omega)
    omega
theorem i64_and3 (n : Int) : bits .and .i64 n 3 = n % 4 := i64_mask 2 (by decide) n
theorem i64_and7 (n : Int) : bits .and .i64 n 7 = n % 8 := i64_mask 3 (by decide) n
theorem i64_and63 (n : Int) : bits .and .i64 n 63 = n % 64 := i64_mask 6 (by decide) n
theorem i64_and127' (n : Int) : bits .and .i64 n 127 = n % 128 := i64_mask 7 (by decide) n
theorem i64_and8191 (n : Int) : bits .and .i64 n 8191 = n % 8192 := i64_mask 13 (by decide) n
theorem i64_andEpoch (n : Int) : bits .and .i64 n 16777215 = n % 16777216 := i64_mask 24 (by decide) n

theorem i64_andNot7 (n : Int) (h0 : 0 ≤ n) (h1 : n ≤ 9223372036854775807) : bits .andNot .i64 n 7 = 8 * (n / 8) := by
  obtain ⟨N, rfl⟩ := Int.eq_ofNat_of_zero_le h0
  have h7 : (BitVec.ofInt 64 7).toNat = 7 := by decide
  have hN : (BitVec.ofInt 64 (N : Int)).toNat = N := ofInt_u64 N (by omega)
  show IntKind.i64.wrap ((BitVec.ofInt 64 (N : Int) &&& ~~~BitVec.ofInt 64 7).toNat : Int) = _
  rw [BitVec.toNat_and, BitVec.toNat_not, hN, h7]
  have e : N &&& (2 ^ 64 - 1 - 7) = N % 18446744073709551616 / 8 * 8 := nat_hi64_3 N
  rw [e, IntKind.wrap_i64]
  omega

/-- 'x & (2^i - 1)' of a word. -/
theorem u64_mask (i : Nat) (hi : i ≤ 64) (x : Int) (h : inU x) : bits .and .u64 x (2 ^ i - 1) = x % 2 ^ i :=
  bits_mask .u64 64 (by decide) wraps_u64 i hi x h.1 (by have := h.2; omega)
theorem u64_and255 (x : Int) (h : inU x) : bits .and .u64 x 255 = x % 256 := u64_mask 8 (by decide) x h
theorem u64_andAt (x : Int) (h : inU x) : bits .and .u64 x 16777215 = x % 16777216 := u64_mask 24 (by decide) x h
theorem u64_andSize (x : Int) (h : inU x) : bits .and .u64 x 4294967295 = x % 4294967296 := u64_mask 32 (by decide) x h
theorem u64_and62 (x : Int) (h : inU x) : bits .and .u64 x 4611686018427387903 = x % 4611686018427387904 := u64_mask 62 (by decide) x h
theorem u64_and63b (x : Int) (h : inU x) : bits .and .u64 x 9223372036854775807 = x % 9223372036854775808 := u64_mask 63 (by decide) x h
theorem u64_and60 (x : Int) (h : inU x) : bits .and .u64 x 1152921504606846975 = x % 1152921504606846976 := u64_mask 60 (by decide) x h

/-- 'x | y' of words whose bits do not meet. -/
theorem u64_join (i : Nat) (x y : Int) (hx₀ : 0 ≤ x) (hx : x % 2 ^ i = 0) (hx₁ : x < 2 ^ 64) (hy₀ : 0 ≤ y) (hy : y < 2 ^ i) (hy₁ : y < 2 ^ 64) : bits .or .u64 x y = x + y :=
  bits_join .u64 64 (by decide) wraps_u64 i x y hx₀ hx hx₁ hy₀ hy hy₁
theorem u64_join' (i : Nat) (x y : Int) (hx₀ : 0 ≤ x) (hx : x % 2 ^ i = 0) (hx₁ : x < 2 ^ 64) (hy₀ : 0 ≤ y) (hy : y < 2 ^ i) (hy₁ : y < 2 ^ 64) : bits .or .u64 y x = y + x := by
  have hc : bits .or .u64 y x = bits .or .u64 x y := by simp only [bits, BitVec.or_comm]
  rw [hc, u64_join i x y hx₀ hx hx₁ hy₀ hy hy₁]; omega

end Go.Proofs.Ytahkplakdbbmmaa
