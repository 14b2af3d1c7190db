/- Two numbers that differ in one byte alone. -/
import Derived.Test.YtahkplakdbbmmaaBits
namespace Go.Proofs.Ytahkplakdbbmmaa
set_option linter.unusedVariables false
open Go.RowKit

theorem same_bits (r y k : Nat) (hk : k < 8) (h1 : r % 2 ^ (8 * k) = y % 2 ^ (8 * k)) (h2 : r / 2 ^ (8 * k + 8) = y / 2 ^ (8 * k + 8)) :
    (BitVec.ofNat 64 r ^^^ BitVec.ofNat 64 y) &&& ~~~ BitVec.ofNat 64 (255 * 2 ^ (8 * k)) = 0#64 := by
  apply BitVec.eq_of_getLsbD_eq
  intro i hi
  simp only [BitVec.getLsbD_and, BitVec.getLsbD_xor, BitVec.getLsbD_not, BitVec.getLsbD_ofNat, hi, decide_true, Bool.true_and, BitVec.getLsbD_zero]
  by_cases c : i < 8 * k
  · have := congrArg (fun n => Nat.testBit n i) h1
    simp only [Nat.testBit_mod_two_pow, c, decide_true, Bool.true_and] at this
    rw [this]; simp
  · by_cases d : 8 * k + 8 ≤ i
    · have := congrArg (fun n => Nat.testBit n (i - (8 * k + 8))) h2
      simp only [Nat.testBit_div_two_pow] at this
      rw [show i - (8 * k + 8) + (8 * k + 8) = i from by omega] at this
      rw [this]; simp
    · have hm : Nat.testBit (255 * 2 ^ (8 * k)) i = true := by
        rw [Nat.testBit_mul_two_pow]
        have : i - 8 * k < 8 := by omega
        rw [show (255 : Nat) = 2 ^ 8 - 1 from rfl, Nat.testBit_two_pow_sub_one]
        simp; omega
      rw [hm]; simp

theorem apart_bits (r y : Int) (k : Nat) (hk : k < 8) (hr : inU r) (hy : inU y) (h1 : r % 256 ^ k = y % 256 ^ k) (h2 : r / 256 ^ (k + 1) = y / 256 ^ (k + 1)) :
    bits .andNot .u64 (bits .xor .u64 r y) (IntKind.u64.wrap (255 * 2 ^ (8 * k))) = 0 := by
  unfold inU at *
  obtain ⟨n, rfl⟩ := Int.eq_ofNat_of_zero_le hr.1
  obtain ⟨m, rfl⟩ := Int.eq_ofNat_of_zero_le hy.1
  have e1 : n % 2 ^ (8 * k) = m % 2 ^ (8 * k) := by
    rw [Nat.pow_mul, show (2 : Nat) ^ 8 = 256 from rfl]
    apply Int.ofNat.inj
    show ((n % 256 ^ k : Nat) : Int) = ((m % 256 ^ k : Nat) : Int)
    rw [Int.natCast_emod, Int.natCast_emod, Int.natCast_pow]; exact h1
  have e2 : n / 2 ^ (8 * k + 8) = m / 2 ^ (8 * k + 8) := by
    rw [show 8 * k + 8 = 8 * (k + 1) from by omega, Nat.pow_mul, show (2 : Nat) ^ 8 = 256 from rfl]
    apply Int.ofNat.inj
    show ((n / 256 ^ (k + 1) : Nat) : Int) = ((m / 256 ^ (k + 1) : Nat) : Int)
    rw [Int.natCast_ediv, Int.natCast_ediv, Int.natCast_pow]; exact h2
  have e := same_bits n m k hk e1 e2
  have hw : IntKind.u64.wrap (255 * 2 ^ (8 * k)) = ((255 * 2 ^ (8 * k) : Nat) : Int) := by
    rcases (by omega : k = 0 ∨ k = 1 ∨ k = 2 ∨ k = 3 ∨ k = 4 ∨ k = 5 ∨ k = 6 ∨ k = 7) with rfl | rfl | rfl | rfl | rfl | rfl | rfl | rfl <;> rfl
  rw [hw]
  have hx : bits .xor .u64 (n : Int) (m : Int) = ((BitVec.ofNat 64 n ^^^ BitVec.ofNat 64 m).toNat : Int) := by
    show IntKind.u64.wrap ((BitVec.ofInt 64 n ^^^ BitVec.ofInt 64 m).toNat : Nat) = _
    rw [BitVec.ofInt_natCast, BitVec.ofInt_natCast]
    exact wraps_u64 _ (by omega) (by have := (BitVec.ofNat 64 n ^^^ BitVec.ofNat 64 m).isLt; omega)
  rw [hx]
  show IntKind.u64.wrap ((BitVec.ofInt 64 _ &&& ~~~ BitVec.ofInt 64 _).toNat : Nat) = _
  rw [BitVec.ofInt_natCast, BitVec.ofInt_natCast, BitVec.ofNat_toNat, BitVec.setWidth_eq, e]
  rfl

theorem differ (y d : Int) (k : Nat) (hk : k < 8) (hy : inU y) (hd : 0 ≤ d ∧ d ≤ 255) :
    inU (y + (d - y / 256 ^ k % 256) * 256 ^ k) ∧ (y + (d - y / 256 ^ k % 256) * 256 ^ k) % 256 ^ k = y % 256 ^ k ∧ (y + (d - y / 256 ^ k % 256) * 256 ^ k) / 256 ^ (k + 1) = y / 256 ^ (k + 1) := by
  unfold inU at *
  rcases (by omega : k = 0 ∨ k = 1 ∨ k = 2 ∨ k = 3 ∨ k = 4 ∨ k = 5 ∨ k = 6 ∨ k = 7) with rfl | rfl | rfl | rfl | rfl | rfl | rfl | rfl
  all_goals (simp only [Nat.reduceAdd, Int.reducePow]; omega)

end Go.Proofs.Ytahkplakdbbmmaa
