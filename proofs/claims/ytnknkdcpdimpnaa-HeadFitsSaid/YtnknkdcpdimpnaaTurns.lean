/- With one bit turned: what becomes of a handle's number. Plain numbers. -/
import Derived.Test.YtnknkdcpdimpnaaBits
namespace Go.Proofs.Ytnknkdcpdimpnaa
set_option linter.unusedVariables false
open Go.RowKit

theorem xor_low (i X m k : Nat) (hm : m < 2 ^ i) (hk : k < i) : (2 ^ i * X + m) ^^^ 2 ^ k = 2 ^ i * X + (m ^^^ 2 ^ k) := by
  have h2 : 2 ^ k < 2 ^ i := Nat.pow_lt_pow_right (by decide) hk
  have hx : m ^^^ 2 ^ k < 2 ^ i := Nat.xor_lt_two_pow hm h2
  apply Nat.eq_of_testBit_eq
  intro j
  rw [Nat.testBit_xor, Nat.testBit_two_pow_mul_add X hm, Nat.testBit_two_pow_mul_add X hx]
  split
  · rw [Nat.testBit_xor]
  · rw [Nat.testBit_two_pow]
    have : decide (k = j) = false := by simp; omega
    rw [this]; simp

theorem xor_high (i X m k : Nat) (hm : m < 2 ^ i) (hk : i ≤ k) : (2 ^ i * X + m) ^^^ 2 ^ k = 2 ^ i * (X ^^^ 2 ^ (k - i)) + m := by
  apply Nat.eq_of_testBit_eq
  intro j
  rw [Nat.testBit_xor, Nat.testBit_two_pow_mul_add X hm, Nat.testBit_two_pow_mul_add _ hm]
  split
  · rw [Nat.testBit_two_pow]
    have : decide (k = j) = false := by simp; omega
    rw [this]; simp
  · rw [Nat.testBit_xor, Nat.testBit_two_pow, Nat.testBit_two_pow]
    congr 1
    rw [decide_eq_decide]; omega

theorem xor_ne (x k : Nat) : x ^^^ 2 ^ k ≠ x := by
  intro h
  have := congrArg (fun n => n.testBit k) h
  simp [Nat.testBit_xor, Nat.testBit_two_pow_self] at this
theorem xor_zero (x k : Nat) : x ^^^ 2 ^ k = 0 ↔ x = 2 ^ k := by
  constructor
  · intro h
    have e : x ^^^ 2 ^ k ^^^ 2 ^ k = x := by rw [Nat.xor_assoc, Nat.xor_self, Nat.xor_zero]
    rw [h, Nat.zero_xor] at e
    exact e.symm
  · intro h; rw [h, Nat.xor_self]
theorem xor_ge (n N x k : Nat) (hx : x < 2 ^ n) (hk : n ≤ k) (hN : k < N) : 2 ^ n ≤ x ^^^ 2 ^ k ∧ x ^^^ 2 ^ k < 2 ^ N := by
  have h1 : 2 ^ n ≤ 2 ^ k := Nat.pow_le_pow_right (by decide) hk
  have h2 : 2 ^ k < 2 ^ N := Nat.pow_lt_pow_right (by decide) hN
  refine ⟨?_, Nat.xor_lt_two_pow (by omega) h2⟩
  refine Nat.le_trans h1 (Nat.ge_two_pow_of_testBit ?_)
  rw [Nat.testBit_xor, Nat.testBit_two_pow_self, Nat.testBit_lt_two_pow (by omega)]; rfl

abbrev handle (s e m : Int) : Int := m + 16777216 * s + 4294967296 * e
theorem turns_nat (s e m k : Nat) (hs : s < 8) (he : e < 16777216) (hm1 : 1 ≤ m) (hm : m < 8192) (hk : k < 64) :
    let v := (m + 16777216 * s + 4294967296 * e) ^^^ 2 ^ k
    (k < 13 ∧ ∃ m', v = m' + 16777216 * s + 4294967296 * e ∧ m' < 8192 ∧ m' ≠ m ∧ (m' = 0 ↔ m = 2 ^ k))
    ∨ (13 ≤ k ∧ k < 24 ∧ 8192 ≤ v % 16777216)
    ∨ (24 ≤ k ∧ k < 27 ∧ ∃ s', v = m + 16777216 * s' + 4294967296 * e ∧ s' < 8 ∧ s' ≠ s)
    ∨ (27 ≤ k ∧ k < 32 ∧ 8 ≤ v / 16777216 % 256)
    ∨ (32 ≤ k ∧ k < 56 ∧ ∃ e', v = m + 16777216 * s + 4294967296 * e' ∧ e' < 16777216 ∧ e' ≠ e)
    ∨ (56 ≤ k ∧ 16777216 ≤ v / 4294967296) := by
  intro v
  have e0 : m + 16777216 * s + 4294967296 * e = 2 ^ 24 * (2 ^ 8 * e + s) + m := by omega
  have hv : v = (2 ^ 24 * (2 ^ 8 * e + s) + m) ^^^ 2 ^ k := by rw [← e0]
  by_cases h1 : k < 24
  · rw [xor_low 24 _ m k (by omega) h1] at hv
    by_cases h2 : k < 13
    · refine .inl ⟨h2, m ^^^ 2 ^ k, by omega, Nat.xor_lt_two_pow (n := 13) hm (Nat.pow_lt_pow_right (by decide) h2), xor_ne _ _, xor_zero _ _⟩
    · have := xor_ge 13 24 m k hm (by omega) h1
      exact .inr (.inl ⟨by omega, h1, by omega⟩)
  · rw [xor_high 24 _ m k (by omega) (by omega)] at hv
    by_cases h3 : k < 32
    · rw [xor_low 8 e s (k - 24) (by omega) (by omega)] at hv
      by_cases h4 : k < 27
      · have hx : s ^^^ 2 ^ (k - 24) < 2 ^ 3 := Nat.xor_lt_two_pow hs (Nat.pow_lt_pow_right (by decide) (by omega))
        exact .inr (.inr (.inl ⟨by omega, h4, _, by omega, by omega, xor_ne s (k - 24)⟩))
      · have := xor_ge 3 8 s (k - 24) hs (by omega) (by omega)
        exact .inr (.inr (.inr (.inl ⟨by omega, h3, by omega⟩)))
    · rw [xor_high 8 e s (k - 24) (by omega) (by omega)] at hv
      have e5 : k - 24 - 8 = k - 32 := by omega
      rw [e5] at hv
      by_cases h5 : k < 56
      · have hx : e ^^^ 2 ^ (k - 32) < 2 ^ 24 := Nat.xor_lt_two_pow he (Nat.pow_lt_pow_right (by decide) (by omega))
        exact .inr (.inr (.inr (.inr (.inl ⟨by omega, h5, _, by omega, by omega, xor_ne e (k - 32)⟩))))
      · have := xor_ge 24 32 e (k - 32) he (by omega) (by omega)
        exact .inr (.inr (.inr (.inr (.inr ⟨by omega, by omega⟩))))

/-- 'h ^ 1<<k' as the walk writes it. -/
theorem xor_u64 (h k : Int) (hh : inU h) (hk : 0 ≤ k ∧ k ≤ 63) :
    bits .xor .u64 h (IntKind.u64.wrap (2 ^ k.toNat)) = ((h.toNat ^^^ 2 ^ k.toNat : Nat) : Int) ∧ IntKind.u64.wrap (2 ^ k.toNat) = ((2 ^ k.toNat : Nat) : Int) ∧ (2 : Nat) ^ k.toNat < 18446744073709551616 ∧ h.toNat ^^^ 2 ^ k.toNat < 18446744073709551616 := by
  have h2 : (2 : Nat) ^ k.toNat < 2 ^ 64 := Nat.pow_lt_pow_right (by decide) (by omega)
  have e : (2 : Int) ^ k.toNat = ((2 ^ k.toNat : Nat) : Int) := by simp
  rw [e]
  obtain ⟨P, hP⟩ : ∃ P : Nat, P = 2 ^ k.toNat := ⟨_, rfl⟩
  rw [← hP] at h2 ⊢
  clear e hP
  have hw : IntKind.u64.wrap (P : Int) = (P : Int) := wraps_u64 _ (by omega) (by omega)
  refine ⟨?_, hw, h2, Nat.xor_lt_two_pow (n := 64) (by omega) h2⟩
  rw [hw, u64_xor h _ hh.1 (by omega) (by omega) (by omega), Int.toNat_natCast]

theorem turns (s e m k : Int) (hs : 0 ≤ s ∧ s ≤ 7) (he : 0 ≤ e ∧ e ≤ 16777215) (hm : 1 ≤ m ∧ m ≤ 8191) (hk : 0 ≤ k ∧ k ≤ 63) :
    ∃ v p : Int, bits .xor .u64 (m + 16777216 * s + 4294967296 * e) (IntKind.u64.wrap (2 ^ k.toNat)) = v ∧ IntKind.u64.wrap (2 ^ k.toNat) = p ∧ inU v ∧
    ((k < 13 ∧ ∃ m' : Int, v = m' + 16777216 * s + 4294967296 * e ∧ (0 ≤ m' ∧ m' ≤ 8191) ∧ (m' < m ∨ m < m') ∧ (m' = 0 ↔ m = p))
    ∨ (13 ≤ k ∧ k < 24 ∧ 8192 ≤ v % 16777216)
    ∨ (24 ≤ k ∧ k < 27 ∧ ∃ s' : Int, v = m + 16777216 * s' + 4294967296 * e ∧ (0 ≤ s' ∧ s' ≤ 7) ∧ (s' < s ∨ s < s'))
    ∨ (27 ≤ k ∧ k < 32 ∧ 8 ≤ v / 16777216 % 256)
    ∨ (32 ≤ k ∧ k < 56 ∧ ∃ e' : Int, v = m + 16777216 * s + 4294967296 * e' ∧ (0 ≤ e' ∧ e' ≤ 16777215) ∧ (e' < e ∨ e < e'))
    ∨ (56 ≤ k ∧ 16777216 ≤ v / 4294967296)) := by
  obtain ⟨h1, h2, h3, h4⟩ := xor_u64 (m + 16777216 * s + 4294967296 * e) k (by omega) hk
  refine ⟨_, _, h1, h2, by omega, ?_⟩
  have ht : (m + 16777216 * s + 4294967296 * e).toNat = m.toNat + 16777216 * s.toNat + 4294967296 * e.toNat := by omega
  rw [ht]
  have := turns_nat s.toNat e.toNat m.toNat k.toNat (by omega) (by omega) (by omega) (by omega) (by omega)
  rcases this with ⟨a, m', b, c, d, f⟩ | ⟨a, b, c⟩ | ⟨a, b, s', c, d, f⟩ | ⟨a, b, c⟩ | ⟨a, b, e', c, d, f⟩ | ⟨a, b⟩
  · exact .inl ⟨by omega, m', by rw [b]; omega, by omega, by omega, by omega⟩
  · exact .inr (.inl ⟨by omega, by omega, by omega⟩)
  · exact .inr (.inr (.inl ⟨by omega, by omega, s', by rw [c]; omega, by omega, by omega⟩))
  · exact .inr (.inr (.inr (.inl ⟨by omega, by omega, by omega⟩)))
  · exact .inr (.inr (.inr (.inr (.inl ⟨by omega, by omega, e', by rw [c]; omega, by omega, by omega⟩))))
  · exact .inr (.inr (.inr (.inr (.inr ⟨by omega, by omega⟩))))

end Go.Proofs.Ytnknkdcpdimpnaa
