/- Bytes of an arena of words. -/
import Derived.Test.YtahkplakdbbmmaaArenaW
namespace Go.Proofs.Ytahkplakdbbmmaa
set_option linter.unusedVariables false
set_option linter.unusedSimpArgs false
open Go.RowKit

/-- Byte j of a word. -/
def byteOf (x : Int) (j : Nat) : Int := x / 256 ^ j % 256
theorem byteOf_bd (x : Int) (j : Nat) : 0 ≤ byteOf x j ∧ byteOf x j ≤ 255 := by unfold byteOf; omega
theorem wordAt_byte (f : Nat → Int) (hf : ∀ i, 0 ≤ f i ∧ f i ≤ 255) (a j : Nat) (hj : j < 8) : byteOf (wordAt f a) j = f (a + j) := by
  have h0 := hf (a + 0)
  have h1 := hf (a + 1)
  have h2 := hf (a + 2)
  have h3 := hf (a + 3)
  have h4 := hf (a + 4)
  have h5 := hf (a + 5)
  have h6 := hf (a + 6)
  have h7 := hf (a + 7)
  unfold byteOf
  rcases (by omega : j = 0 ∨ j = 1 ∨ j = 2 ∨ j = 3 ∨ j = 4 ∨ j = 5 ∨ j = 6 ∨ j = 7) with rfl | rfl | rfl | rfl | rfl | rfl | rfl | rfl
  all_goals
    simp only [wordAt, wsum, Int.reducePow]
    omega
/-- A word with byte j changed. -/
def withByte (x : Int) (j : Nat) (b : Int) : Int := x + (b - byteOf x j) * 256 ^ j

theorem wbyte_f (w : World) (p g n : Nat) (F : Nat → Int) (at' : Int) (h : isW w p g n F) (hn : at' < 0 ∨ 8 * n ≤ at') :
    Calls Try.prog 17 #[.pointer (some ⟨p, 0, none⟩), .int .i64 at'] w fun e w' => e = .returned (.tuple #[.int .u8 0, .int .i64 1]) ∧ w = w' := by
  obtain ⟨f, ha, hf⟩ := h
  exact byte_f w p g _ f at' ha (by omega)
theorem wbyte_t (w : World) (p g n : Nat) (F : Nat → Int) (at' : Int) (k j : Nat) (h : isW w p g n F) (e : at' = 8 * k + j) (hj : j < 8) (hk : k < n) :
    Calls Try.prog 17 #[.pointer (some ⟨p, 0, none⟩), .int .i64 at'] w fun e w' => e = .returned (.tuple #[.int .u8 (byteOf (F k) j), .int .i64 0]) ∧ w = w' := by
  obtain ⟨f, ha, hf⟩ := h
  refine (byte_t w p g _ f at' ha (by omega) (by omega)).mono fun e w' hh => ?_
  rw [← hf k hk, wordAt_byte f ha.fits _ _ hj, ← show at'.toNat = 8 * k + j from by omega]
  exact hh
theorem wputByte_f (w : World) (p g n : Nat) (F : Nat → Int) (at' b : Int) (h : isW w p g n F) (hn : at' < 0 ∨ 8 * n ≤ at') :
    Calls Try.prog 20 #[.pointer (some ⟨p, 0, none⟩), .int .i64 at', .int .u8 b] w fun e w' => e = .returned (.int .i64 1) ∧ w = w' := by
  obtain ⟨f, ha, hf⟩ := h
  exact putByte_f w p g _ f at' b ha (by omega)
theorem wputByte_t (w : World) (p g n : Nat) (F : Nat → Int) (at' b : Int) (k j : Nat) (h : isW w p g n F) (e : at' = 8 * k + j) (hj : j < 8) (hk : k < n) (hb : 0 ≤ b ∧ b ≤ 255) :
    Calls Try.prog 20 #[.pointer (some ⟨p, 0, none⟩), .int .i64 at', .int .u8 b] w fun e w' => e = .returned (.int .i64 0) ∧ isW w' p g n (upd F k (withByte (F k) j b)) ∧ But w.heap.size g w w' := by
  obtain ⟨f, ha, hf⟩ := h
  refine (putByte_t w p g _ f at' b ha (by omega) (by omega) hb).mono fun e w' hh => ?_
  obtain ⟨he, ha', hbt⟩ := hh
  rw [show at'.toNat = 8 * k + j from by omega] at ha'
  refine ⟨he, ⟨_, ha', fun i hi => ?_⟩, hbt⟩
  unfold upd
  by_cases c : i = k
  · subst c
    rw [if_pos rfl]
    show wordAt (upd f (8 * i + j) b) (8 * i) = _
    unfold wordAt withByte
    rw [wsum_upd, if_pos hj, ← hf i hi, wordAt_byte f ha.fits _ _ hj]
    rfl
  · rw [if_neg c, ← hf i hi]
    exact wordAt_far f (8 * i) (8 * k + j) b (by omega)
theorem withByte_bd (x : Int) (j : Nat) (b : Int) (hx : inU x) (hj : j < 8) (hb : 0 ≤ b ∧ b ≤ 255) : inU (withByte x j b) ∧ 0 ≤ byteOf x j * 256 ^ j ∧ byteOf x j * 256 ^ j ≤ x ∧ 0 ≤ b * 256 ^ j ∧ b * 256 ^ j ≤ 18374686479671623680 ∧ withByte x j b = x - byteOf x j * 256 ^ j + b * 256 ^ j := by
  unfold withByte byteOf inU at *
  rcases (by omega : j = 0 ∨ j = 1 ∨ j = 2 ∨ j = 3 ∨ j = 4 ∨ j = 5 ∨ j = 6 ∨ j = 7) with rfl | rfl | rfl | rfl | rfl | rfl | rfl | rfl
  all_goals
    simp only [Int.reducePow]
    omega
end Go.Proofs.Ytahkplakdbbmmaa
