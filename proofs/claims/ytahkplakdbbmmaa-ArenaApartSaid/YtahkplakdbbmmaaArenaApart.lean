/- ArenaApart: walk. -/
import Derived.Test.YtahkplakdbbmmaaArenaLaws
import Derived.Test.YtahkplakdbbmmaaArenaPlain
import Derived.Test.YtahkplakdbbmmaaArenaBits
namespace Go.Proofs.Ytahkplakdbbmmaa
set_option linter.unusedVariables false
open Go.RowKit

theorem low_byte (y : Int) (k : Nat) (hy : inU y) : bits .and .u64 (y / 2 ^ (8 * k)) 255 % 256 = y / 2 ^ (8 * k) % 256 := by
  rw [u64_and255]
  · omega
  · unfold inU at *
    have h1 : (0 : Int) ≤ y / 2 ^ (8 * k) := Int.ediv_nonneg hy.1 (Int.le_of_lt (Int.pow_pos (by decide)))
    have h2 := Int.ediv_le_self (2 ^ (8 * k) : Int) hy.1
    omega
set_option maxHeartbeats 4000000 in
set_option maxRecDepth 100000 in
theorem walkArenaApart (a b x y c d : Int) (w : World) (ha : 0 ≤ a ∧ a ≤ 255) (hb : 0 ≤ b ∧ b ≤ 255) (hx : inU x) (hy : inU y) (hc : 0 ≤ c ∧ c ≤ 255) (hd : 0 ≤ d ∧ d ≤ 255) :
    Calls Try.prog 4 #[.agg #[.int .u8 a, .int .u8 b], .agg #[.int .u64 x, .int .u64 y], .agg #[.int .u8 c, .int .u8 d]] w fun e w' => e = .returned (.bool true) ∧ Below w.heap.size w w' := by
  go_enter Try.func4, Try.ntmps4
  go_wp2_with fail; refine (shown_t _).mono ?_; rintro e w1 ⟨rfl, hb1⟩; have hz1 := hb1.size; (repeat (first | rw [World.size_alloc] at hz1 | rw [World.size_setCell] at hz1 | rw [World.size_drew] at hz1)); have zl1_w_0 : w.heap.size < w1.heap.size := (by omega); have ac1_w_0 := fun o => hb1.cell (p := ⟨w.heap.size, o, none⟩) (by first | omega | (simp; done) | (simp; omega)); have af1_w_0 := fun o => hb1.frozen (p := ⟨w.heap.size, o, none⟩) (by first | omega | (simp; done) | (simp; omega)); have zl1_w_1 : w.heap.size + 1 < w1.heap.size := (by omega); have ac1_w_1 := fun o => hb1.cell (p := ⟨w.heap.size + 1, o, none⟩) (by first | omega | (simp; done) | (simp; omega)); have af1_w_1 := fun o => hb1.frozen (p := ⟨w.heap.size + 1, o, none⟩) (by first | omega | (simp; done) | (simp; omega)); have zl1_w_2 : w.heap.size + 1 + 1 < w1.heap.size := (by omega); have ac1_w_2 := fun o => hb1.cell (p := ⟨w.heap.size + 1 + 1, o, none⟩) (by first | omega | (simp; done) | (simp; omega)); have af1_w_2 := fun o => hb1.frozen (p := ⟨w.heap.size + 1 + 1, o, none⟩) (by first | omega | (simp; done) | (simp; omega))
  go_wp2_with fail; refine (new_t 160 _ (by omega) (by omega)).mono ?_; rintro e w2 ⟨p, g, rfl, ha2, hb2, hp, hg⟩; have hz2 := hb2.size; (repeat (first | rw [World.size_alloc] at hz2 | rw [World.size_setCell] at hz2 | rw [World.size_drew] at hz2)); have zl2_w_0 : w.heap.size < w2.heap.size := (by omega); have ac2_w_0 := fun o => hb2.cell (p := ⟨w.heap.size, o, none⟩) (by first | omega | (simp; done) | (simp; omega)); have af2_w_0 := fun o => hb2.frozen (p := ⟨w.heap.size, o, none⟩) (by first | omega | (simp; done) | (simp; omega)); have zl2_w_1 : w.heap.size + 1 < w2.heap.size := (by omega); have ac2_w_1 := fun o => hb2.cell (p := ⟨w.heap.size + 1, o, none⟩) (by first | omega | (simp; done) | (simp; omega)); have af2_w_1 := fun o => hb2.frozen (p := ⟨w.heap.size + 1, o, none⟩) (by first | omega | (simp; done) | (simp; omega)); have zl2_w_2 : w.heap.size + 1 + 1 < w2.heap.size := (by omega); have ac2_w_2 := fun o => hb2.cell (p := ⟨w.heap.size + 1 + 1, o, none⟩) (by first | omega | (simp; done) | (simp; omega)); have af2_w_2 := fun o => hb2.frozen (p := ⟨w.heap.size + 1 + 1, o, none⟩) (by first | omega | (simp; done) | (simp; omega))
  have hi : 0 ≤ a % 20 ∧ a % 20 < 20 := by omega
  have hj : 0 ≤ b % 20 ∧ b % 20 < 20 := by omega
  go_wp2_with fail; refine (put_t _ _ _ _ _ _ _ ha2 (by omega) (by omega) (by omega) hx).mono ?_; rintro e w3 ⟨rfl, ha3, hb3⟩; have hz3 := hb3.size; (repeat (first | rw [World.size_alloc] at hz3 | rw [World.size_setCell] at hz3 | rw [World.size_drew] at hz3)); have zl3_w_0 : w.heap.size < w3.heap.size := (by omega); have ac3_w_0 := fun o => hb3.cell (p := ⟨w.heap.size, o, none⟩) (by first | omega | (simp; done) | (simp; omega)) (by first | omega | (simp; done) | (simp; omega)); have af3_w_0 := fun o => hb3.frozen (p := ⟨w.heap.size, o, none⟩) (by first | omega | (simp; done) | (simp; omega)) (by first | omega | (simp; done) | (simp; omega)); have zl3_w_1 : w.heap.size + 1 < w3.heap.size := (by omega); have ac3_w_1 := fun o => hb3.cell (p := ⟨w.heap.size + 1, o, none⟩) (by first | omega | (simp; done) | (simp; omega)) (by first | omega | (simp; done) | (simp; omega)); have af3_w_1 := fun o => hb3.frozen (p := ⟨w.heap.size + 1, o, none⟩) (by first | omega | (simp; done) | (simp; omega)) (by first | omega | (simp; done) | (simp; omega)); have zl3_w_2 : w.heap.size + 1 + 1 < w3.heap.size := (by omega); have ac3_w_2 := fun o => hb3.cell (p := ⟨w.heap.size + 1 + 1, o, none⟩) (by first | omega | (simp; done) | (simp; omega)) (by first | omega | (simp; done) | (simp; omega)); have af3_w_2 := fun o => hb3.frozen (p := ⟨w.heap.size + 1 + 1, o, none⟩) (by first | omega | (simp; done) | (simp; omega)) (by first | omega | (simp; done) | (simp; omega))
  obtain ⟨f3, E3⟩ : ∃ f3, Hid (f3 = putW (fun _ => 0) (8 * (a % 20)).toNat x) := ⟨_, Lib.hid rfl⟩
  rw [← E3.out] at ha3
  go_wp2_with fail; refine (put_t _ _ _ _ _ _ _ ha3 (by omega) (by omega) (by omega) hy).mono ?_; rintro e w4 ⟨rfl, ha4, hb4⟩; have hz4 := hb4.size; (repeat (first | rw [World.size_alloc] at hz4 | rw [World.size_setCell] at hz4 | rw [World.size_drew] at hz4)); have zl4_w_0 : w.heap.size < w4.heap.size := (by omega); have ac4_w_0 := fun o => hb4.cell (p := ⟨w.heap.size, o, none⟩) (by first | omega | (simp; done) | (simp; omega)) (by first | omega | (simp; done) | (simp; omega)); have af4_w_0 := fun o => hb4.frozen (p := ⟨w.heap.size, o, none⟩) (by first | omega | (simp; done) | (simp; omega)) (by first | omega | (simp; done) | (simp; omega)); have zl4_w_1 : w.heap.size + 1 < w4.heap.size := (by omega); have ac4_w_1 := fun o => hb4.cell (p := ⟨w.heap.size + 1, o, none⟩) (by first | omega | (simp; done) | (simp; omega)) (by first | omega | (simp; done) | (simp; omega)); have af4_w_1 := fun o => hb4.frozen (p := ⟨w.heap.size + 1, o, none⟩) (by first | omega | (simp; done) | (simp; omega)) (by first | omega | (simp; done) | (simp; omega)); have zl4_w_2 : w.heap.size + 1 + 1 < w4.heap.size := (by omega); have ac4_w_2 := fun o => hb4.cell (p := ⟨w.heap.size + 1 + 1, o, none⟩) (by first | omega | (simp; done) | (simp; omega)) (by first | omega | (simp; done) | (simp; omega)); have af4_w_2 := fun o => hb4.frozen (p := ⟨w.heap.size + 1 + 1, o, none⟩) (by first | omega | (simp; done) | (simp; omega)) (by first | omega | (simp; done) | (simp; omega))
  obtain ⟨f4, E4⟩ : ∃ f4, Hid (f4 = putW f3 (8 * (b % 20)).toNat y) := ⟨_, Lib.hid rfl⟩
  rw [← E4.out] at ha4
  have e6 : wordAt f4 (8 * (b % 20)).toNat = y := by rw [E4.out]; exact wordAt_put _ _ _ hy
  have e5 : a % 20 ≠ b % 20 → wordAt f4 (8 * (a % 20)).toNat = x := by
    intro h
    rw [E4.out, wordAt_other _ _ _ _ (by omega), E3.out]; exact wordAt_put _ _ _ hx
  obtain ⟨u, hu⟩ : ∃ u, wordAt f4 (8 * (a % 20)).toNat = u := ⟨_, rfl⟩
  go_wp2_with fail; refine (word_t _ _ _ _ _ _ ha4 (by omega) (by omega) (by omega)).mono ?_; rintro e w5 ⟨rfl, rfl⟩; rw [hu]
  go_wp2_with fail; refine (word_t _ _ _ _ _ _ ha4 (by omega) (by omega) (by omega)).mono ?_; rintro e w5 ⟨rfl, rfl⟩; rw [e6]
  rw [hu] at e5
  have E5 := Lib.hid e5
  clear e5 hu e6
  have E11 : Hid (∀ f5, f5 = upd f4 (8 * (b % 20) + c % 8).toNat d → a % 20 ≠ b % 20 → wordAt f5 (8 * (a % 20)).toNat = u) := by
    intro f5 h1 h2
    rw [h1, wordAt_far _ _ _ _ (by omega), E5.out h2, E4.out, wordAt_other _ _ _ _ (by omega), E3.out]; exact wordAt_put _ _ _ hx
  have E12 : Hid (∀ f5, f5 = upd f4 (8 * (b % 20) + c % 8).toNat d → bits .andNot .u64 (bits .xor .u64 (wordAt f5 (8 * (b % 20)).toNat) y) (IntKind.u64.wrap (255 * 2 ^ (8 * (c % 8)).toNat)) = 0) := by
    intro f5 h1
    have hk : (c % 8).toNat < 8 := by omega
    have hr : wordAt f5 (8 * (b % 20)).toNat = y + (d - y / 256 ^ (c % 8).toNat % 256) * 256 ^ (c % 8).toNat := by
      rw [h1, show (8 * (b % 20) + c % 8).toNat = (8 * (b % 20)).toNat + (c % 8).toNat from by omega]
      unfold wordAt
      rw [wsum_upd, if_pos hk, E4.out]
      have := wordAt_put f3 (8 * (b % 20)).toNat y hy
      unfold wordAt at this
      rw [this]
      unfold putW putK
      rw [if_pos (by omega), Nat.add_sub_cancel_left]
    obtain ⟨q1, q2, q3⟩ := differ y d (c % 8).toNat hk hy hd
    rw [hr, show (8 * (c % 8)).toNat = 8 * (c % 8).toNat from by omega]
    exact apart_bits _ _ _ hk q1 hy q2 q3
  by_cases hij : a % 20 = b % 20
  · go_wp2_with fail
    go_loop [19] (fun i => ∃ k : Nat, k ≤ 8 ∧ i = .int .i64 k) (fun i => 8 - (intOf i).toNat)
    case atStart => exact ⟨0, by omega, rfl⟩
    case round =>
      obtain ⟨k, hk, rfl⟩ := hrel
      by_cases hlt : k < 8
      · have hlt' : (decide ((k : Int) < 8)) = true := by simp; omega
        have ev : f4 (8 * (b % 20) + (k : Int)).toNat = y / 2 ^ (8 * k) % 256 := by
          rw [E4.out]; unfold putW putK
          rw [if_pos (by omega), show (8 * (b % 20) + (k : Int)).toNat - (8 * (b % 20)).toNat = k from by omega, Int.pow_mul]; rfl
        have hbe := low_byte y k hy
        go_wp2_with fail
        refine (byte_t _ _ _ _ _ _ ha4 (by omega) (by omega)).mono ?_; rintro e w7 ⟨rfl, rfl⟩; rw [ev]
        go_wp2_with fail
        go_round
        case rel => exact ⟨k + 1, by omega, by go_num⟩
        case measure => simp [intOf]; omega
      · obtain rfl : k = 8 := by omega
        go_wp2_with fail
        refine (putByte_t _ _ _ _ _ _ _ ha4 (by omega) (by omega) hd).mono ?_; rintro e w8 ⟨rfl, ha8, hb8⟩; have hz8 := hb8.size; (repeat (first | rw [World.size_alloc] at hz8 | rw [World.size_setCell] at hz8 | rw [World.size_drew] at hz8)); have zl8_w_0 : w.heap.size < w8.heap.size := (by omega); have ac8_w_0 := fun o => hb8.cell (p := ⟨w.heap.size, o, none⟩) (by first | omega | (simp; done) | (simp; omega)) (by first | omega | (simp; done) | (simp; omega)); have af8_w_0 := fun o => hb8.frozen (p := ⟨w.heap.size, o, none⟩) (by first | omega | (simp; done) | (simp; omega)) (by first | omega | (simp; done) | (simp; omega)); have zl8_w_1 : w.heap.size + 1 < w8.heap.size := (by omega); have ac8_w_1 := fun o => hb8.cell (p := ⟨w.heap.size + 1, o, none⟩) (by first | omega | (simp; done) | (simp; omega)) (by first | omega | (simp; done) | (simp; omega)); have af8_w_1 := fun o => hb8.frozen (p := ⟨w.heap.size + 1, o, none⟩) (by first | omega | (simp; done) | (simp; omega)) (by first | omega | (simp; done) | (simp; omega)); have zl8_w_2 : w.heap.size + 1 + 1 < w8.heap.size := (by omega); have ac8_w_2 := fun o => hb8.cell (p := ⟨w.heap.size + 1 + 1, o, none⟩) (by first | omega | (simp; done) | (simp; omega)) (by first | omega | (simp; done) | (simp; omega)); have af8_w_2 := fun o => hb8.frozen (p := ⟨w.heap.size + 1 + 1, o, none⟩) (by first | omega | (simp; done) | (simp; omega)) (by first | omega | (simp; done) | (simp; omega))
        obtain ⟨f5, E8⟩ : ∃ f5, Hid (f5 = upd f4 (8 * (b % 20) + c % 8).toNat d) := ⟨_, Lib.hid rfl⟩
        rw [← E8.out] at ha8
        have e9 : f5 (8 * (b % 20) + c % 8).toNat = d := by rw [E8.out]; simp [upd]
        go_wp2_with fail
        refine (byte_t _ _ _ _ _ _ ha8 (by omega) (by omega)).mono ?_; rintro e w9 ⟨rfl, rfl⟩; rw [e9]
        go_wp2_with fail
        refine (word_t _ _ _ _ _ _ ha8 (by omega) (by omega) (by omega)).mono ?_; rintro e w10 ⟨rfl, rfl⟩
        go_wp2_with fail
        refine (word_t _ _ _ _ _ _ ha8 (by omega) (by omega) (by omega)).mono ?_; rintro e w11 ⟨rfl, rfl⟩
        have e12 := E12.out f5 E8.out
        skip
        go_wp2_with fail
        go_ret
        have hA : But w2.heap.size g w2 w8 := hb3.trans ((hb4.mono hb3.size).trans (hb8.mono (by omega)))
        have hB : Below w.heap.size w2 w8 := hA.below (by omega) (by omega)
        exact ⟨rfl, by
          repeat (first | (with_reducible exact Below.refl _ _) | ((with_reducible refine Below.setCell ?_ ?_ _); rotate_left; (focus (first | omega | (simp; done) | (simp; omega)))) | ((with_reducible refine Below.alloc ?_ ?_ _); rotate_left; (focus (first | omega | (simp; done) | (simp; omega)))) | (with_reducible refine Below.drew ?_) | (with_reducible refine below_drewN' ?_ _) | ((refine Below.trans ?_ (Below.mono (by with_reducible assumption) ?_)); rotate_left; (focus (first | omega | (simp; done) | (simp; omega)))))⟩

  · have eu := E5.out hij
    subst eu
    go_wp2_with fail
    go_loop [19] (fun i => ∃ k : Nat, k ≤ 8 ∧ i = .int .i64 k) (fun i => 8 - (intOf i).toNat)
    case atStart => exact ⟨0, by omega, rfl⟩
    case round =>
      obtain ⟨k, hk, rfl⟩ := hrel
      by_cases hlt : k < 8
      · have hlt' : (decide ((k : Int) < 8)) = true := by simp; omega
        have ev : f4 (8 * (b % 20) + (k : Int)).toNat = y / 2 ^ (8 * k) % 256 := by
          rw [E4.out]; unfold putW putK
          rw [if_pos (by omega), show (8 * (b % 20) + (k : Int)).toNat - (8 * (b % 20)).toNat = k from by omega, Int.pow_mul]; rfl
        have hbe := low_byte y k hy
        go_wp2_with fail
        refine (byte_t _ _ _ _ _ _ ha4 (by omega) (by omega)).mono ?_; rintro e w7 ⟨rfl, rfl⟩; rw [ev]
        go_wp2_with fail
        go_round
        case rel => exact ⟨k + 1, by omega, by go_num⟩
        case measure => simp [intOf]; omega
      · obtain rfl : k = 8 := by omega
        go_wp2_with fail
        refine (putByte_t _ _ _ _ _ _ _ ha4 (by omega) (by omega) hd).mono ?_; rintro e w8 ⟨rfl, ha8, hb8⟩; have hz8 := hb8.size; (repeat (first | rw [World.size_alloc] at hz8 | rw [World.size_setCell] at hz8 | rw [World.size_drew] at hz8)); have zl8_w_0 : w.heap.size < w8.heap.size := (by omega); have ac8_w_0 := fun o => hb8.cell (p := ⟨w.heap.size, o, none⟩) (by first | omega | (simp; done) | (simp; omega)) (by first | omega | (simp; done) | (simp; omega)); have af8_w_0 := fun o => hb8.frozen (p := ⟨w.heap.size, o, none⟩) (by first | omega | (simp; done) | (simp; omega)) (by first | omega | (simp; done) | (simp; omega)); have zl8_w_1 : w.heap.size + 1 < w8.heap.size := (by omega); have ac8_w_1 := fun o => hb8.cell (p := ⟨w.heap.size + 1, o, none⟩) (by first | omega | (simp; done) | (simp; omega)) (by first | omega | (simp; done) | (simp; omega)); have af8_w_1 := fun o => hb8.frozen (p := ⟨w.heap.size + 1, o, none⟩) (by first | omega | (simp; done) | (simp; omega)) (by first | omega | (simp; done) | (simp; omega)); have zl8_w_2 : w.heap.size + 1 + 1 < w8.heap.size := (by omega); have ac8_w_2 := fun o => hb8.cell (p := ⟨w.heap.size + 1 + 1, o, none⟩) (by first | omega | (simp; done) | (simp; omega)) (by first | omega | (simp; done) | (simp; omega)); have af8_w_2 := fun o => hb8.frozen (p := ⟨w.heap.size + 1 + 1, o, none⟩) (by first | omega | (simp; done) | (simp; omega)) (by first | omega | (simp; done) | (simp; omega))
        obtain ⟨f5, E8⟩ : ∃ f5, Hid (f5 = upd f4 (8 * (b % 20) + c % 8).toNat d) := ⟨_, Lib.hid rfl⟩
        rw [← E8.out] at ha8
        have e9 : f5 (8 * (b % 20) + c % 8).toNat = d := by rw [E8.out]; simp [upd]
        go_wp2_with fail
        refine (byte_t _ _ _ _ _ _ ha8 (by omega) (by omega)).mono ?_; rintro e w9 ⟨rfl, rfl⟩; rw [e9]
        go_wp2_with fail
        refine (word_t _ _ _ _ _ _ ha8 (by omega) (by omega) (by omega)).mono ?_; rintro e w10 ⟨rfl, rfl⟩
        go_wp2_with fail
        refine (word_t _ _ _ _ _ _ ha8 (by omega) (by omega) (by omega)).mono ?_; rintro e w11 ⟨rfl, rfl⟩
        have e12 := E12.out f5 E8.out
        have e11 := E11.out f5 E8.out hij
        go_wp2_with fail
        go_ret
        have hA : But w2.heap.size g w2 w8 := hb3.trans ((hb4.mono hb3.size).trans (hb8.mono (by omega)))
        have hB : Below w.heap.size w2 w8 := hA.below (by omega) (by omega)
        exact ⟨rfl, by
          repeat (first | (with_reducible exact Below.refl _ _) | ((with_reducible refine Below.setCell ?_ ?_ _); rotate_left; (focus (first | omega | (simp; done) | (simp; omega)))) | ((with_reducible refine Below.alloc ?_ ?_ _); rotate_left; (focus (first | omega | (simp; done) | (simp; omega)))) | (with_reducible refine Below.drew ?_) | (with_reducible refine below_drewN' ?_ _) | ((refine Below.trans ?_ (Below.mono (by with_reducible assumption) ?_)); rotate_left; (focus (first | omega | (simp; done) | (simp; omega)))))⟩


end Go.Proofs.Ytahkplakdbbmmaa
