/- ArenaBytes: walk. -/
import Derived.Test.YtahkplakdbbmmaaArenaLaws
import Derived.Test.YtahkplakdbbmmaaSliceArg
namespace Go.Proofs.Ytahkplakdbbmmaa
set_option linter.unusedVariables false
set_option linter.unusedSimpArgs false
open Go.RowKit

/-- The number that m bytes are, the highest first: those at a + 7, a + 6, .. -/
def hsum (f : Nat → Int) (a : Nat) : Nat → Int
  | 0 => 0
  | m + 1 => hsum f a m * 256 + f (a + 7 - m)
theorem hsum_bd (f : Nat → Int) (hf : ∀ i, 0 ≤ f i ∧ f i ≤ 255) (a m : Nat) : 0 ≤ hsum f a m ∧ hsum f a m < 256 ^ m := by
  induction m with
  | zero => simp [hsum]
  | succ k ih =>
    have h := hf (a + 7 - k)
    rw [hsum, Int.pow_succ]
    omega
theorem hsum_bd7 (f : Nat → Int) (hf : ∀ i, 0 ≤ f i ∧ f i ≤ 255) (a m : Nat) (hm : m < 8) : 0 ≤ hsum f a m ∧ hsum f a m ≤ 72057594037927935 := by
  have h := hsum_bd f hf a m
  have : (256 : Int) ^ m ≤ 72057594037927936 := by
    rcases (by omega : m = 0 ∨ m = 1 ∨ m = 2 ∨ m = 3 ∨ m = 4 ∨ m = 5 ∨ m = 6 ∨ m = 7) with rfl | rfl | rfl | rfl | rfl | rfl | rfl | rfl <;> decide
  omega
theorem hsum_all (f g : Nat → Int) (a : Nat) (h : ∀ i, i < 8 → f (a + i) = g (a + i)) : hsum f a 8 = wordAt g a := by
  have h0 := h 0 (by omega)
  have h1 := h 1 (by omega)
  have h2 := h 2 (by omega)
  have h3 := h 3 (by omega)
  have h4 := h 4 (by omega)
  have h5 := h 5 (by omega)
  have h6 := h 6 (by omega)
  have h7 := h 7 (by omega)
  simp only [wordAt, wsum, hsum, Nat.add_zero, show a + 7 - 1 = a + 6 from by omega, show a + 7 - 2 = a + 5 from by omega, show a + 7 - 3 = a + 4 from by omega, show a + 7 - 4 = a + 3 from by omega, show a + 7 - 5 = a + 2 from by omega, show a + 7 - 6 = a + 1 from by omega, show a + 7 - 7 = a from by omega, show a + 7 - 0 = a + 7 from by omega] at *
  rw [h0, h1, h2, h3, h4, h5, h6, h7]
  omega

set_option maxHeartbeats 8000000 in
set_option maxRecDepth 100000 in
theorem walkArenaBytes (A : Option Addr) (n c : Nat) (F : Nat → Int) (a : Int) (w : World) (hn : n ≤ maxLen) (R : rd w w.heap.size A n 1 (ints1 .u8 F)) (hF : ∀ i, 0 ≤ F i ∧ F i ≤ 255) (ha : -9223372036854775808 ≤ a ∧ a ≤ 9223372036854775807) :
    Calls Try.prog 6 #[.slice A n c, .int .i64 a] w fun e w' => e = .returned (.bool true) ∧ Below w.heap.size w w' := by
  unfold maxLen at hn
  obtain ⟨D, HD⟩ : ∃ D : Nat → Int, Hid (∀ j, D j = if j < n then F j else 0) := ⟨_, Lib.hid fun j => rfl⟩
  have hD : Hid (∀ i, 0 ≤ D i ∧ D i ≤ 255) := Lib.hid (by intro i; rw [HD.out]; have := hF i; split <;> omega)
  go_enter Try.func6, Try.ntmps6
  go_wp2_with fail
  refine (shown_t _).mono ?_
  rintro e w1 ⟨rfl, hb1⟩
  have hz1 := hb1.size
  have R1 := R.below hb1 (Nat.le_refl _)
  go_wp2_with fail
  refine (new_t 160 _ (by omega) (by omega)).mono ?_
  rintro e w2 ⟨p, g, rfl, ha2, hb2, hp, hg⟩
  have hz2 := hb2.size
  have R2 := R1.below hb2 (by omega)
  go_wp2_with fail
  go_loopw [8] (fun i wr => ∃ k : Nat, k ≤ n ∧ k ≤ 160 ∧ i = .int .i64 k ∧ But w2.heap.size g w2 wr ∧ ∃ f, isArena wr p g 160 f ∧ Hid (∀ j, f j = if j < k then F j else 0)) (fun i _ => 160 - (intOf i).toNat)
  case atStart => exact ⟨0, by omega, by omega, rfl, But.refl _ _ _, _, ha2, Lib.hid fun j => by rw [if_neg (by omega)]⟩
  case round =>
    obtain ⟨k, hk1, hk2, rfl, hbr, f, haf, Hf⟩ := hrel
    have hzr := hbr.size
    have Rr := R2.but hbr (by omega) (by omega)
    by_cases c1 : k < n
    · by_cases c2 : k < 160
      · obtain ⟨b, off, rfl, hbb, hc⟩ := Rr.int_at c1
        obtain ⟨x, X⟩ : ∃ x, Hid (F k = x) := ⟨_, Lib.hid rfl⟩
        have hx := hF k
        rw [X.out] at hc hx
        go_wp2_with fail
        refine (putByte_t _ _ _ _ _ _ _ haf (by omega) (by omega) hx).mono ?_
        rintro e w3 ⟨rfl, ha3, hb3⟩
        go_wp2_with fail
        go_roundw
        case rel =>
          refine ⟨k + 1, by omega, by omega, by go_num, hbr.trans (hb3.mono hbr.size), _, ha3, Lib.hid fun j => ?_⟩
          unfold upd
          rw [Hf.out]
          by_cases e1 : j = k
          · subst e1; rw [if_pos (by omega), if_pos (by omega), X.out]
          · rw [if_neg (by omega)]
            by_cases e2 : j < k
            · rw [if_pos e2, if_pos (by omega)]
            · rw [if_neg e2, if_neg (by omega)]
        case measure => simp [intOf]; omega
      · obtain rfl : k = 160 := by omega
        have HF : Hid (∀ j, j < 160 → D j = f j) := Lib.hid fun j hj => by rw [HD.out, Hf.out, if_pos (by omega), if_pos hj]
        go_wp2_with fail
        go_loop [9] (fun i => ∃ j : Nat, j ≤ 20 ∧ i = .int .i64 j) (fun i => 20 - (intOf i).toNat)
        case atStart => exact ⟨0, by omega, rfl⟩
        case round =>
          obtain ⟨j, hj, rfl⟩ := hrel
          by_cases hlt : j < 20
          · obtain ⟨V, hV⟩ : ∃ V, Hid (wordAt f (8 * j) = V) := ⟨_, Lib.hid rfl⟩
            have HV : Hid (hsum D (8 * j) 8 = V) := Lib.hid (by rw [hsum_all D f _ fun i hi => HF.out _ (by omega)]; exact hV.out)
            go_wp2_with fail
            refine (word_t _ _ _ _ _ _ haf (by omega) (by omega) (by omega)).mono ?_; rintro e w' ⟨rfl, rfl⟩
            rw [show (8 * (j : Int)).toNat = 8 * j from by omega, hV.out]
            go_wp2_with fail
            go_loop [12, 13] (fun x k => ∃ m : Nat, m ≤ 8 ∧ k = .int .i64 (7 - m) ∧ x = .int .u64 (hsum D (8 * j) m)) (fun _ k => (1 + intOf k).toNat)
            case atStart => exact ⟨0, by omega, rfl, rfl⟩
            case round =>
              obtain ⟨m, hm, rfl, rfl⟩ := hrel
              by_cases hlm : m < 8
              · have hb := hsum_bd7 D hD.out (8 * j) m hlm
                have hs : Hid (hsum D (8 * j) (m + 1) = hsum D (8 * j) m * 256 + D (8 * j + 7 - m)) := Lib.hid rfl
                obtain ⟨h, Hh⟩ : ∃ h, Hid (hsum D (8 * j) m = h) := ⟨_, Lib.hid rfl⟩
                rw [Hh.out] at hb ⊢
                by_cases d : 8 * j + (7 - m) < n
                · obtain ⟨b, off, rfl, hbb, hc⟩ := Rr.int_at d
                  have hx := hF (8 * j + (7 - m))
                  obtain ⟨x, X⟩ : ∃ x, Hid (F (8 * j + (7 - m)) = x) := ⟨_, Lib.hid rfl⟩
                  rw [X.out] at hc hx
                  have hd : 8 * (j : Int) + (7 - m) < n := by omega
                  go_wp2_with fail
                  go_round
                  case rel => exact ⟨m + 1, by omega, by go_num, by rw [hs.out, Hh.out, HD.out, if_pos (by omega), show 8 * j + 7 - m = 8 * j + (7 - m) from by omega, X.out]⟩
                  case measure => simp [intOf]; try omega
                · have hd : ¬ 8 * (j : Int) + (7 - m) < n := by omega
                  go_wp2_with fail
                  all_goals
                    go_round
                    case rel => exact ⟨m + 1, by omega, by go_num, by rw [hs.out, Hh.out, HD.out, if_neg (by omega), Int.add_zero]⟩
                    case measure => simp [intOf]; try omega
              · obtain rfl : m = 8 := by omega
                rw [HV.out]
                go_wp2_with fail
                go_round
                case rel => exact ⟨j + 1, by omega, by go_num⟩
                case measure => simp [intOf]; try omega
          · obtain rfl : j = 20 := by omega
            have hB : Below w.heap.size w wr := hb1.trans ((hb2.mono hz1).trans (hbr.below (by omega) (by omega)))
            by_cases d1 : 0 ≤ a
            · by_cases d2 : a < 160
              · go_wp2_with fail
                refine (putByte_t _ _ _ _ _ _ _ haf d1 (by omega) (by omega)).mono ?_; rintro e w4 ⟨rfl, ha4, hb4⟩
                go_wp2_with fail
                go_ret
                exact ⟨rfl, hB.trans (hb4.below (by omega) (by omega))⟩
              · have e2 : decide (a < 160) = false := by simpa using d2
                go_wp2_with fail
                refine (putByte_f _ _ _ _ _ _ _ haf (by omega)).mono ?_; rintro e w4 ⟨rfl, rfl⟩
                go_wp2_with fail
                go_ret
                exact ⟨rfl, hB⟩
            · have e1 : decide (0 ≤ a) = false := by simpa using d1
              go_wp2_with fail
              refine (putByte_f _ _ _ _ _ _ _ haf (by omega)).mono ?_; rintro e w4 ⟨rfl, rfl⟩
              go_wp2_with fail
              go_ret
              exact ⟨rfl, hB⟩
    · obtain rfl : n = k := by omega
      have HF : Hid (∀ j, j < 160 → D j = f j) := Lib.hid fun j hj => by rw [HD.out, Hf.out]
      go_wp2_with fail
      go_loop [9] (fun i => ∃ j : Nat, j ≤ 20 ∧ i = .int .i64 j) (fun i => 20 - (intOf i).toNat)
      case atStart => exact ⟨0, by omega, rfl⟩
      case round =>
        obtain ⟨j, hj, rfl⟩ := hrel
        by_cases hlt : j < 20
        · obtain ⟨V, hV⟩ : ∃ V, Hid (wordAt f (8 * j) = V) := ⟨_, Lib.hid rfl⟩
          have HV : Hid (hsum D (8 * j) 8 = V) := Lib.hid (by rw [hsum_all D f _ fun i hi => HF.out _ (by omega)]; exact hV.out)
          go_wp2_with fail
          refine (word_t _ _ _ _ _ _ haf (by omega) (by omega) (by omega)).mono ?_; rintro e w' ⟨rfl, rfl⟩
          rw [show (8 * (j : Int)).toNat = 8 * j from by omega, hV.out]
          go_wp2_with fail
          go_loop [12, 13] (fun x k => ∃ m : Nat, m ≤ 8 ∧ k = .int .i64 (7 - m) ∧ x = .int .u64 (hsum D (8 * j) m)) (fun _ k => (1 + intOf k).toNat)
          case atStart => exact ⟨0, by omega, rfl, rfl⟩
          case round =>
            obtain ⟨m, hm, rfl, rfl⟩ := hrel
            by_cases hlm : m < 8
            · have hb := hsum_bd7 D hD.out (8 * j) m hlm
              have hs : Hid (hsum D (8 * j) (m + 1) = hsum D (8 * j) m * 256 + D (8 * j + 7 - m)) := Lib.hid rfl
              obtain ⟨h, Hh⟩ : ∃ h, Hid (hsum D (8 * j) m = h) := ⟨_, Lib.hid rfl⟩
              rw [Hh.out] at hb ⊢
              by_cases d : 8 * j + (7 - m) < n
              · obtain ⟨b, off, rfl, hbb, hc⟩ := Rr.int_at d
                have hx := hF (8 * j + (7 - m))
                obtain ⟨x, X⟩ : ∃ x, Hid (F (8 * j + (7 - m)) = x) := ⟨_, Lib.hid rfl⟩
                rw [X.out] at hc hx
                have hd : 8 * (j : Int) + (7 - m) < n := by omega
                go_wp2_with fail
                go_round
                case rel => exact ⟨m + 1, by omega, by go_num, by rw [hs.out, Hh.out, HD.out, if_pos (by omega), show 8 * j + 7 - m = 8 * j + (7 - m) from by omega, X.out]⟩
                case measure => simp [intOf]; try omega
              · have hd : ¬ 8 * (j : Int) + (7 - m) < n := by omega
                go_wp2_with fail
                all_goals
                  go_round
                  case rel => exact ⟨m + 1, by omega, by go_num, by rw [hs.out, Hh.out, HD.out, if_neg (by omega), Int.add_zero]⟩
                  case measure => simp [intOf]; try omega
            · obtain rfl : m = 8 := by omega
              rw [HV.out]
              go_wp2_with fail
              go_round
              case rel => exact ⟨j + 1, by omega, by go_num⟩
              case measure => simp [intOf]; try omega
        · obtain rfl : j = 20 := by omega
          have hB : Below w.heap.size w wr := hb1.trans ((hb2.mono hz1).trans (hbr.below (by omega) (by omega)))
          by_cases d1 : 0 ≤ a
          · by_cases d2 : a < 160
            · go_wp2_with fail
              refine (putByte_t _ _ _ _ _ _ _ haf d1 (by omega) (by omega)).mono ?_; rintro e w4 ⟨rfl, ha4, hb4⟩
              go_wp2_with fail
              go_ret
              exact ⟨rfl, hB.trans (hb4.below (by omega) (by omega))⟩
            · have e2 : decide (a < 160) = false := by simpa using d2
              go_wp2_with fail
              refine (putByte_f _ _ _ _ _ _ _ haf (by omega)).mono ?_; rintro e w4 ⟨rfl, rfl⟩
              go_wp2_with fail
              go_ret
              exact ⟨rfl, hB⟩
          · have e1 : decide (0 ≤ a) = false := by simpa using d1
            go_wp2_with fail
            refine (putByte_f _ _ _ _ _ _ _ haf (by omega)).mono ?_; rintro e w4 ⟨rfl, rfl⟩
            go_wp2_with fail
            go_ret
            exact ⟨rfl, hB⟩

end Go.Proofs.Ytahkplakdbbmmaa
