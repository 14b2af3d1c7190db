/- The walks of HeadParts and HeadFits: each returns true, and nothing that was there changes. -/
import Derived.Test.YtnknkdcpdimpnaaHeadMore
import Derived.Test.YtnknkdcpdimpnaaTurns
namespace Go.Proofs.Ytnknkdcpdimpnaa
set_option linter.unusedVariables false
open Go.RowKit

theorem fit07_v (z l g : Int) (d : Bool) (s e : Int) (w : World) :
    Calls Try.prog 33 #[.agg #[.int .i64 z, .int .i64 l, .int .i64 g, .bool d, .int .i64 s, .int .i64 e]] w fun x w' => ∃ z1 l1 g1 s1 e1 : Int, x = .returned (.agg #[.int .i64 z1, .int .i64 l1, .int .i64 g1, .bool d, .int .i64 s1, .int .i64 e1]) ∧ (0 ≤ l1 ∧ l1 ≤ 6) ∧ (2 + l1 ≤ z1 ∧ z1 ≤ 71) ∧ (0 ≤ g1 ∧ g1 ≤ 7) ∧ (0 ≤ s1 ∧ s1 ≤ 7) ∧ (0 ≤ e1 ∧ e1 ≤ 16777215) ∧ Below w.heap.size w w' := by
  have b1 := i64_and7 l
  have b2 := i64_and63 z
  have b3 := i64_and7 g
  have b4 := i64_and7 s
  have b5 := i64_andEpoch e
  have key : Calls Try.prog 33 #[.agg #[.int .i64 z, .int .i64 l, .int .i64 g, .bool d, .int .i64 s, .int .i64 e]] w fun x w' => x = .returned (.agg #[.int .i64 (2 + l % 8 % 7 + z % 64), .int .i64 (l % 8 % 7), .int .i64 (g % 8), .bool d, .int .i64 (s % 8), .int .i64 (e % 16777216)]) ∧ Below w.heap.size w w' := by
    go_enter Try.func33, Try.ntmps33
    go_wp2_with fail
    refine ret_cell (g := w.heap.size + 1) (t := 46) (fr := (0, 0)) (cs := #[.int .i64 (2 + l % 8 % 7 + z % 64), .int .i64 (l % 8 % 7), .int .i64 (g % 8), .bool d, .int .i64 (s % 8), .int .i64 (e % 16777216)]) Try.results33 ?_ ?_ ?_ Try.underlying46 rfl ?_ ?_; (focus rfl); (focus rfl); (focus (apply Exists.intro; apply And.intro; (focus (repeat (first | (with_reducible exact heap_new _ _) | ((with_reducible apply heap_new'); (focus (first | (simp; done) | omega))) | (with_reducible apply heap_set) | ((with_reducible apply heap_old); (focus (first | omega | (simp; done) | (simp; omega)))) | ((with_reducible apply heap_below); (focus (with_reducible assumption)); (focus (first | omega | (simp; done) | (simp; omega)))) | ((with_reducible apply heap_set_far); (focus (first | omega | (simp; done) | (simp; omega))))))); (focus rfl))); (focus kernel_rfl)
    refine ⟨rfl, ?_⟩
    repeat (first | (with_reducible exact Below.refl _ _) | ((with_reducible refine Below.setCell ?_ ?_ _); rotate_left; (focus (first | omega | (simp; done) | (simp; omega)))) | ((with_reducible refine Below.alloc ?_ ?_ _); rotate_left; (focus (first | omega | (simp; done) | (simp; omega)))) | (with_reducible refine Below.drew ?_) | (with_reducible refine below_drewN' ?_ _) | ((refine Below.trans ?_ (Below.mono (by with_reducible assumption) ?_)); rotate_left; (focus (first | omega | (simp; done) | (simp; omega)))))
  exact key.mono fun _ _ h => ⟨_, _, _, _, _, h.1, by omega, by omega, by omega, by omega, by omega, h.2⟩

/-- A head's words out of its parts, where it may be. -/
theorem hpack_v (z l g δ : Int) (d : Bool) (s e : Int) (w : World) (h1 : 0 ≤ l ∧ l ≤ 6) (h2 : 2 + l ≤ z ∧ z ≤ 72) (h3 : 0 ≤ g ∧ g ≤ 7) (h4 : 0 ≤ s ∧ s ≤ 7) (h5 : 0 ≤ e ∧ e ≤ 16777215) (hδ : bi d = δ) :
    Calls Try.prog 27 #[.agg #[.int .i64 z, .int .i64 l, .int .i64 g, .bool d, .int .i64 s, .int .i64 e]] w fun x w' => x = .returned (.tuple #[.int .u64 (z + 4294967296 * l + 1099511627776 * g + 281474976710656 * δ + 11889503016258109440), .int .u64 (s + 256 * e), .int .i64 0]) ∧ Below w.heap.size w w' := by
  subst hδ
  exact hpack_ok z l g d s e w ⟨h1, h2, h3, h4, h5⟩

/-- A word that lacks bit 48, and the one that has it. -/
theorem xor48 (X : Nat) (hb : X % 2 ^ 49 < 2 ^ 48) : X ^^^ (X + 2 ^ 48) = 2 ^ 48 := by
  have e : X = 2 ^ 49 * (X / 2 ^ 49) + X % 2 ^ 49 := (Nat.div_add_mod X (2 ^ 49)).symm
  have h1 := xor_low 49 (X / 2 ^ 49) (X % 2 ^ 49) 48 (by omega) (by decide)
  have h2 := xor_high 48 0 (X % 2 ^ 49) 48 hb (by decide)
  have h3 : X ^^^ 2 ^ 48 = X + 2 ^ 48 := by
    rw [← e] at h1
    simp at h2
    rw [h1, show (2 : Nat) ^ 48 = 281474976710656 from rfl, h2]
    omega
  rw [← h3, ← Nat.xor_assoc, Nat.xor_self, Nat.zero_xor]
theorem xor48_u64 (x : Int) (h : inU (x + 281474976710656)) (h0 : 0 ≤ x) (hb : x % 562949953421312 < 281474976710656) : bits .xor .u64 x (x + 281474976710656) = 281474976710656 ∧ bits .xor .u64 (x + 281474976710656) x = 281474976710656 := by
  obtain ⟨X, rfl⟩ := Int.eq_ofNat_of_zero_le h0
  have hx : X + 281474976710656 < 18446744073709551616 := by have := h.2; omega
  have k := xor48 X (by omega)
  have c : (X : Int) + 281474976710656 = ((X + 281474976710656 : Nat) : Int) := by omega
  rw [c]
  constructor
  · rw [u64_xor_nat X _ (by omega) hx, show X + 281474976710656 = X + 2 ^ 48 from rfl, k]; rfl
  · rw [u64_xor_nat _ X hx (by omega), Nat.xor_comm, show X + 281474976710656 = X + 2 ^ 48 from rfl, k]; rfl

set_option maxRecDepth 100000 in
set_option maxHeartbeats 2000000 in
theorem walkHeadPartsF (z l g s e : Int) (w : World) :
    Calls Try.prog 10 #[.agg #[.int .i64 z, .int .i64 l, .int .i64 g, .bool false, .int .i64 s, .int .i64 e]] w fun e w' => e = .returned (.bool true) ∧ Below w.heap.size w w' := by
  go_enter Try.func10, Try.ntmps10
  go_wp2_with fail; refine (shown07 _).mono ?_; rintro e w1 ⟨rfl, hb1⟩; have hz1 := hb1.size; (repeat (first | rw [World.size_alloc] at hz1 | rw [World.size_setCell] at hz1 | rw [World.size_drew] at hz1)); have zl1_w_0 : w.heap.size < w1.heap.size := (by omega); have ac1_w_0 := fun o => hb1.cell (p := ⟨w.heap.size, o, none⟩) (by first | omega | (simp; done) | (simp; omega)); have af1_w_0 := fun o => hb1.frozen (p := ⟨w.heap.size, o, none⟩) (by first | omega | (simp; done) | (simp; omega))
  go_wp2_with fail; refine (fit07_v _ _ _ _ _ _ _).mono ?_; rintro e w2 ⟨z1, l1, g1, s1, e1, rfl, q1, q2, q3, q4, q5, hb2⟩; have hz2 := hb2.size; (repeat (first | rw [World.size_alloc] at hz2 | rw [World.size_setCell] at hz2 | rw [World.size_drew] at hz2))
  go_wp2_with fail; refine (hpack_v _ _ _ 0 _ _ _ _ q1 (by omega) q3 q4 q5 rfl).mono ?_; rintro e w3 ⟨rfl, hb3⟩; have hz3 := hb3.size; (repeat (first | rw [World.size_alloc] at hz3 | rw [World.size_setCell] at hz3 | rw [World.size_drew] at hz3)); have zl3_w2_0 : w2.heap.size < w3.heap.size := (by omega); have ac3_w2_0 := fun o => hb3.cell (p := ⟨w2.heap.size, o, none⟩) (by first | omega | (simp; done) | (simp; omega)); have af3_w2_0 := fun o => hb3.frozen (p := ⟨w2.heap.size, o, none⟩) (by first | omega | (simp; done) | (simp; omega)); have zl3_w2_1 : w2.heap.size + 1 < w3.heap.size := (by omega); have ac3_w2_1 := fun o => hb3.cell (p := ⟨w2.heap.size + 1, o, none⟩) (by first | omega | (simp; done) | (simp; omega)); have af3_w2_1 := fun o => hb3.frozen (p := ⟨w2.heap.size + 1, o, none⟩) (by first | omega | (simp; done) | (simp; omega))
  go_wp2_with fail; refine (hpack_v _ _ _ 1 _ _ _ _ q1 (by omega) q3 q4 q5 rfl).mono ?_; rintro e w4 ⟨rfl, hb4⟩; have hz4 := hb4.size; (repeat (first | rw [World.size_alloc] at hz4 | rw [World.size_setCell] at hz4 | rw [World.size_drew] at hz4)); have zl4_w2_0 : w2.heap.size < w4.heap.size := (by omega); have ac4_w2_0 := fun o => hb4.cell (p := ⟨w2.heap.size, o, none⟩) (by first | omega | (simp; done) | (simp; omega)); have af4_w2_0 := fun o => hb4.frozen (p := ⟨w2.heap.size, o, none⟩) (by first | omega | (simp; done) | (simp; omega)); have zl4_w2_1 : w2.heap.size + 1 < w4.heap.size := (by omega); have ac4_w2_1 := fun o => hb4.cell (p := ⟨w2.heap.size + 1, o, none⟩) (by first | omega | (simp; done) | (simp; omega)); have af4_w2_1 := fun o => hb4.frozen (p := ⟨w2.heap.size + 1, o, none⟩) (by first | omega | (simp; done) | (simp; omega))
  obtain ⟨x1, x2⟩ := xor48_u64 (z1 + 4294967296 * l1 + 1099511627776 * g1 + 11889503016258109440) (by omega) (by omega) (by omega)
  have ex : z1 + 4294967296 * l1 + 1099511627776 * g1 + 11889503016258109440 + 281474976710656 = z1 + 4294967296 * l1 + 1099511627776 * g1 + 281474976710656 + 11889503016258109440 := by omega
  rw [ex] at x1 x2
  clear ex
  go_wp2_with fail
  all_goals (go_ret; refine ⟨ret_b (by simp; try omega), ?_⟩)
  all_goals repeat (first | (with_reducible exact Below.refl _ _) | ((with_reducible refine Below.setCell ?_ ?_ _); rotate_left; (focus (first | omega | (simp; done) | (simp; omega)))) | ((with_reducible refine Below.alloc ?_ ?_ _); rotate_left; (focus (first | omega | (simp; done) | (simp; omega)))) | (with_reducible refine Below.drew ?_) | (with_reducible refine below_drewN' ?_ _) | ((refine Below.trans ?_ (Below.mono (by with_reducible assumption) ?_)); rotate_left; (focus (first | omega | (simp; done) | (simp; omega)))))

set_option maxRecDepth 100000 in
set_option maxHeartbeats 2000000 in
theorem walkHeadPartsT (z l g s e : Int) (w : World) :
    Calls Try.prog 10 #[.agg #[.int .i64 z, .int .i64 l, .int .i64 g, .bool true, .int .i64 s, .int .i64 e]] w fun e w' => e = .returned (.bool true) ∧ Below w.heap.size w w' := by
  go_enter Try.func10, Try.ntmps10
  go_wp2_with fail; refine (shown07 _).mono ?_; rintro e w1 ⟨rfl, hb1⟩; have hz1 := hb1.size; (repeat (first | rw [World.size_alloc] at hz1 | rw [World.size_setCell] at hz1 | rw [World.size_drew] at hz1)); have zl1_w_0 : w.heap.size < w1.heap.size := (by omega); have ac1_w_0 := fun o => hb1.cell (p := ⟨w.heap.size, o, none⟩) (by first | omega | (simp; done) | (simp; omega)); have af1_w_0 := fun o => hb1.frozen (p := ⟨w.heap.size, o, none⟩) (by first | omega | (simp; done) | (simp; omega))
  go_wp2_with fail; refine (fit07_v _ _ _ _ _ _ _).mono ?_; rintro e w2 ⟨z1, l1, g1, s1, e1, rfl, q1, q2, q3, q4, q5, hb2⟩; have hz2 := hb2.size; (repeat (first | rw [World.size_alloc] at hz2 | rw [World.size_setCell] at hz2 | rw [World.size_drew] at hz2))
  go_wp2_with fail; refine (hpack_v _ _ _ 1 _ _ _ _ q1 (by omega) q3 q4 q5 rfl).mono ?_; rintro e w3 ⟨rfl, hb3⟩; have hz3 := hb3.size; (repeat (first | rw [World.size_alloc] at hz3 | rw [World.size_setCell] at hz3 | rw [World.size_drew] at hz3)); have zl3_w2_0 : w2.heap.size < w3.heap.size := (by omega); have ac3_w2_0 := fun o => hb3.cell (p := ⟨w2.heap.size, o, none⟩) (by first | omega | (simp; done) | (simp; omega)); have af3_w2_0 := fun o => hb3.frozen (p := ⟨w2.heap.size, o, none⟩) (by first | omega | (simp; done) | (simp; omega)); have zl3_w2_1 : w2.heap.size + 1 < w3.heap.size := (by omega); have ac3_w2_1 := fun o => hb3.cell (p := ⟨w2.heap.size + 1, o, none⟩) (by first | omega | (simp; done) | (simp; omega)); have af3_w2_1 := fun o => hb3.frozen (p := ⟨w2.heap.size + 1, o, none⟩) (by first | omega | (simp; done) | (simp; omega))
  go_wp2_with fail; refine (hpack_v _ _ _ 0 _ _ _ _ q1 (by omega) q3 q4 q5 rfl).mono ?_; rintro e w4 ⟨rfl, hb4⟩; have hz4 := hb4.size; (repeat (first | rw [World.size_alloc] at hz4 | rw [World.size_setCell] at hz4 | rw [World.size_drew] at hz4)); have zl4_w2_0 : w2.heap.size < w4.heap.size := (by omega); have ac4_w2_0 := fun o => hb4.cell (p := ⟨w2.heap.size, o, none⟩) (by first | omega | (simp; done) | (simp; omega)); have af4_w2_0 := fun o => hb4.frozen (p := ⟨w2.heap.size, o, none⟩) (by first | omega | (simp; done) | (simp; omega)); have zl4_w2_1 : w2.heap.size + 1 < w4.heap.size := (by omega); have ac4_w2_1 := fun o => hb4.cell (p := ⟨w2.heap.size + 1, o, none⟩) (by first | omega | (simp; done) | (simp; omega)); have af4_w2_1 := fun o => hb4.frozen (p := ⟨w2.heap.size + 1, o, none⟩) (by first | omega | (simp; done) | (simp; omega))
  obtain ⟨x1, x2⟩ := xor48_u64 (z1 + 4294967296 * l1 + 1099511627776 * g1 + 11889503016258109440) (by omega) (by omega) (by omega)
  have ex : z1 + 4294967296 * l1 + 1099511627776 * g1 + 11889503016258109440 + 281474976710656 = z1 + 4294967296 * l1 + 1099511627776 * g1 + 281474976710656 + 11889503016258109440 := by omega
  rw [ex] at x1 x2
  clear ex
  go_wp2_with fail
  all_goals (go_ret; refine ⟨ret_b (by simp; try omega), ?_⟩)
  all_goals repeat (first | (with_reducible exact Below.refl _ _) | ((with_reducible refine Below.setCell ?_ ?_ _); rotate_left; (focus (first | omega | (simp; done) | (simp; omega)))) | ((with_reducible refine Below.alloc ?_ ?_ _); rotate_left; (focus (first | omega | (simp; done) | (simp; omega)))) | (with_reducible refine Below.drew ?_) | (with_reducible refine below_drewN' ?_ _) | ((refine Below.trans ?_ (Below.mono (by with_reducible assumption) ?_)); rotate_left; (focus (first | omega | (simp; done) | (simp; omega)))))

theorem walkHeadParts (z l g : Int) (d : Bool) (s e : Int) (w : World) :
    Calls Try.prog 10 #[.agg #[.int .i64 z, .int .i64 l, .int .i64 g, .bool d, .int .i64 s, .int .i64 e]] w fun e w' => e = .returned (.bool true) ∧ Below w.heap.size w w' := by
  cases d
  · exact walkHeadPartsF _ _ _ _ _ _
  · exact walkHeadPartsT _ _ _ _ _ _

theorem hright_v (z l g : Int) (d : Bool) (s e : Int) (w : World) (h1 : 0 ≤ l ∧ l ≤ 6) (h2 : 2 + l ≤ z ∧ z ≤ 72) (h3 : 0 ≤ g ∧ g ≤ 7) (h4 : 0 ≤ s ∧ s ≤ 7) (h5 : 0 ≤ e ∧ e ≤ 16777215) :
    Calls Try.prog 31 #[.agg #[.int .i64 z, .int .i64 l, .int .i64 g, .bool d, .int .i64 s, .int .i64 e]] w fun x w' => x = .returned (.bool true) ∧ Below w.heap.size w w' :=
  hright_t z l g d s e w ⟨h1, h2, h3, h4, h5⟩
theorem hwords_k (n m : Int) (w : World) (h1 : 0 ≤ n ∧ n ≤ 6) (h2 : 0 ≤ m ∧ m ≤ 512) :
    Calls Try.prog 25 #[.int .i64 n, .int .i64 m] w fun x w' => ∃ k : Int, x = .returned (.tuple #[.int .i64 (2 + n + k), .int .i64 0]) ∧ m ≤ 8 * k ∧ 8 * k ≤ m + 7 ∧ w = w' :=
  (hwords_ok n m w h1 h2).mono fun _ _ h => ⟨_, h.1, by omega, by omega, h.2⟩

set_option maxRecDepth 100000 in
set_option maxHeartbeats 2000000 in
theorem walkHeadFitsNo (n m z l g : Int) (d : Bool) (s e : Int) (w : World) (h : n < 0 ∨ 6 < n ∨ m < 0 ∨ 512 < m) :
    Calls Try.prog 11 #[.int .i64 n, .int .i64 m, .agg #[.int .i64 z, .int .i64 l, .int .i64 g, .bool d, .int .i64 s, .int .i64 e]] w fun e w' => e = .returned (.bool true) ∧ Below w.heap.size w w' := by
  by_cases c0 : 0 ≤ n
  case neg =>
    have d0 : decide (0 ≤ n) = false := by simp; omega
    go_enter Try.func11, Try.ntmps11
    go_wp2_with fail; refine (shown07 _).mono ?_; rintro e w1 ⟨rfl, hb1⟩; have hz1 := hb1.size; (repeat (first | rw [World.size_alloc] at hz1 | rw [World.size_setCell] at hz1 | rw [World.size_drew] at hz1)); have zl1_w_0 : w.heap.size < w1.heap.size := (by omega); have ac1_w_0 := fun o => hb1.cell (p := ⟨w.heap.size, o, none⟩) (by first | omega | (simp; done) | (simp; omega)); have af1_w_0 := fun o => hb1.frozen (p := ⟨w.heap.size, o, none⟩) (by first | omega | (simp; done) | (simp; omega))
    go_wp2_with fail; refine (hwords_no _ _ _ (by omega)).mono ?_; rintro e w' ⟨rfl, rfl⟩
    go_wp2_with fail
    all_goals (go_ret; refine ⟨ret_b (by simp; try omega), ?_⟩)
    all_goals repeat (first | (with_reducible exact Below.refl _ _) | ((with_reducible refine Below.setCell ?_ ?_ _); rotate_left; (focus (first | omega | (simp; done) | (simp; omega)))) | ((with_reducible refine Below.alloc ?_ ?_ _); rotate_left; (focus (first | omega | (simp; done) | (simp; omega)))) | (with_reducible refine Below.drew ?_) | (with_reducible refine below_drewN' ?_ _) | ((refine Below.trans ?_ (Below.mono (by with_reducible assumption) ?_)); rotate_left; (focus (first | omega | (simp; done) | (simp; omega)))))
  have d0 : decide (0 ≤ n) = true := by simp; omega
  by_cases c1 : n ≤ 6
  case neg =>
    have d1 : decide (n ≤ 6) = false := by simp; omega
    go_enter Try.func11, Try.ntmps11
    go_wp2_with fail; refine (shown07 _).mono ?_; rintro e w1 ⟨rfl, hb1⟩; have hz1 := hb1.size; (repeat (first | rw [World.size_alloc] at hz1 | rw [World.size_setCell] at hz1 | rw [World.size_drew] at hz1)); have zl1_w_0 : w.heap.size < w1.heap.size := (by omega); have ac1_w_0 := fun o => hb1.cell (p := ⟨w.heap.size, o, none⟩) (by first | omega | (simp; done) | (simp; omega)); have af1_w_0 := fun o => hb1.frozen (p := ⟨w.heap.size, o, none⟩) (by first | omega | (simp; done) | (simp; omega))
    go_wp2_with fail; refine (hwords_no _ _ _ (by omega)).mono ?_; rintro e w' ⟨rfl, rfl⟩
    go_wp2_with fail
    all_goals (go_ret; refine ⟨ret_b (by simp; try omega), ?_⟩)
    all_goals repeat (first | (with_reducible exact Below.refl _ _) | ((with_reducible refine Below.setCell ?_ ?_ _); rotate_left; (focus (first | omega | (simp; done) | (simp; omega)))) | ((with_reducible refine Below.alloc ?_ ?_ _); rotate_left; (focus (first | omega | (simp; done) | (simp; omega)))) | (with_reducible refine Below.drew ?_) | (with_reducible refine below_drewN' ?_ _) | ((refine Below.trans ?_ (Below.mono (by with_reducible assumption) ?_)); rotate_left; (focus (first | omega | (simp; done) | (simp; omega)))))
  have d1 : decide (n ≤ 6) = true := by simp; omega
  by_cases c2 : 0 ≤ m
  case neg =>
    have d2 : decide (0 ≤ m) = false := by simp; omega
    go_enter Try.func11, Try.ntmps11
    go_wp2_with fail; refine (shown07 _).mono ?_; rintro e w1 ⟨rfl, hb1⟩; have hz1 := hb1.size; (repeat (first | rw [World.size_alloc] at hz1 | rw [World.size_setCell] at hz1 | rw [World.size_drew] at hz1)); have zl1_w_0 : w.heap.size < w1.heap.size := (by omega); have ac1_w_0 := fun o => hb1.cell (p := ⟨w.heap.size, o, none⟩) (by first | omega | (simp; done) | (simp; omega)); have af1_w_0 := fun o => hb1.frozen (p := ⟨w.heap.size, o, none⟩) (by first | omega | (simp; done) | (simp; omega))
    go_wp2_with fail; refine (hwords_no _ _ _ (by omega)).mono ?_; rintro e w' ⟨rfl, rfl⟩
    go_wp2_with fail
    all_goals (go_ret; refine ⟨ret_b (by simp; try omega), ?_⟩)
    all_goals repeat (first | (with_reducible exact Below.refl _ _) | ((with_reducible refine Below.setCell ?_ ?_ _); rotate_left; (focus (first | omega | (simp; done) | (simp; omega)))) | ((with_reducible refine Below.alloc ?_ ?_ _); rotate_left; (focus (first | omega | (simp; done) | (simp; omega)))) | (with_reducible refine Below.drew ?_) | (with_reducible refine below_drewN' ?_ _) | ((refine Below.trans ?_ (Below.mono (by with_reducible assumption) ?_)); rotate_left; (focus (first | omega | (simp; done) | (simp; omega)))))
  have d2 : decide (0 ≤ m) = true := by simp; omega
  have d3 : decide (m ≤ 512) = false := by simp; omega
  go_enter Try.func11, Try.ntmps11
  go_wp2_with fail; refine (shown07 _).mono ?_; rintro e w1 ⟨rfl, hb1⟩; have hz1 := hb1.size; (repeat (first | rw [World.size_alloc] at hz1 | rw [World.size_setCell] at hz1 | rw [World.size_drew] at hz1)); have zl1_w_0 : w.heap.size < w1.heap.size := (by omega); have ac1_w_0 := fun o => hb1.cell (p := ⟨w.heap.size, o, none⟩) (by first | omega | (simp; done) | (simp; omega)); have af1_w_0 := fun o => hb1.frozen (p := ⟨w.heap.size, o, none⟩) (by first | omega | (simp; done) | (simp; omega))
  go_wp2_with fail; refine (hwords_no _ _ _ (by omega)).mono ?_; rintro e w' ⟨rfl, rfl⟩
  go_wp2_with fail
  all_goals (go_ret; refine ⟨ret_b (by simp; try omega), ?_⟩)
  all_goals repeat (first | (with_reducible exact Below.refl _ _) | ((with_reducible refine Below.setCell ?_ ?_ _); rotate_left; (focus (first | omega | (simp; done) | (simp; omega)))) | ((with_reducible refine Below.alloc ?_ ?_ _); rotate_left; (focus (first | omega | (simp; done) | (simp; omega)))) | (with_reducible refine Below.drew ?_) | (with_reducible refine below_drewN' ?_ _) | ((refine Below.trans ?_ (Below.mono (by with_reducible assumption) ?_)); rotate_left; (focus (first | omega | (simp; done) | (simp; omega)))))

set_option maxRecDepth 100000 in
set_option maxHeartbeats 2000000 in
theorem walkHeadFitsOk (n m z l g : Int) (d : Bool) (s e : Int) (w : World) (h1 : 0 ≤ n ∧ n ≤ 6) (h2 : 0 ≤ m ∧ m ≤ 512) :
    Calls Try.prog 11 #[.int .i64 n, .int .i64 m, .agg #[.int .i64 z, .int .i64 l, .int .i64 g, .bool d, .int .i64 s, .int .i64 e]] w fun e w' => e = .returned (.bool true) ∧ Below w.heap.size w w' := by
  go_enter Try.func11, Try.ntmps11
  go_wp2_with fail; refine (shown07 _).mono ?_; rintro e w1 ⟨rfl, hb1⟩; have hz1 := hb1.size; (repeat (first | rw [World.size_alloc] at hz1 | rw [World.size_setCell] at hz1 | rw [World.size_drew] at hz1)); have zl1_w_0 : w.heap.size < w1.heap.size := (by omega); have ac1_w_0 := fun o => hb1.cell (p := ⟨w.heap.size, o, none⟩) (by first | omega | (simp; done) | (simp; omega)); have af1_w_0 := fun o => hb1.frozen (p := ⟨w.heap.size, o, none⟩) (by first | omega | (simp; done) | (simp; omega))
  go_wp2_with fail; refine (hwords_k _ _ _ h1 h2).mono ?_; rintro e w' ⟨k, rfl, k1, k2, rfl⟩
  go_wp2_with fail; refine (fit07_v _ _ _ _ _ _ _).mono ?_; rintro e w2 ⟨z1, l1, g1, s1, e1, rfl, q1, q2, q3, q4, q5, hb2⟩; have hz2 := hb2.size; (repeat (first | rw [World.size_alloc] at hz2 | rw [World.size_setCell] at hz2 | rw [World.size_drew] at hz2))
  go_wp2_with fail; refine (hpack_v _ _ _ _ _ _ _ _ h1 (by omega) q3 q4 q5 rfl).mono ?_; rintro e w3 ⟨rfl, hb3⟩; have hz3 := hb3.size; (repeat (first | rw [World.size_alloc] at hz3 | rw [World.size_setCell] at hz3 | rw [World.size_drew] at hz3)); have zl3_w2_0 : w2.heap.size < w3.heap.size := (by omega); have ac3_w2_0 := fun o => hb3.cell (p := ⟨w2.heap.size, o, none⟩) (by first | omega | (simp; done) | (simp; omega)); have af3_w2_0 := fun o => hb3.frozen (p := ⟨w2.heap.size, o, none⟩) (by first | omega | (simp; done) | (simp; omega))
  go_wp2_with fail; refine (hright_v _ _ _ _ _ _ _ h1 (by omega) q3 q4 q5).mono ?_; rintro e w4 ⟨rfl, hb4⟩; have hz4 := hb4.size; (repeat (first | rw [World.size_alloc] at hz4 | rw [World.size_setCell] at hz4 | rw [World.size_drew] at hz4)); have zl4_w2_0 : w2.heap.size < w4.heap.size := (by omega); have ac4_w2_0 := fun o => hb4.cell (p := ⟨w2.heap.size, o, none⟩) (by first | omega | (simp; done) | (simp; omega)); have af4_w2_0 := fun o => hb4.frozen (p := ⟨w2.heap.size, o, none⟩) (by first | omega | (simp; done) | (simp; omega))
  go_wp2_with fail
  all_goals (go_ret; refine ⟨ret_b (by simp; try omega), ?_⟩)
  all_goals repeat (first | (with_reducible exact Below.refl _ _) | ((with_reducible refine Below.setCell ?_ ?_ _); rotate_left; (focus (first | omega | (simp; done) | (simp; omega)))) | ((with_reducible refine Below.alloc ?_ ?_ _); rotate_left; (focus (first | omega | (simp; done) | (simp; omega)))) | (with_reducible refine Below.drew ?_) | (with_reducible refine below_drewN' ?_ _) | ((refine Below.trans ?_ (Below.mono (by with_reducible assumption) ?_)); rotate_left; (focus (first | omega | (simp; done) | (simp; omega)))))
theorem walkHeadFits (n m z l g : Int) (d : Bool) (s e : Int) (w : World) :
    Calls Try.prog 11 #[.int .i64 n, .int .i64 m, .agg #[.int .i64 z, .int .i64 l, .int .i64 g, .bool d, .int .i64 s, .int .i64 e]] w fun e w' => e = .returned (.bool true) ∧ Below w.heap.size w w' := by
  by_cases h : n < 0 ∨ 6 < n ∨ m < 0 ∨ 512 < m
  · exact walkHeadFitsNo _ _ _ _ _ _ _ _ _ h
  · exact walkHeadFitsOk _ _ _ _ _ _ _ _ _ (by omega) (by omega)

end Go.Proofs.Ytnknkdcpdimpnaa
