/- Contracts of the functions of package plan, and of the references and examples of layer 5. -/
import Derived.Test.YtnknkdcpdimpnaaNum
namespace Go.Proofs.Ytnknkdcpdimpnaa
set_option linter.unusedVariables false
open Go.RowKit

theorem within_t (n l h : Int) (w : World) (h1 : l ≤ n) (h2 : n ≤ h) :
    Calls Try.prog 37 #[.int .i64 n, .int .i64 l, .int .i64 h] w fun e w' => e = .returned (.bool true) ∧ w = w' :=
  (within_any n l h w).mono fun _ _ g => ⟨by rw [g.1]; simp [h1, h2], g.2⟩
theorem within_f (n l h : Int) (w : World) (h1 : n < l ∨ h < n) :
    Calls Try.prog 37 #[.int .i64 n, .int .i64 l, .int .i64 h] w fun e w' => e = .returned (.bool false) ∧ w = w' :=
  (within_any n l h w).mono fun _ _ g => ⟨by rw [g.1]; exact ret_b (by simp; omega), g.2⟩
theorem bcell {W w1 : World} (hb : Below W.heap.size W w1) : (∀ b o, b < W.heap.size → w1.cell? ⟨b, o, none⟩ = W.cell? ⟨b, o, none⟩) ∧ (∀ b o, b < W.heap.size → w1.frozen? ⟨b, o, none⟩ = W.frozen? ⟨b, o, none⟩) :=
  ⟨fun b o h => hb.cell (p := ⟨b, o, none⟩) h, fun b o h => hb.frozen (p := ⟨b, o, none⟩) h⟩

/-- What a plan may be. -/
abbrev okPlan (s t i h : Int) : Prop := (1 ≤ s ∧ s ≤ 8) ∧ (1 ≤ t ∧ t ≤ 4) ∧ (0 ≤ i ∧ i ≤ 2048) ∧ (0 ≤ h ∧ h ≤ 8192) ∧ i % 8 = 0 ∧ h % 8 = 0

/-- Both are multiples of 8 just if what they have together is. -/
theorem or8 (i h : Int) (hi : 0 ≤ i ∧ i ≤ 2048) (hh : 0 ≤ h ∧ h ≤ 8192) : 0 ≤ bits .or .i64 i h ∧ (bits .or .i64 i h % 8 = 0 ↔ i % 8 = 0 ∧ h % 8 = 0) := by
  obtain ⟨I, rfl⟩ := Int.eq_ofNat_of_zero_le hi.1
  obtain ⟨K, rfl⟩ := Int.eq_ofNat_of_zero_le hh.1
  rw [(bits_nat .i64 63 (by decide) wraps_i64 I K (by omega) (by omega)).2]
  refine ⟨by omega, ?_⟩
  have e : (I ||| K) % 8 = (I % 8) ||| (K % 8) := Nat.or_mod_two_pow (n := 3)
  have e2 : (I ||| K) % 8 = 0 ↔ I % 8 = 0 ∧ K % 8 = 0 := by rw [e, Nat.or_eq_zero_iff]
  omega

theorem right_any (s t i h : Int) (w : World) :
    Calls Try.prog 18 #[.agg #[.int .i64 s, .int .i64 t, .int .i64 i, .int .i64 h]] w fun x w' => x = .returned (.bool (if okPlan s t i h then true else false)) ∧ Below w.heap.size w w' := by
  by_cases c0 : 1 ≤ s ∧ s ≤ 8
  case neg =>
    rw [if_neg (by omega)]
    go_enter Try.func18, Try.ntmps18
    go_wp2_with (go_at_call 37; refine (within_f _ _ _ _ (by omega)).mono ?_; rintro e w' ⟨rfl, rfl⟩)
    go_ret; refine ⟨rfl, ?_⟩
    repeat (first | (with_reducible exact Below.refl _ _) | ((with_reducible refine Below.setCell ?_ ?_ _); rotate_left; (focus (first | omega | (simp; done) | (simp; omega)))) | ((with_reducible refine Below.alloc ?_ ?_ _); rotate_left; (focus (first | omega | (simp; done) | (simp; omega)))) | (with_reducible refine Below.drew ?_) | (with_reducible refine below_drewN' ?_ _) | ((refine Below.trans ?_ (Below.mono (by with_reducible assumption) ?_)); rotate_left; (focus (first | omega | (simp; done) | (simp; omega)))))
  by_cases c1 : 1 ≤ t ∧ t ≤ 4
  case neg =>
    rw [if_neg (by omega)]
    go_enter Try.func18, Try.ntmps18
    go_wp2_with (first | (go_at_call 37; refine (within_t _ _ _ _ (by omega) (by omega)).mono ?_; rintro e w' ⟨rfl, rfl⟩) | (go_at_call 37; refine (within_f _ _ _ _ (by omega)).mono ?_; rintro e w' ⟨rfl, rfl⟩))
    go_ret; refine ⟨rfl, ?_⟩
    repeat (first | (with_reducible exact Below.refl _ _) | ((with_reducible refine Below.setCell ?_ ?_ _); rotate_left; (focus (first | omega | (simp; done) | (simp; omega)))) | ((with_reducible refine Below.alloc ?_ ?_ _); rotate_left; (focus (first | omega | (simp; done) | (simp; omega)))) | (with_reducible refine Below.drew ?_) | (with_reducible refine below_drewN' ?_ _) | ((refine Below.trans ?_ (Below.mono (by with_reducible assumption) ?_)); rotate_left; (focus (first | omega | (simp; done) | (simp; omega)))))
  by_cases c2 : 0 ≤ i ∧ i ≤ 2048
  case neg =>
    rw [if_neg (by omega)]
    go_enter Try.func18, Try.ntmps18
    go_wp2_with (first | (go_at_call 37; refine (within_t _ _ _ _ (by omega) (by omega)).mono ?_; rintro e w' ⟨rfl, rfl⟩) | (go_at_call 37; refine (within_f _ _ _ _ (by omega)).mono ?_; rintro e w' ⟨rfl, rfl⟩))
    go_ret; refine ⟨rfl, ?_⟩
    repeat (first | (with_reducible exact Below.refl _ _) | ((with_reducible refine Below.setCell ?_ ?_ _); rotate_left; (focus (first | omega | (simp; done) | (simp; omega)))) | ((with_reducible refine Below.alloc ?_ ?_ _); rotate_left; (focus (first | omega | (simp; done) | (simp; omega)))) | (with_reducible refine Below.drew ?_) | (with_reducible refine below_drewN' ?_ _) | ((refine Below.trans ?_ (Below.mono (by with_reducible assumption) ?_)); rotate_left; (focus (first | omega | (simp; done) | (simp; omega)))))
  by_cases c3 : 0 ≤ h ∧ h ≤ 8192
  case neg =>
    rw [if_neg (by omega)]
    go_enter Try.func18, Try.ntmps18
    go_wp2_with (first | (go_at_call 37; refine (within_t _ _ _ _ (by omega) (by omega)).mono ?_; rintro e w' ⟨rfl, rfl⟩) | (go_at_call 37; refine (within_f _ _ _ _ (by omega)).mono ?_; rintro e w' ⟨rfl, rfl⟩))
    go_ret; refine ⟨rfl, ?_⟩
    repeat (first | (with_reducible exact Below.refl _ _) | ((with_reducible refine Below.setCell ?_ ?_ _); rotate_left; (focus (first | omega | (simp; done) | (simp; omega)))) | ((with_reducible refine Below.alloc ?_ ?_ _); rotate_left; (focus (first | omega | (simp; done) | (simp; omega)))) | (with_reducible refine Below.drew ?_) | (with_reducible refine below_drewN' ?_ _) | ((refine Below.trans ?_ (Below.mono (by with_reducible assumption) ?_)); rotate_left; (focus (first | omega | (simp; done) | (simp; omega)))))
  obtain ⟨o0, o1⟩ := or8 i h c2 c3
  by_cases c4 : i % 8 = 0 ∧ h % 8 = 0
  case neg =>
    rw [if_neg (by omega)]
    have d : (bits .or .i64 i h % 8 == 0) = false := by simp; omega
    clear o1 c4
    go_enter Try.func18, Try.ntmps18
    go_wp2_with (first | (go_at_call 37; refine (within_t _ _ _ _ (by omega) (by omega)).mono ?_; rintro e w' ⟨rfl, rfl⟩) | (go_at_call 37; refine (within_f _ _ _ _ (by omega)).mono ?_; rintro e w' ⟨rfl, rfl⟩))
    go_ret; refine ⟨rfl, ?_⟩
    repeat (first | (with_reducible exact Below.refl _ _) | ((with_reducible refine Below.setCell ?_ ?_ _); rotate_left; (focus (first | omega | (simp; done) | (simp; omega)))) | ((with_reducible refine Below.alloc ?_ ?_ _); rotate_left; (focus (first | omega | (simp; done) | (simp; omega)))) | (with_reducible refine Below.drew ?_) | (with_reducible refine below_drewN' ?_ _) | ((refine Below.trans ?_ (Below.mono (by with_reducible assumption) ?_)); rotate_left; (focus (first | omega | (simp; done) | (simp; omega)))))
  rw [if_pos (by omega)]
  have d : (bits .or .i64 i h % 8 == 0) = true := by simp; omega
  clear o1 c4
  go_enter Try.func18, Try.ntmps18
  go_wp2_with (first | (go_at_call 37; refine (within_t _ _ _ _ (by omega) (by omega)).mono ?_; rintro e w' ⟨rfl, rfl⟩) | (go_at_call 37; refine (within_f _ _ _ _ (by omega)).mono ?_; rintro e w' ⟨rfl, rfl⟩))
  go_ret; refine ⟨rfl, ?_⟩
  repeat (first | (with_reducible exact Below.refl _ _) | ((with_reducible refine Below.setCell ?_ ?_ _); rotate_left; (focus (first | omega | (simp; done) | (simp; omega)))) | ((with_reducible refine Below.alloc ?_ ?_ _); rotate_left; (focus (first | omega | (simp; done) | (simp; omega)))) | (with_reducible refine Below.drew ?_) | (with_reducible refine below_drewN' ?_ _) | ((refine Below.trans ?_ (Below.mono (by with_reducible assumption) ?_)); rotate_left; (focus (first | omega | (simp; done) | (simp; omega)))))

theorem rright_any (s t i h : Int) (w : World) :
    Calls Try.prog 13 #[.agg #[.int .i64 s, .int .i64 t, .int .i64 i, .int .i64 h]] w fun x w' => x = .returned (.bool (if okPlan s t i h then true else false)) ∧ Below w.heap.size w w' := by
  by_cases c0 : 1 ≤ s
  case neg =>
    have d0 : decide (1 ≤ s) = false := by simp; omega
    rw [if_neg (by omega)]
    go_enter Try.func13, Try.ntmps13
    go_wp2
    go_ret; exact ⟨rfl, by
      repeat (first | (with_reducible exact Below.refl _ _) | ((with_reducible refine Below.setCell ?_ ?_ _); rotate_left; (focus (first | omega | (simp; done) | (simp; omega)))) | ((with_reducible refine Below.alloc ?_ ?_ _); rotate_left; (focus (first | omega | (simp; done) | (simp; omega)))) | (with_reducible refine Below.drew ?_) | (with_reducible refine below_drewN' ?_ _) | ((refine Below.trans ?_ (Below.mono (by with_reducible assumption) ?_)); rotate_left; (focus (first | omega | (simp; done) | (simp; omega)))))⟩
  have d0 : decide (1 ≤ s) = true := by simp; omega
  by_cases c1 : s ≤ 8
  case neg =>
    have d1 : decide (s ≤ 8) = false := by simp; omega
    rw [if_neg (by omega)]
    go_enter Try.func13, Try.ntmps13
    go_wp2
    go_ret; exact ⟨rfl, by
      repeat (first | (with_reducible exact Below.refl _ _) | ((with_reducible refine Below.setCell ?_ ?_ _); rotate_left; (focus (first | omega | (simp; done) | (simp; omega)))) | ((with_reducible refine Below.alloc ?_ ?_ _); rotate_left; (focus (first | omega | (simp; done) | (simp; omega)))) | (with_reducible refine Below.drew ?_) | (with_reducible refine below_drewN' ?_ _) | ((refine Below.trans ?_ (Below.mono (by with_reducible assumption) ?_)); rotate_left; (focus (first | omega | (simp; done) | (simp; omega)))))⟩
  have d1 : decide (s ≤ 8) = true := by simp; omega
  by_cases c2 : 1 ≤ t
  case neg =>
    have d2 : decide (1 ≤ t) = false := by simp; omega
    rw [if_neg (by omega)]
    go_enter Try.func13, Try.ntmps13
    go_wp2
    go_ret; exact ⟨rfl, by
      repeat (first | (with_reducible exact Below.refl _ _) | ((with_reducible refine Below.setCell ?_ ?_ _); rotate_left; (focus (first | omega | (simp; done) | (simp; omega)))) | ((with_reducible refine Below.alloc ?_ ?_ _); rotate_left; (focus (first | omega | (simp; done) | (simp; omega)))) | (with_reducible refine Below.drew ?_) | (with_reducible refine below_drewN' ?_ _) | ((refine Below.trans ?_ (Below.mono (by with_reducible assumption) ?_)); rotate_left; (focus (first | omega | (simp; done) | (simp; omega)))))⟩
  have d2 : decide (1 ≤ t) = true := by simp; omega
  by_cases c3 : t ≤ 4
  case neg =>
    have d3 : decide (t ≤ 4) = false := by simp; omega
    rw [if_neg (by omega)]
    go_enter Try.func13, Try.ntmps13
    go_wp2
    go_ret; exact ⟨rfl, by
      repeat (first | (with_reducible exact Below.refl _ _) | ((with_reducible refine Below.setCell ?_ ?_ _); rotate_left; (focus (first | omega | (simp; done) | (simp; omega)))) | ((with_reducible refine Below.alloc ?_ ?_ _); rotate_left; (focus (first | omega | (simp; done) | (simp; omega)))) | (with_reducible refine Below.drew ?_) | (with_reducible refine below_drewN' ?_ _) | ((refine Below.trans ?_ (Below.mono (by with_reducible assumption) ?_)); rotate_left; (focus (first | omega | (simp; done) | (simp; omega)))))⟩
  have d3 : decide (t ≤ 4) = true := by simp; omega
  by_cases c4 : 0 ≤ i
  case neg =>
    have d4 : decide (0 ≤ i) = false := by simp; omega
    rw [if_neg (by omega)]
    go_enter Try.func13, Try.ntmps13
    go_wp2
    go_ret; exact ⟨rfl, by
      repeat (first | (with_reducible exact Below.refl _ _) | ((with_reducible refine Below.setCell ?_ ?_ _); rotate_left; (focus (first | omega | (simp; done) | (simp; omega)))) | ((with_reducible refine Below.alloc ?_ ?_ _); rotate_left; (focus (first | omega | (simp; done) | (simp; omega)))) | (with_reducible refine Below.drew ?_) | (with_reducible refine below_drewN' ?_ _) | ((refine Below.trans ?_ (Below.mono (by with_reducible assumption) ?_)); rotate_left; (focus (first | omega | (simp; done) | (simp; omega)))))⟩
  have d4 : decide (0 ≤ i) = true := by simp; omega
  by_cases c5 : i ≤ 2048
  case neg =>
    have d5 : decide (i ≤ 2048) = false := by simp; omega
    rw [if_neg (by omega)]
    go_enter Try.func13, Try.ntmps13
    go_wp2
    go_ret; exact ⟨rfl, by
      repeat (first | (with_reducible exact Below.refl _ _) | ((with_reducible refine Below.setCell ?_ ?_ _); rotate_left; (focus (first | omega | (simp; done) | (simp; omega)))) | ((with_reducible refine Below.alloc ?_ ?_ _); rotate_left; (focus (first | omega | (simp; done) | (simp; omega)))) | (with_reducible refine Below.drew ?_) | (with_reducible refine below_drewN' ?_ _) | ((refine Below.trans ?_ (Below.mono (by with_reducible assumption) ?_)); rotate_left; (focus (first | omega | (simp; done) | (simp; omega)))))⟩
  have d5 : decide (i ≤ 2048) = true := by simp; omega
  by_cases c6 : 0 ≤ h
  case neg =>
    have d6 : decide (0 ≤ h) = false := by simp; omega
    rw [if_neg (by omega)]
    go_enter Try.func13, Try.ntmps13
    go_wp2
    go_ret; exact ⟨rfl, by
      repeat (first | (with_reducible exact Below.refl _ _) | ((with_reducible refine Below.setCell ?_ ?_ _); rotate_left; (focus (first | omega | (simp; done) | (simp; omega)))) | ((with_reducible refine Below.alloc ?_ ?_ _); rotate_left; (focus (first | omega | (simp; done) | (simp; omega)))) | (with_reducible refine Below.drew ?_) | (with_reducible refine below_drewN' ?_ _) | ((refine Below.trans ?_ (Below.mono (by with_reducible assumption) ?_)); rotate_left; (focus (first | omega | (simp; done) | (simp; omega)))))⟩
  have d6 : decide (0 ≤ h) = true := by simp; omega
  by_cases c7 : h ≤ 8192
  case neg =>
    have d7 : decide (h ≤ 8192) = false := by simp; omega
    rw [if_neg (by omega)]
    go_enter Try.func13, Try.ntmps13
    go_wp2
    go_ret; exact ⟨rfl, by
      repeat (first | (with_reducible exact Below.refl _ _) | ((with_reducible refine Below.setCell ?_ ?_ _); rotate_left; (focus (first | omega | (simp; done) | (simp; omega)))) | ((with_reducible refine Below.alloc ?_ ?_ _); rotate_left; (focus (first | omega | (simp; done) | (simp; omega)))) | (with_reducible refine Below.drew ?_) | (with_reducible refine below_drewN' ?_ _) | ((refine Below.trans ?_ (Below.mono (by with_reducible assumption) ?_)); rotate_left; (focus (first | omega | (simp; done) | (simp; omega)))))⟩
  have d7 : decide (h ≤ 8192) = true := by simp; omega
  by_cases c8 : i % 8 = 0
  case neg =>
    have d8 : (i % 8 == 0) = false := by simp; omega
    rw [if_neg (by omega)]
    go_enter Try.func13, Try.ntmps13
    go_wp2
    go_ret; exact ⟨rfl, by
      repeat (first | (with_reducible exact Below.refl _ _) | ((with_reducible refine Below.setCell ?_ ?_ _); rotate_left; (focus (first | omega | (simp; done) | (simp; omega)))) | ((with_reducible refine Below.alloc ?_ ?_ _); rotate_left; (focus (first | omega | (simp; done) | (simp; omega)))) | (with_reducible refine Below.drew ?_) | (with_reducible refine below_drewN' ?_ _) | ((refine Below.trans ?_ (Below.mono (by with_reducible assumption) ?_)); rotate_left; (focus (first | omega | (simp; done) | (simp; omega)))))⟩
  have d8 : (i % 8 == 0) = true := by simp; omega
  by_cases c9 : h % 8 = 0
  case neg =>
    have d9 : (h % 8 == 0) = false := by simp; omega
    rw [if_neg (by omega)]
    go_enter Try.func13, Try.ntmps13
    go_wp2
    go_ret; exact ⟨rfl, by
      repeat (first | (with_reducible exact Below.refl _ _) | ((with_reducible refine Below.setCell ?_ ?_ _); rotate_left; (focus (first | omega | (simp; done) | (simp; omega)))) | ((with_reducible refine Below.alloc ?_ ?_ _); rotate_left; (focus (first | omega | (simp; done) | (simp; omega)))) | (with_reducible refine Below.drew ?_) | (with_reducible refine below_drewN' ?_ _) | ((refine Below.trans ?_ (Below.mono (by with_reducible assumption) ?_)); rotate_left; (focus (first | omega | (simp; done) | (simp; omega)))))⟩
  have d9 : (h % 8 == 0) = true := by simp; omega
  rw [if_pos (by omega)]
  clear c8 c9
  go_enter Try.func13, Try.ntmps13
  go_wp2
  go_ret; exact ⟨rfl, by
    repeat (first | (with_reducible exact Below.refl _ _) | ((with_reducible refine Below.setCell ?_ ?_ _); rotate_left; (focus (first | omega | (simp; done) | (simp; omega)))) | ((with_reducible refine Below.alloc ?_ ?_ _); rotate_left; (focus (first | omega | (simp; done) | (simp; omega)))) | (with_reducible refine Below.drew ?_) | (with_reducible refine below_drewN' ?_ _) | ((refine Below.trans ?_ (Below.mono (by with_reducible assumption) ?_)); rotate_left; (focus (first | omega | (simp; done) | (simp; omega)))))⟩

theorem right_t (s t i h : Int) (w : World) (ok : okPlan s t i h) :
    Calls Try.prog 18 #[.agg #[.int .i64 s, .int .i64 t, .int .i64 i, .int .i64 h]] w fun x w' => x = .returned (.bool true) ∧ Below w.heap.size w w' := by
  have := right_any s t i h w
  rwa [if_pos ok] at this
theorem right_f (s t i h : Int) (w : World) (no : ¬ okPlan s t i h) :
    Calls Try.prog 18 #[.agg #[.int .i64 s, .int .i64 t, .int .i64 i, .int .i64 h]] w fun x w' => x = .returned (.bool false) ∧ Below w.heap.size w w' := by
  have := right_any s t i h w
  rwa [if_neg no] at this

theorem immortal_t (s t i h : Int) (w : World) (ok : Hid (okPlan s t i h)) (hs : 1 ≤ s ∧ s ≤ 8) :
    Calls Try.prog 16 #[.agg #[.int .i64 s, .int .i64 t, .int .i64 i, .int .i64 h]] w fun x w' => x = .returned (.tuple #[.agg #[.int .i64 (s * 64), .int .i64 i], .int .i64 0]) ∧ Below w.heap.size w w' := by
  go_enter Try.func16, Try.ntmps16
  go_wp2_with fail; refine (right_t _ _ _ _ _ ok.out).mono ?_; rintro e w1 ⟨rfl, hb1⟩; have hz1 := hb1.size; (repeat (first | rw [World.size_alloc] at hz1 | rw [World.size_setCell] at hz1 | rw [World.size_drew] at hz1)); have zl1_w_0 : w.heap.size < w1.heap.size := (by omega); have ac1_w_0 := fun o => hb1.cell (p := ⟨w.heap.size, o, none⟩) (by first | omega | (simp; done) | (simp; omega)); have af1_w_0 := fun o => hb1.frozen (p := ⟨w.heap.size, o, none⟩) (by first | omega | (simp; done) | (simp; omega)); have zl1_w_1 : w.heap.size + 1 < w1.heap.size := (by omega); have ac1_w_1 := fun o => hb1.cell (p := ⟨w.heap.size + 1, o, none⟩) (by first | omega | (simp; done) | (simp; omega)); have af1_w_1 := fun o => hb1.frozen (p := ⟨w.heap.size + 1, o, none⟩) (by first | omega | (simp; done) | (simp; omega))
  go_wp2_with fail
  refine bodyPost_ret (v := .tuple #[.agg #[.int .i64 (s * 64), .int .i64 i], .int .i64 0]) (by simp only [results, Try.results16]; go_simp) rfl ⟨rfl, ?_⟩
  repeat (first | (with_reducible exact Below.refl _ _) | ((with_reducible refine Below.setCell ?_ ?_ _); rotate_left; (focus (first | omega | (simp; done) | (simp; omega)))) | ((with_reducible refine Below.alloc ?_ ?_ _); rotate_left; (focus (first | omega | (simp; done) | (simp; omega)))) | (with_reducible refine Below.drew ?_) | (with_reducible refine below_drewN' ?_ _) | ((refine Below.trans ?_ (Below.mono (by with_reducible assumption) ?_)); rotate_left; (focus (first | omega | (simp; done) | (simp; omega)))))
theorem immortal_f (s t i h : Int) (w : World) (no : Hid (¬ okPlan s t i h)) :
    Calls Try.prog 16 #[.agg #[.int .i64 s, .int .i64 t, .int .i64 i, .int .i64 h]] w fun x w' => x = .returned (.tuple #[.agg #[.int .i64 0, .int .i64 0], .int .i64 1]) ∧ Below w.heap.size w w' := by
  go_enter Try.func16, Try.ntmps16
  go_wp2_with fail; refine (right_f _ _ _ _ _ no.out).mono ?_; rintro e w1 ⟨rfl, hb1⟩; have hz1 := hb1.size; (repeat (first | rw [World.size_alloc] at hz1 | rw [World.size_setCell] at hz1 | rw [World.size_drew] at hz1)); have zl1_w_0 : w.heap.size < w1.heap.size := (by omega); have ac1_w_0 := fun o => hb1.cell (p := ⟨w.heap.size, o, none⟩) (by first | omega | (simp; done) | (simp; omega)); have af1_w_0 := fun o => hb1.frozen (p := ⟨w.heap.size, o, none⟩) (by first | omega | (simp; done) | (simp; omega)); have zl1_w_1 : w.heap.size + 1 < w1.heap.size := (by omega); have ac1_w_1 := fun o => hb1.cell (p := ⟨w.heap.size + 1, o, none⟩) (by first | omega | (simp; done) | (simp; omega)); have af1_w_1 := fun o => hb1.frozen (p := ⟨w.heap.size + 1, o, none⟩) (by first | omega | (simp; done) | (simp; omega))
  go_wp2_with fail
  refine bodyPost_ret (v := .tuple #[.agg #[.int .i64 0, .int .i64 0], .int .i64 1]) (by simp only [results, Try.results16]; go_simp) rfl ⟨rfl, ?_⟩
  repeat (first | (with_reducible exact Below.refl _ _) | ((with_reducible refine Below.setCell ?_ ?_ _); rotate_left; (focus (first | omega | (simp; done) | (simp; omega)))) | ((with_reducible refine Below.alloc ?_ ?_ _); rotate_left; (focus (first | omega | (simp; done) | (simp; omega)))) | (with_reducible refine Below.drew ?_) | (with_reducible refine below_drewN' ?_ _) | ((refine Below.trans ?_ (Below.mono (by with_reducible assumption) ?_)); rotate_left; (focus (first | omega | (simp; done) | (simp; omega)))))

theorem heap_t (s t i h : Int) (w : World) (ok : Hid (okPlan s t i h)) (hs : 1 ≤ s ∧ s ≤ 8) (hi : 0 ≤ i ∧ i ≤ 2048) :
    Calls Try.prog 17 #[.agg #[.int .i64 s, .int .i64 t, .int .i64 i, .int .i64 h]] w fun x w' => x = .returned (.tuple #[.agg #[.int .i64 (s * 64 + i), .int .i64 h], .int .i64 0]) ∧ Below w.heap.size w w' := by
  go_enter Try.func17, Try.ntmps17
  go_wp2_with fail; refine (immortal_t _ _ _ _ _ ok hs).mono ?_; rintro e w1 ⟨rfl, hb1⟩; have hz1 := hb1.size; (repeat (first | rw [World.size_alloc] at hz1 | rw [World.size_setCell] at hz1 | rw [World.size_drew] at hz1)); have zl1_w_0 : w.heap.size < w1.heap.size := (by omega); have ac1_w_0 := fun o => hb1.cell (p := ⟨w.heap.size, o, none⟩) (by first | omega | (simp; done) | (simp; omega)); have af1_w_0 := fun o => hb1.frozen (p := ⟨w.heap.size, o, none⟩) (by first | omega | (simp; done) | (simp; omega)); have zl1_w_1 : w.heap.size + 1 < w1.heap.size := (by omega); have ac1_w_1 := fun o => hb1.cell (p := ⟨w.heap.size + 1, o, none⟩) (by first | omega | (simp; done) | (simp; omega)); have af1_w_1 := fun o => hb1.frozen (p := ⟨w.heap.size + 1, o, none⟩) (by first | omega | (simp; done) | (simp; omega))
  go_wp2_with fail
  refine bodyPost_ret (v := .tuple #[.agg #[.int .i64 (s * 64 + i), .int .i64 h], .int .i64 0]) (by simp only [results, Try.results17]; go_simp) rfl ⟨rfl, ?_⟩
  repeat (first | (with_reducible exact Below.refl _ _) | ((with_reducible refine Below.setCell ?_ ?_ _); rotate_left; (focus (first | omega | (simp; done) | (simp; omega)))) | ((with_reducible refine Below.alloc ?_ ?_ _); rotate_left; (focus (first | omega | (simp; done) | (simp; omega)))) | (with_reducible refine Below.drew ?_) | (with_reducible refine below_drewN' ?_ _) | ((refine Below.trans ?_ (Below.mono (by with_reducible assumption) ?_)); rotate_left; (focus (first | omega | (simp; done) | (simp; omega)))))
theorem heap_f (s t i h : Int) (w : World) (no : Hid (¬ okPlan s t i h)) :
    Calls Try.prog 17 #[.agg #[.int .i64 s, .int .i64 t, .int .i64 i, .int .i64 h]] w fun x w' => x = .returned (.tuple #[.agg #[.int .i64 0, .int .i64 0], .int .i64 1]) ∧ Below w.heap.size w w' := by
  go_enter Try.func17, Try.ntmps17
  go_wp2_with fail; refine (immortal_f _ _ _ _ _ no).mono ?_; rintro e w1 ⟨rfl, hb1⟩; have hz1 := hb1.size; (repeat (first | rw [World.size_alloc] at hz1 | rw [World.size_setCell] at hz1 | rw [World.size_drew] at hz1)); have zl1_w_0 : w.heap.size < w1.heap.size := (by omega); have ac1_w_0 := fun o => hb1.cell (p := ⟨w.heap.size, o, none⟩) (by first | omega | (simp; done) | (simp; omega)); have af1_w_0 := fun o => hb1.frozen (p := ⟨w.heap.size, o, none⟩) (by first | omega | (simp; done) | (simp; omega)); have zl1_w_1 : w.heap.size + 1 < w1.heap.size := (by omega); have ac1_w_1 := fun o => hb1.cell (p := ⟨w.heap.size + 1, o, none⟩) (by first | omega | (simp; done) | (simp; omega)); have af1_w_1 := fun o => hb1.frozen (p := ⟨w.heap.size + 1, o, none⟩) (by first | omega | (simp; done) | (simp; omega))
  go_wp2_with fail
  refine bodyPost_ret (v := .tuple #[.agg #[.int .i64 0, .int .i64 0], .int .i64 1]) (by simp only [results, Try.results17]; go_simp) rfl ⟨rfl, ?_⟩
  repeat (first | (with_reducible exact Below.refl _ _) | ((with_reducible refine Below.setCell ?_ ?_ _); rotate_left; (focus (first | omega | (simp; done) | (simp; omega)))) | ((with_reducible refine Below.alloc ?_ ?_ _); rotate_left; (focus (first | omega | (simp; done) | (simp; omega)))) | (with_reducible refine Below.drew ?_) | (with_reducible refine below_drewN' ?_ _) | ((refine Below.trans ?_ (Below.mono (by with_reducible assumption) ?_)); rotate_left; (focus (first | omega | (simp; done) | (simp; omega)))))

theorem size_t (s t i h : Int) (w : World) (ok : Hid (okPlan s t i h)) (hs : 1 ≤ s ∧ s ≤ 8) (hi : 0 ≤ i ∧ i ≤ 2048) (hh : 0 ≤ h ∧ h ≤ 8192) :
    Calls Try.prog 14 #[.agg #[.int .i64 s, .int .i64 t, .int .i64 i, .int .i64 h]] w fun x w' => x = .returned (.tuple #[.int .i64 (s * 64 + i + h), .int .i64 0]) ∧ Below w.heap.size w w' := by
  go_enter Try.func14, Try.ntmps14
  go_wp2_with fail; refine (heap_t _ _ _ _ _ ok hs hi).mono ?_; rintro e w1 ⟨rfl, hb1⟩; have hz1 := hb1.size; (repeat (first | rw [World.size_alloc] at hz1 | rw [World.size_setCell] at hz1 | rw [World.size_drew] at hz1)); have zl1_w_0 : w.heap.size < w1.heap.size := (by omega); have ac1_w_0 := fun o => hb1.cell (p := ⟨w.heap.size, o, none⟩) (by first | omega | (simp; done) | (simp; omega)); have af1_w_0 := fun o => hb1.frozen (p := ⟨w.heap.size, o, none⟩) (by first | omega | (simp; done) | (simp; omega))
  go_wp2_with fail
  go_ret2; refine ⟨rfl, ?_⟩
  repeat (first | (with_reducible exact Below.refl _ _) | ((with_reducible refine Below.setCell ?_ ?_ _); rotate_left; (focus (first | omega | (simp; done) | (simp; omega)))) | ((with_reducible refine Below.alloc ?_ ?_ _); rotate_left; (focus (first | omega | (simp; done) | (simp; omega)))) | (with_reducible refine Below.drew ?_) | (with_reducible refine below_drewN' ?_ _) | ((refine Below.trans ?_ (Below.mono (by with_reducible assumption) ?_)); rotate_left; (focus (first | omega | (simp; done) | (simp; omega)))))
theorem size_f (s t i h : Int) (w : World) (no : Hid (¬ okPlan s t i h)) :
    Calls Try.prog 14 #[.agg #[.int .i64 s, .int .i64 t, .int .i64 i, .int .i64 h]] w fun x w' => x = .returned (.tuple #[.int .i64 0, .int .i64 1]) ∧ Below w.heap.size w w' := by
  go_enter Try.func14, Try.ntmps14
  go_wp2_with fail; refine (heap_f _ _ _ _ _ no).mono ?_; rintro e w1 ⟨rfl, hb1⟩; have hz1 := hb1.size; (repeat (first | rw [World.size_alloc] at hz1 | rw [World.size_setCell] at hz1 | rw [World.size_drew] at hz1)); have zl1_w_0 : w.heap.size < w1.heap.size := (by omega); have ac1_w_0 := fun o => hb1.cell (p := ⟨w.heap.size, o, none⟩) (by first | omega | (simp; done) | (simp; omega)); have af1_w_0 := fun o => hb1.frozen (p := ⟨w.heap.size, o, none⟩) (by first | omega | (simp; done) | (simp; omega))
  go_wp2_with fail
  go_ret2; refine ⟨rfl, ?_⟩
  repeat (first | (with_reducible exact Below.refl _ _) | ((with_reducible refine Below.setCell ?_ ?_ _); rotate_left; (focus (first | omega | (simp; done) | (simp; omega)))) | ((with_reducible refine Below.alloc ?_ ?_ _); rotate_left; (focus (first | omega | (simp; done) | (simp; omega)))) | (with_reducible refine Below.drew ?_) | (with_reducible refine below_drewN' ?_ _) | ((refine Below.trans ?_ (Below.mono (by with_reducible assumption) ?_)); rotate_left; (focus (first | omega | (simp; done) | (simp; omega)))))

theorem at_f (s t i h p k : Int) (w : World) (no : Hid (¬ okPlan s t i h)) :
    Calls Try.prog 15 #[.agg #[.int .i64 s, .int .i64 t, .int .i64 i, .int .i64 h], .int .i64 p, .int .i64 k] w fun x w' => x = .returned (.tuple #[.int .i64 0, .int .i64 1]) ∧ Below w.heap.size w w' := by
  go_enter Try.func15, Try.ntmps15
  go_wp2_with fail; refine (right_f _ _ _ _ _ no.out).mono ?_; rintro e w1 ⟨rfl, hb1⟩; have hz1 := hb1.size; (repeat (first | rw [World.size_alloc] at hz1 | rw [World.size_setCell] at hz1 | rw [World.size_drew] at hz1)); have zl1_w_0 : w.heap.size < w1.heap.size := (by omega); have ac1_w_0 := fun o => hb1.cell (p := ⟨w.heap.size, o, none⟩) (by first | omega | (simp; done) | (simp; omega)); have af1_w_0 := fun o => hb1.frozen (p := ⟨w.heap.size, o, none⟩) (by first | omega | (simp; done) | (simp; omega))
  go_wp2_with fail
  go_ret2; refine ⟨rfl, ?_⟩
  repeat (first | (with_reducible exact Below.refl _ _) | ((with_reducible refine Below.setCell ?_ ?_ _); rotate_left; (focus (first | omega | (simp; done) | (simp; omega)))) | ((with_reducible refine Below.alloc ?_ ?_ _); rotate_left; (focus (first | omega | (simp; done) | (simp; omega)))) | (with_reducible refine Below.drew ?_) | (with_reducible refine below_drewN' ?_ _) | ((refine Below.trans ?_ (Below.mono (by with_reducible assumption) ?_)); rotate_left; (focus (first | omega | (simp; done) | (simp; omega)))))
theorem at_p (s t i h p k : Int) (w : World) (ok : Hid (okPlan s t i h)) (hp : p < 0 ∨ 4 < p) :
    Calls Try.prog 15 #[.agg #[.int .i64 s, .int .i64 t, .int .i64 i, .int .i64 h], .int .i64 p, .int .i64 k] w fun x w' => x = .returned (.tuple #[.int .i64 0, .int .i64 1]) ∧ Below w.heap.size w w' := by
  go_enter Try.func15, Try.ntmps15
  go_wp2_with fail; refine (right_t _ _ _ _ _ ok.out).mono ?_; rintro e w1 ⟨rfl, hb1⟩; have hz1 := hb1.size; (repeat (first | rw [World.size_alloc] at hz1 | rw [World.size_setCell] at hz1 | rw [World.size_drew] at hz1)); have zl1_w_0 : w.heap.size < w1.heap.size := (by omega); have ac1_w_0 := fun o => hb1.cell (p := ⟨w.heap.size, o, none⟩) (by first | omega | (simp; done) | (simp; omega)); have af1_w_0 := fun o => hb1.frozen (p := ⟨w.heap.size, o, none⟩) (by first | omega | (simp; done) | (simp; omega))
  go_wp2_with (first | (go_at_call 37; refine (within_t _ _ _ _ (by omega) (by omega)).mono ?_; rintro e w' ⟨rfl, rfl⟩) | (go_at_call 37; refine (within_f _ _ _ _ (by omega)).mono ?_; rintro e w' ⟨rfl, rfl⟩))
  go_ret2; refine ⟨rfl, ?_⟩
  repeat (first | (with_reducible exact Below.refl _ _) | ((with_reducible refine Below.setCell ?_ ?_ _); rotate_left; (focus (first | omega | (simp; done) | (simp; omega)))) | ((with_reducible refine Below.alloc ?_ ?_ _); rotate_left; (focus (first | omega | (simp; done) | (simp; omega)))) | (with_reducible refine Below.drew ?_) | (with_reducible refine below_drewN' ?_ _) | ((refine Below.trans ?_ (Below.mono (by with_reducible assumption) ?_)); rotate_left; (focus (first | omega | (simp; done) | (simp; omega)))))
theorem at_k (s t i h p k : Int) (w : World) (ok : Hid (okPlan s t i h)) (hs : 1 ≤ s ∧ s ≤ 8) (hp : 0 ≤ p ∧ p ≤ 4) (hk : k < 0 ∨ s ≤ k) :
    Calls Try.prog 15 #[.agg #[.int .i64 s, .int .i64 t, .int .i64 i, .int .i64 h], .int .i64 p, .int .i64 k] w fun x w' => x = .returned (.tuple #[.int .i64 0, .int .i64 2]) ∧ Below w.heap.size w w' := by
  go_enter Try.func15, Try.ntmps15
  go_wp2_with fail; refine (right_t _ _ _ _ _ ok.out).mono ?_; rintro e w1 ⟨rfl, hb1⟩; have hz1 := hb1.size; (repeat (first | rw [World.size_alloc] at hz1 | rw [World.size_setCell] at hz1 | rw [World.size_drew] at hz1)); have zl1_w_0 : w.heap.size < w1.heap.size := (by omega); have ac1_w_0 := fun o => hb1.cell (p := ⟨w.heap.size, o, none⟩) (by first | omega | (simp; done) | (simp; omega)); have af1_w_0 := fun o => hb1.frozen (p := ⟨w.heap.size, o, none⟩) (by first | omega | (simp; done) | (simp; omega))
  go_wp2_with (first | (go_at_call 37; refine (within_t _ _ _ _ (by omega) (by omega)).mono ?_; rintro e w' ⟨rfl, rfl⟩) | (go_at_call 37; refine (within_f _ _ _ _ (by omega)).mono ?_; rintro e w' ⟨rfl, rfl⟩))
  go_ret2; refine ⟨rfl, ?_⟩
  repeat (first | (with_reducible exact Below.refl _ _) | ((with_reducible refine Below.setCell ?_ ?_ _); rotate_left; (focus (first | omega | (simp; done) | (simp; omega)))) | ((with_reducible refine Below.alloc ?_ ?_ _); rotate_left; (focus (first | omega | (simp; done) | (simp; omega)))) | (with_reducible refine Below.drew ?_) | (with_reducible refine below_drewN' ?_ _) | ((refine Below.trans ?_ (Below.mono (by with_reducible assumption) ?_)); rotate_left; (focus (first | omega | (simp; done) | (simp; omega)))))
theorem at_t (s t i h p k : Int) (w : World) (ok : Hid (okPlan s t i h)) (hs : 1 ≤ s ∧ s ≤ 8) (hp : 0 ≤ p ∧ p ≤ 4) (hk : 0 ≤ k ∧ k < s) :
    Calls Try.prog 15 #[.agg #[.int .i64 s, .int .i64 t, .int .i64 i, .int .i64 h], .int .i64 p, .int .i64 k] w fun x w' => x = .returned (.tuple #[.int .i64 (k * 64 + p * 8), .int .i64 0]) ∧ Below w.heap.size w w' := by
  go_enter Try.func15, Try.ntmps15
  go_wp2_with fail; refine (right_t _ _ _ _ _ ok.out).mono ?_; rintro e w1 ⟨rfl, hb1⟩; have hz1 := hb1.size; (repeat (first | rw [World.size_alloc] at hz1 | rw [World.size_setCell] at hz1 | rw [World.size_drew] at hz1)); have zl1_w_0 : w.heap.size < w1.heap.size := (by omega); have ac1_w_0 := fun o => hb1.cell (p := ⟨w.heap.size, o, none⟩) (by first | omega | (simp; done) | (simp; omega)); have af1_w_0 := fun o => hb1.frozen (p := ⟨w.heap.size, o, none⟩) (by first | omega | (simp; done) | (simp; omega))
  go_wp2_with (first | (go_at_call 37; refine (within_t _ _ _ _ (by omega) (by omega)).mono ?_; rintro e w' ⟨rfl, rfl⟩) | (go_at_call 37; refine (within_f _ _ _ _ (by omega)).mono ?_; rintro e w' ⟨rfl, rfl⟩))
  go_ret2; refine ⟨rfl, ?_⟩
  repeat (first | (with_reducible exact Below.refl _ _) | ((with_reducible refine Below.setCell ?_ ?_ _); rotate_left; (focus (first | omega | (simp; done) | (simp; omega)))) | ((with_reducible refine Below.alloc ?_ ?_ _); rotate_left; (focus (first | omega | (simp; done) | (simp; omega)))) | (with_reducible refine Below.drew ?_) | (with_reducible refine below_drewN' ?_ _) | ((refine Below.trans ?_ (Below.mono (by with_reducible assumption) ?_)); rotate_left; (focus (first | omega | (simp; done) | (simp; omega)))))

theorem rsize_t (s t i h : Int) (w : World) (hs : 1 ≤ s ∧ s ≤ 8) (hi : 0 ≤ i ∧ i ≤ 2048) (hh : 0 ≤ h ∧ h ≤ 8192) :
    Calls Try.prog 20 #[.agg #[.int .i64 s, .int .i64 t, .int .i64 i, .int .i64 h]] w fun x w' => x = .returned (.int .i64 (s * 64 + i + h)) ∧ Below w.heap.size w w' := by
  go_enter Try.func20, Try.ntmps20
  go_wp2_with fail
  go_ret; refine ⟨ret_i (by omega), ?_⟩
  repeat (first | (with_reducible exact Below.refl _ _) | ((with_reducible refine Below.setCell ?_ ?_ _); rotate_left; (focus (first | omega | (simp; done) | (simp; omega)))) | ((with_reducible refine Below.alloc ?_ ?_ _); rotate_left; (focus (first | omega | (simp; done) | (simp; omega)))) | (with_reducible refine Below.drew ?_) | (with_reducible refine below_drewN' ?_ _) | ((refine Below.trans ?_ (Below.mono (by with_reducible assumption) ?_)); rotate_left; (focus (first | omega | (simp; done) | (simp; omega)))))
theorem rimmortal_t (s t i h : Int) (w : World) (hs : 1 ≤ s ∧ s ≤ 8) :
    Calls Try.prog 21 #[.agg #[.int .i64 s, .int .i64 t, .int .i64 i, .int .i64 h]] w fun x w' => x = .returned (.agg #[.int .i64 (64 * s), .int .i64 i]) ∧ Below w.heap.size w w' := by
  go_enter Try.func21, Try.ntmps21
  go_wp2_with fail
  refine bodyPost_ret (v := .agg #[.int .i64 (64 * s), .int .i64 i]) (by simp only [results, Try.results21]; go_simp) rfl ⟨rfl, ?_⟩
  repeat (first | (with_reducible exact Below.refl _ _) | ((with_reducible refine Below.setCell ?_ ?_ _); rotate_left; (focus (first | omega | (simp; done) | (simp; omega)))) | ((with_reducible refine Below.alloc ?_ ?_ _); rotate_left; (focus (first | omega | (simp; done) | (simp; omega)))) | (with_reducible refine Below.drew ?_) | (with_reducible refine below_drewN' ?_ _) | ((refine Below.trans ?_ (Below.mono (by with_reducible assumption) ?_)); rotate_left; (focus (first | omega | (simp; done) | (simp; omega)))))
theorem rheap_t (s t i h : Int) (w : World) (hs : 1 ≤ s ∧ s ≤ 8) (hi : 0 ≤ i ∧ i ≤ 2048) :
    Calls Try.prog 22 #[.agg #[.int .i64 s, .int .i64 t, .int .i64 i, .int .i64 h]] w fun x w' => x = .returned (.agg #[.int .i64 (64 * s + i), .int .i64 h]) ∧ Below w.heap.size w w' := by
  go_enter Try.func22, Try.ntmps22
  go_wp2_with fail
  refine bodyPost_ret (v := .agg #[.int .i64 (64 * s + i), .int .i64 h]) (by simp only [results, Try.results22]; go_simp) rfl ⟨rfl, ?_⟩
  repeat (first | (with_reducible exact Below.refl _ _) | ((with_reducible refine Below.setCell ?_ ?_ _); rotate_left; (focus (first | omega | (simp; done) | (simp; omega)))) | ((with_reducible refine Below.alloc ?_ ?_ _); rotate_left; (focus (first | omega | (simp; done) | (simp; omega)))) | (with_reducible refine Below.drew ?_) | (with_reducible refine below_drewN' ?_ _) | ((refine Below.trans ?_ (Below.mono (by with_reducible assumption) ?_)); rotate_left; (focus (first | omega | (simp; done) | (simp; omega)))))
theorem rat_t (p k : Int) (w : World) (hp : 0 ≤ p ∧ p ≤ 4) (hk : 0 ≤ k ∧ k < 8) :
    Calls Try.prog 19 #[.int .i64 p, .int .i64 k] w fun x w' => x = .returned (.int .i64 (k * 64 + p * 8)) ∧ Below w.heap.size w w' := by
  go_enter Try.func19, Try.ntmps19
  go_wp2_with fail
  go_ret; refine ⟨ret_i (by omega), ?_⟩
  repeat (first | (with_reducible exact Below.refl _ _) | ((with_reducible refine Below.setCell ?_ ?_ _); rotate_left; (focus (first | omega | (simp; done) | (simp; omega)))) | ((with_reducible refine Below.alloc ?_ ?_ _); rotate_left; (focus (first | omega | (simp; done) | (simp; omega)))) | (with_reducible refine Below.drew ?_) | (with_reducible refine below_drewN' ?_ _) | ((refine Below.trans ?_ (Below.mono (by with_reducible assumption) ?_)); rotate_left; (focus (first | omega | (simp; done) | (simp; omega)))))
/-- A plan that may be. -/
theorem fit05_k (s t i h : Int) (w : World) :
    Calls Try.prog 23 #[.agg #[.int .i64 s, .int .i64 t, .int .i64 i, .int .i64 h]] w fun x w' => ∃ s1 t1 i1 h1 : Int, x = .returned (.agg #[.int .i64 s1, .int .i64 t1, .int .i64 (8 * i1), .int .i64 (8 * h1)]) ∧ (1 ≤ s1 ∧ s1 ≤ 8) ∧ (1 ≤ t1 ∧ t1 ≤ 4) ∧ (0 ≤ i1 ∧ i1 ≤ 63) ∧ (0 ≤ h1 ∧ h1 ≤ 127) ∧ Below w.heap.size w w' := by
  have b1 := i64_and7 s
  have b2 := i64_and3 t
  have b3 := i64_and63 i
  have b4 := i64_and127' h
  have key : Calls Try.prog 23 #[.agg #[.int .i64 s, .int .i64 t, .int .i64 i, .int .i64 h]] w fun x w' => x = .returned (.agg #[.int .i64 (1 + s % 8), .int .i64 (1 + t % 4), .int .i64 (8 * (i % 64)), .int .i64 (8 * (h % 128))]) ∧ Below w.heap.size w w' := by
    go_enter Try.func23, Try.ntmps23
    go_wp2_with fail
    refine bodyPost_ret (v := .agg #[.int .i64 (1 + s % 8), .int .i64 (1 + t % 4), .int .i64 (8 * (i % 64)), .int .i64 (8 * (h % 128))]) (by simp only [results, Try.results23]; go_simp) rfl ⟨rfl, ?_⟩
    repeat (first | (with_reducible exact Below.refl _ _) | ((with_reducible refine Below.setCell ?_ ?_ _); rotate_left; (focus (first | omega | (simp; done) | (simp; omega)))) | ((with_reducible refine Below.alloc ?_ ?_ _); rotate_left; (focus (first | omega | (simp; done) | (simp; omega)))) | (with_reducible refine Below.drew ?_) | (with_reducible refine below_drewN' ?_ _) | ((refine Below.trans ?_ (Below.mono (by with_reducible assumption) ?_)); rotate_left; (focus (first | omega | (simp; done) | (simp; omega)))))
  exact key.mono fun _ _ g => ⟨_, _, _, _, g.1, by omega, by omega, by omega, by omega, g.2⟩
theorem ok_fit (s t i h : Int) (hs : 1 ≤ s ∧ s ≤ 8) (ht : 1 ≤ t ∧ t ≤ 4) (hi : 0 ≤ i ∧ i ≤ 256) (hh : 0 ≤ h ∧ h ≤ 1024) : Hid (okPlan s t (8 * i) (8 * h)) := ⟨hs, ht, by omega, by omega, by omega, by omega⟩

theorem shown05 (w : World) : Calls Try.prog 12 #[] w fun e w' => e = .returned (.bool true) ∧ Below w.heap.size w w' := by
  have ok : Hid (okPlan 2 1 16 64) := by unfold Hid okPlan; decide
  go_enter Try.func12, Try.ntmps12
  go_wp2_with fail; refine (size_t _ _ _ _ _ ok (by omega) (by omega) (by omega)).mono ?_; rintro e w1 ⟨rfl, hb1⟩; have hz1 := hb1.size; (repeat (first | rw [World.size_alloc] at hz1 | rw [World.size_setCell] at hz1 | rw [World.size_drew] at hz1)); have zl1_w_0 : w.heap.size < w1.heap.size := (by omega); have ac1_w_0 := fun o => hb1.cell (p := ⟨w.heap.size, o, none⟩) (by first | omega | (simp; done) | (simp; omega)); have af1_w_0 := fun o => hb1.frozen (p := ⟨w.heap.size, o, none⟩) (by first | omega | (simp; done) | (simp; omega))
  go_wp2_with fail; refine (at_t _ _ _ _ _ _ _ ok (by omega) (by omega) (by omega)).mono ?_; rintro e w2 ⟨rfl, hb2⟩; have hz2 := hb2.size; (repeat (first | rw [World.size_alloc] at hz2 | rw [World.size_setCell] at hz2 | rw [World.size_drew] at hz2)); have zl2_w_0 : w.heap.size < w2.heap.size := (by omega); have ac2_w_0 := fun o => hb2.cell (p := ⟨w.heap.size, o, none⟩) (by first | omega | (simp; done) | (simp; omega)); have af2_w_0 := fun o => hb2.frozen (p := ⟨w.heap.size, o, none⟩) (by first | omega | (simp; done) | (simp; omega))
  go_wp2_with fail; refine (heap_t _ _ _ _ _ ok (by omega) (by omega)).mono ?_; rintro e w3 ⟨rfl, hb3⟩; have hz3 := hb3.size; (repeat (first | rw [World.size_alloc] at hz3 | rw [World.size_setCell] at hz3 | rw [World.size_drew] at hz3)); have zl3_w_0 : w.heap.size < w3.heap.size := (by omega); have ac3_w_0 := fun o => hb3.cell (p := ⟨w.heap.size, o, none⟩) (by first | omega | (simp; done) | (simp; omega)); have af3_w_0 := fun o => hb3.frozen (p := ⟨w.heap.size, o, none⟩) (by first | omega | (simp; done) | (simp; omega))
  go_wp2_with fail
  go_ret; refine ⟨ret_b (by simp), ?_⟩
  repeat (first | (with_reducible exact Below.refl _ _) | ((with_reducible refine Below.setCell ?_ ?_ _); rotate_left; (focus (first | omega | (simp; done) | (simp; omega)))) | ((with_reducible refine Below.alloc ?_ ?_ _); rotate_left; (focus (first | omega | (simp; done) | (simp; omega)))) | (with_reducible refine Below.drew ?_) | (with_reducible refine below_drewN' ?_ _) | ((refine Below.trans ?_ (Below.mono (by with_reducible assumption) ?_)); rotate_left; (focus (first | omega | (simp; done) | (simp; omega)))))

end Go.Proofs.Ytnknkdcpdimpnaa
