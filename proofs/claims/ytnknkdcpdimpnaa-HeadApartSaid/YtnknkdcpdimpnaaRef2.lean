/- Contracts of the references of layer 6, as layer 7 uses them. -/
import Derived.Test.YtnknkdcpdimpnaaPlan
import Derived.Test.YtnknkdcpdimpnaaSmall
namespace Go.Proofs.Ytnknkdcpdimpnaa
set_option linter.unusedVariables false
open Go.RowKit

/-- What a Ref may be. -/
abbrev okRef (s e a : Int) : Prop := 0 ≤ s ∧ s ≤ 7 ∧ 0 ≤ e ∧ e ≤ 16777215 ∧ 8 ≤ a ∧ a ≤ 65528 ∧ a % 8 = 0

def nPack (s e a : Int) : Int × Int := if okRef s e a then (a / 8 + 16777216 * s + 4294967296 * e, 0) else (0, 1)
theorem rpack_any (s e a : Int) (w : World) (hs : inR s) (he : inR e) (ha : inR a) :
    Calls Try.prog 34 #[.agg #[.int .i64 s, .int .i64 e, .int .i64 a]] w fun x w' => x = .returned (.tuple #[.int .u64 (nPack s e a).1, .int .i64 (nPack s e a).2]) ∧ Below w.heap.size w w' := by
  unfold nPack
  by_cases c0 : s < 0
  · have d0 : decide (s < 0) = true := by simpa using c0
    rw [if_neg (by omega)]
    go_enter Try.func34, Try.ntmps34
    go_wp2
    go_ret2; exact ⟨rfl, (Below.refl _ _).alloc (Nat.le_refl _) _⟩
  have d0 : decide (s < 0) = false := by simpa using c0
  by_cases c1 : 8 ≤ s
  · have d1 : decide (8 ≤ s) = true := by simpa using c1
    rw [if_neg (by omega)]
    go_enter Try.func34, Try.ntmps34
    go_wp2
    go_ret2; exact ⟨rfl, (Below.refl _ _).alloc (Nat.le_refl _) _⟩
  have d1 : decide (8 ≤ s) = false := by simpa using c1
  by_cases c2 : e < 0
  · have d2 : decide (e < 0) = true := by simpa using c2
    rw [if_neg (by omega)]
    go_enter Try.func34, Try.ntmps34
    go_wp2
    go_ret2; exact ⟨rfl, (Below.refl _ _).alloc (Nat.le_refl _) _⟩
  have d2 : decide (e < 0) = false := by simpa using c2
  by_cases c3 : 16777215 < e
  · have d3 : decide (16777215 < e) = true := by simpa using c3
    rw [if_neg (by omega)]
    go_enter Try.func34, Try.ntmps34
    go_wp2
    go_ret2; exact ⟨rfl, (Below.refl _ _).alloc (Nat.le_refl _) _⟩
  have d3 : decide (16777215 < e) = false := by simpa using c3
  by_cases c4 : a < 8
  · have d4 : decide (a < 8) = true := by simpa using c4
    rw [if_neg (by omega)]
    go_enter Try.func34, Try.ntmps34
    go_wp2
    go_ret2; exact ⟨rfl, (Below.refl _ _).alloc (Nat.le_refl _) _⟩
  have d4 : decide (a < 8) = false := by simpa using c4
  by_cases c5 : 65528 < a
  · have d5 : decide (65528 < a) = true := by simpa using c5
    rw [if_neg (by omega)]
    go_enter Try.func34, Try.ntmps34
    go_wp2
    go_ret2; exact ⟨rfl, (Below.refl _ _).alloc (Nat.le_refl _) _⟩
  have d5 : decide (65528 < a) = false := by simpa using c5
  by_cases h4 : a % 8 = 0
  · have hm : (a % 8 != 0) = false := by simpa using h4
    rw [if_pos (by omega)]
    clear h4
    go_enter Try.func34, Try.ntmps34
    go_wp2
    go_ret2; exact ⟨ret_ii (by omega) rfl, (Below.refl _ _).alloc (Nat.le_refl _) _⟩
  · have hm : (a % 8 != 0) = true := by simpa using h4
    rw [if_neg (by omega)]
    clear h4
    go_enter Try.func34, Try.ntmps34
    go_wp2
    go_ret2; exact ⟨rfl, (Below.refl _ _).alloc (Nat.le_refl _) _⟩

/-- What a number would be a handle of. -/
abbrev uS (h : Int) : Int := h / 16777216 % 256
abbrev uE (h : Int) : Int := h / 4294967296
abbrev uA (h : Int) : Int := h % 16777216 * 8
theorem pack_unpack (h : Int) (hh : inU h) (ok : okRef (uS h) (uE h) (uA h)) : nPack (uS h) (uE h) (uA h) = (h, 0) := by
  unfold nPack
  rw [if_pos ok]
  unfold okRef uS uE uA at *
  exact congrArg (·, 0) (by omega)

theorem runpack_ok (h : Int) (w : World) (hh : inU h) (ok : okRef (uS h) (uE h) (uA h)) :
    Calls Try.prog 36 #[.int .u64 h] w fun x w' => x = .returned (.tuple #[.agg #[.int .i64 (uS h), .int .i64 (uE h), .int .i64 (uA h)], .int .i64 0]) ∧ Below w.heap.size w w' := by
  have hp := pack_unpack h hh ok
  unfold uS uE uA okRef at *
  rw [Int.mul_comm (h % 16777216) 8] at *
  obtain ⟨o1, o2, o3, o4, o5, o6, o7⟩ := ok
  have p1 := Lib.hid (congrArg Prod.fst hp)
  have p2 := Lib.hid (congrArg Prod.snd hp)
  clear hp o7
  go_enter Try.func36, Try.ntmps36
  go_wp2_with fail
  refine (rpack_any _ _ _ _ (by omega) (by omega) (by omega)).mono ?_
  rw [p1.out, p2.out]
  rintro e w1 ⟨rfl, hb⟩
  obtain ⟨hc, hf⟩ := bcell hb; have hz := hb.size; (try simp at hz)
  go_wp2_with fail
  have q0 : w1.cell? ⟨w.heap.size, 0, none⟩ = some (.int .i64 0) := (by rw [hc _ _ (by first | omega | (simp; done) | (simp; omega))]; simp [go_sem]); have q1 : w1.cell? ⟨w.heap.size, 1, none⟩ = some (.int .i64 0) := (by rw [hc _ _ (by first | omega | (simp; done) | (simp; omega))]; simp [go_sem]); have q2 : w1.cell? ⟨w.heap.size, 2, none⟩ = some (.int .i64 0) := (by rw [hc _ _ (by first | omega | (simp; done) | (simp; omega))]; simp [go_sem])
  refine bodyPost_ret (v := .tuple #[.agg #[.int .i64 (h / 16777216 % 256), .int .i64 (h / 4294967296), .int .i64 (8 * (h % 16777216))], .int .i64 0]) (by simp [results, Try.results36, go_sem, q0, q1, q2]) rfl ⟨rfl, ?_⟩
  repeat (first | (with_reducible exact Below.refl _ _) | ((with_reducible refine Below.setCell ?_ ?_ _); rotate_left; (focus (first | omega | (simp; done) | (simp; omega)))) | ((with_reducible refine Below.alloc ?_ ?_ _); rotate_left; (focus (first | omega | (simp; done) | (simp; omega)))) | (with_reducible refine Below.drew ?_) | (with_reducible refine below_drewN' ?_ _) | ((refine Below.trans ?_ (Below.mono (by with_reducible assumption) ?_)); rotate_left; (focus (first | omega | (simp; done) | (simp; omega)))))

theorem rpack_no (s e a : Int) (w : World) (hs : inR s) (he : inR e) (ha : inR a) (h : ¬ okRef s e a) :
    Calls Try.prog 34 #[.agg #[.int .i64 s, .int .i64 e, .int .i64 a]] w fun x w' => x = .returned (.tuple #[.int .u64 0, .int .i64 1]) ∧ Below w.heap.size w w' := by
  have := rpack_any s e a w hs he ha
  unfold nPack at this
  rwa [if_neg h] at this

theorem runpack_no (h : Int) (w : World) (hh : inU h) (no : ¬ okRef (uS h) (uE h) (uA h)) :
    Calls Try.prog 36 #[.int .u64 h] w fun x w' => x = .returned (.tuple #[.agg #[.int .i64 0, .int .i64 0, .int .i64 0], .int .i64 18]) ∧ Below w.heap.size w w' := by
  unfold uS uE uA at *
  rw [Int.mul_comm (h % 16777216) 8] at *
  have H := Lib.hid no
  clear no
  by_cases hlt : 1152921504606846976 ≤ h
  · go_enter Try.func36, Try.ntmps36
    go_wp2_with fail
    refine bodyPost_ret (v := .tuple #[.agg #[.int .i64 0, .int .i64 0, .int .i64 0], .int .i64 18]) (by simp [results, Try.results36, go_sem]) rfl ⟨rfl, ?_⟩
    repeat (first | (with_reducible exact Below.refl _ _) | ((with_reducible refine Below.setCell ?_ ?_ _); rotate_left; (focus (first | omega | (simp; done) | (simp; omega)))) | ((with_reducible refine Below.alloc ?_ ?_ _); rotate_left; (focus (first | omega | (simp; done) | (simp; omega)))) | (with_reducible refine Below.drew ?_) | (with_reducible refine below_drewN' ?_ _) | ((refine Below.trans ?_ (Below.mono (by with_reducible assumption) ?_)); rotate_left; (focus (first | omega | (simp; done) | (simp; omega)))))
  · go_enter Try.func36, Try.ntmps36
    go_wp2_with fail
    refine (rpack_no _ _ _ _ (by omega) (by omega) (by omega) H.out).mono ?_
    rintro e w1 ⟨rfl, hb⟩
    obtain ⟨hc, hf⟩ := bcell hb; have hz := hb.size; (try simp at hz)
    go_wp2_with fail
    have q0 : w1.cell? ⟨w.heap.size, 0, none⟩ = some (.int .i64 0) := (by rw [hc _ _ (by first | omega | (simp; done) | (simp; omega))]; simp [go_sem]); have q1 : w1.cell? ⟨w.heap.size, 1, none⟩ = some (.int .i64 0) := (by rw [hc _ _ (by first | omega | (simp; done) | (simp; omega))]; simp [go_sem]); have q2 : w1.cell? ⟨w.heap.size, 2, none⟩ = some (.int .i64 0) := (by rw [hc _ _ (by first | omega | (simp; done) | (simp; omega))]; simp [go_sem])
    refine bodyPost_ret (v := .tuple #[.agg #[.int .i64 0, .int .i64 0, .int .i64 0], .int .i64 18]) (by simp [results, Try.results36, go_sem, q0, q1, q2]) rfl ⟨rfl, ?_⟩
    repeat (first | (with_reducible exact Below.refl _ _) | ((with_reducible refine Below.setCell ?_ ?_ _); rotate_left; (focus (first | omega | (simp; done) | (simp; omega)))) | ((with_reducible refine Below.alloc ?_ ?_ _); rotate_left; (focus (first | omega | (simp; done) | (simp; omega)))) | (with_reducible refine Below.drew ?_) | (with_reducible refine below_drewN' ?_ _) | ((refine Below.trans ?_ (Below.mono (by with_reducible assumption) ?_)); rotate_left; (focus (first | omega | (simp; done) | (simp; omega)))))

theorem fit06 (s e a : Int) (w : World) :
    Calls Try.prog 35 #[.agg #[.int .i64 s, .int .i64 e, .int .i64 a]] w fun x w' => x = .returned (.agg #[.int .i64 (s % 8), .int .i64 (e % 16777216), .int .i64 (8 * (1 + a % 8192 % 8191))]) ∧ Below w.heap.size w w' := by
  have b1 := i64_and7 s
  have b2 := i64_andEpoch e
  have b3 := i64_and8191 a
  go_enter Try.func35, Try.ntmps35
  go_wp2_with fail
  refine bodyPost_ret (v := .agg #[.int .i64 (s % 8), .int .i64 (e % 16777216), .int .i64 (8 * (1 + a % 8192 % 8191))]) (by simp [results, Try.results35, go_sem]) rfl ⟨rfl, ?_⟩
  repeat (first | (with_reducible exact Below.refl _ _) | ((with_reducible refine Below.setCell ?_ ?_ _); rotate_left; (focus (first | omega | (simp; done) | (simp; omega)))) | ((with_reducible refine Below.alloc ?_ ?_ _); rotate_left; (focus (first | omega | (simp; done) | (simp; omega)))) | (with_reducible refine Below.drew ?_) | (with_reducible refine below_drewN' ?_ _) | ((refine Below.trans ?_ (Below.mono (by with_reducible assumption) ?_)); rotate_left; (focus (first | omega | (simp; done) | (simp; omega)))))

theorem fit06_k (s e a : Int) (w : World) :
    Calls Try.prog 35 #[.agg #[.int .i64 s, .int .i64 e, .int .i64 a]] w fun x w' => ∃ s1 e1 m1 : Int, x = .returned (.agg #[.int .i64 s1, .int .i64 e1, .int .i64 (8 * m1)]) ∧ (0 ≤ s1 ∧ s1 ≤ 7) ∧ (0 ≤ e1 ∧ e1 ≤ 16777215) ∧ (1 ≤ m1 ∧ m1 ≤ 8191) ∧ Below w.heap.size w w' :=
  (fit06 s e a w).mono fun _ _ h => ⟨_, _, _, h.1, by omega, by omega, by omega, h.2⟩
theorem rpack_m (s e m : Int) (w : World) (h1 : 0 ≤ s ∧ s ≤ 7) (h2 : 0 ≤ e ∧ e ≤ 16777215) (h3 : 1 ≤ m ∧ m ≤ 8191) :
    Calls Try.prog 34 #[.agg #[.int .i64 s, .int .i64 e, .int .i64 (8 * m)]] w fun x w' => x = .returned (.tuple #[.int .u64 (m + 16777216 * s + 4294967296 * e), .int .i64 0]) ∧ Below w.heap.size w w' := by
  have := rpack_any s e (8 * m) w (by omega) (by omega) (by omega)
  unfold nPack at this
  rw [if_pos (by unfold okRef; omega)] at this
  exact this.mono fun _ _ h => ⟨by rw [h.1]; exact ret_ii (by omega) rfl, h.2⟩
end Go.Proofs.Ytnknkdcpdimpnaa
