/- Contracts of ref.Unpack, of the references' Unpack and Fit, and of the examples of layer 6. -/
import Derived.Test.YticbdnckhbijiaaRef
namespace Go.Proofs.Yticbdnckhbijiaa
set_option linter.unusedVariables false
open Go.RowKit

theorem bcell {W w1 : World} (hb : Below W.heap.size W w1) : (∀ b o, b < W.heap.size → w1.cell? ⟨b, o, none⟩ = W.cell? ⟨b, o, none⟩) ∧ (∀ b o, b < W.heap.size → w1.frozen? ⟨b, o, none⟩ = W.frozen? ⟨b, o, none⟩) :=
  ⟨fun b o h => hb.cell (p := ⟨b, o, none⟩) h, fun b o h => hb.frozen (p := ⟨b, o, none⟩) h⟩

/-- What a number would be a handle of. -/
abbrev uS (h : Int) : Int := h / 16777216 % 256
abbrev uE (h : Int) : Int := h / 4294967296
abbrev uA (h : Int) : Int := h % 16777216 * 8
theorem pack_unpack (h : Int) (hh : inU h) (ok : okRef (uS h) (uE h) (uA h)) : nPack (uS h) (uE h) (uA h) = (h, 0) := by
  unfold nPack
  rw [if_pos ok]
  unfold okRef uS uE uA at *
  exact congrArg (·, 0) (by omega)

theorem unpack_ok (h : Int) (w : World) (hh : inU h) (ok : okRef (uS h) (uE h) (uA h)) :
    Calls Try.prog 17 #[.int .u64 h] w fun x w' => x = .returned (.tuple #[.agg #[.int .i64 (uS h), .int .i64 (uE h), .int .i64 (uA h)], .int .i64 0]) ∧ Below w.heap.size w w' := by
  have b1 := u64_andAt h hh
  have b2 := u64_and255 (h / 16777216) (by omega)
  have hp := pack_unpack h hh ok
  unfold uS uE uA okRef at *
  obtain ⟨o1, o2, o3, o4, o5, o6, o7⟩ := ok
  have p1 := Lib.hid (congrArg Prod.fst hp)
  have p2 := Lib.hid (congrArg Prod.snd hp)
  clear hp o7
  go_enter Try.func17, Try.ntmps17
  go_wp2_with fail
  refine (pack_any _ _ _ _ (by omega) (by omega) (by omega)).mono ?_
  rw [p1.out, p2.out]
  rintro e w1 ⟨rfl, hb⟩
  obtain ⟨hc, hf⟩ := bcell hb; have hz := hb.size; (try simp at hz)
  go_wp2_with fail
  have q0 : w1.cell? ⟨w.heap.size, 0, none⟩ = some (.int .i64 0) := (by rw [hc _ _ (by first | omega | (simp; done) | (simp; omega))]; simp [go_sem]); have q1 : w1.cell? ⟨w.heap.size, 1, none⟩ = some (.int .i64 0) := (by rw [hc _ _ (by first | omega | (simp; done) | (simp; omega))]; simp [go_sem]); have q2 : w1.cell? ⟨w.heap.size, 2, none⟩ = some (.int .i64 0) := (by rw [hc _ _ (by first | omega | (simp; done) | (simp; omega))]; simp [go_sem])
  refine bodyPost_ret (v := .tuple #[.agg #[.int .i64 (h / 16777216 % 256), .int .i64 (h / 4294967296), .int .i64 (h % 16777216 * 8)], .int .i64 0]) (by simp [results, Try.results17, go_sem, q0, q1, q2]) rfl ⟨rfl, ?_⟩
  repeat (first | exact Below.refl _ _ | (refine Below.setCell ?_ (by first | omega | (simp; done) | (simp; omega)) _) | (refine Below.alloc ?_ (by first | omega | (simp; done) | (simp; omega)) _) | (refine Below.drew ?_) | (refine Below.trans ?_ (Below.mono (by assumption) (by first | omega | (simp; done) | (simp; omega)))))

theorem unpack_no (h : Int) (w : World) (hh : inU h) (no : ¬ okRef (uS h) (uE h) (uA h)) :
    Calls Try.prog 17 #[.int .u64 h] w fun x w' => x = .returned (.tuple #[.agg #[.int .i64 0, .int .i64 0, .int .i64 0], .int .i64 18]) ∧ Below w.heap.size w w' := by
  have b1 := u64_andAt h hh
  have b2 := u64_and255 (h / 16777216) (by omega)
  unfold uS uE uA at *
  have H := Lib.hid no
  clear no
  go_enter Try.func17, Try.ntmps17
  go_wp2_with fail
  refine (pack_no _ _ _ _ (by omega) (by omega) (by omega) H.out).mono ?_
  rintro e w1 ⟨rfl, hb⟩
  obtain ⟨hc, hf⟩ := bcell hb; have hz := hb.size; (try simp at hz)
  go_wp2_with fail
  have q0 : w1.cell? ⟨w.heap.size, 0, none⟩ = some (.int .i64 0) := (by rw [hc _ _ (by first | omega | (simp; done) | (simp; omega))]; simp [go_sem]); have q1 : w1.cell? ⟨w.heap.size, 1, none⟩ = some (.int .i64 0) := (by rw [hc _ _ (by first | omega | (simp; done) | (simp; omega))]; simp [go_sem]); have q2 : w1.cell? ⟨w.heap.size, 2, none⟩ = some (.int .i64 0) := (by rw [hc _ _ (by first | omega | (simp; done) | (simp; omega))]; simp [go_sem])
  refine bodyPost_ret (v := .tuple #[.agg #[.int .i64 0, .int .i64 0, .int .i64 0], .int .i64 18]) (by simp [results, Try.results17, go_sem, q0, q1, q2]) rfl ⟨rfl, ?_⟩
  repeat (first | exact Below.refl _ _ | (refine Below.setCell ?_ (by first | omega | (simp; done) | (simp; omega)) _) | (refine Below.alloc ?_ (by first | omega | (simp; done) | (simp; omega)) _) | (refine Below.drew ?_) | (refine Below.trans ?_ (Below.mono (by assumption) (by first | omega | (simp; done) | (simp; omega)))))

theorem runpack_ok (h : Int) (w : World) (hh : inU h) (ok : okRef (uS h) (uE h) (uA h)) :
    Calls Try.prog 18 #[.int .u64 h] w fun x w' => x = .returned (.tuple #[.agg #[.int .i64 (uS h), .int .i64 (uE h), .int .i64 (uA h)], .int .i64 0]) ∧ Below w.heap.size w w' := by
  have hp := pack_unpack h hh ok
  unfold uS uE uA okRef at *
  rw [Int.mul_comm (h % 16777216) 8] at *
  obtain ⟨o1, o2, o3, o4, o5, o6, o7⟩ := ok
  have p1 := Lib.hid (congrArg Prod.fst hp)
  have p2 := Lib.hid (congrArg Prod.snd hp)
  clear hp o7
  go_enter Try.func18, Try.ntmps18
  go_wp2_with fail
  refine (rpack_any _ _ _ _ (by omega) (by omega) (by omega)).mono ?_
  rw [p1.out, p2.out]
  rintro e w1 ⟨rfl, hb⟩
  obtain ⟨hc, hf⟩ := bcell hb; have hz := hb.size; (try simp at hz)
  go_wp2_with fail
  have q0 : w1.cell? ⟨w.heap.size, 0, none⟩ = some (.int .i64 0) := (by rw [hc _ _ (by first | omega | (simp; done) | (simp; omega))]; simp [go_sem]); have q1 : w1.cell? ⟨w.heap.size, 1, none⟩ = some (.int .i64 0) := (by rw [hc _ _ (by first | omega | (simp; done) | (simp; omega))]; simp [go_sem]); have q2 : w1.cell? ⟨w.heap.size, 2, none⟩ = some (.int .i64 0) := (by rw [hc _ _ (by first | omega | (simp; done) | (simp; omega))]; simp [go_sem])
  refine bodyPost_ret (v := .tuple #[.agg #[.int .i64 (h / 16777216 % 256), .int .i64 (h / 4294967296), .int .i64 (8 * (h % 16777216))], .int .i64 0]) (by simp [results, Try.results18, go_sem, q0, q1, q2]) rfl ⟨rfl, ?_⟩
  repeat (first | exact Below.refl _ _ | (refine Below.setCell ?_ (by first | omega | (simp; done) | (simp; omega)) _) | (refine Below.alloc ?_ (by first | omega | (simp; done) | (simp; omega)) _) | (refine Below.drew ?_) | (refine Below.trans ?_ (Below.mono (by assumption) (by first | omega | (simp; done) | (simp; omega)))))

theorem rpack_no (s e a : Int) (w : World) (hs : inR s) (he : inR e) (ha : inR a) (h : ¬ okRef s e a) :
    Calls Try.prog 16 #[.agg #[.int .i64 s, .int .i64 e, .int .i64 a]] w fun x w' => x = .returned (.tuple #[.int .u64 0, .int .i64 1]) ∧ Below w.heap.size w w' := by
  have := rpack_any s e a w hs he ha
  unfold nPack at this
  rwa [if_neg h] at this

theorem runpack_no (h : Int) (w : World) (hh : inU h) (no : ¬ okRef (uS h) (uE h) (uA h)) :
    Calls Try.prog 18 #[.int .u64 h] w fun x w' => x = .returned (.tuple #[.agg #[.int .i64 0, .int .i64 0, .int .i64 0], .int .i64 18]) ∧ Below w.heap.size w w' := by
  unfold uS uE uA at *
  rw [Int.mul_comm (h % 16777216) 8] at *
  have H := Lib.hid no
  clear no
  by_cases hlt : 1152921504606846976 ≤ h
  · go_enter Try.func18, Try.ntmps18
    go_wp2_with fail
    refine bodyPost_ret (v := .tuple #[.agg #[.int .i64 0, .int .i64 0, .int .i64 0], .int .i64 18]) (by simp [results, Try.results18, go_sem]) rfl ⟨rfl, ?_⟩
    repeat (first | exact Below.refl _ _ | (refine Below.setCell ?_ (by first | omega | (simp; done) | (simp; omega)) _) | (refine Below.alloc ?_ (by first | omega | (simp; done) | (simp; omega)) _) | (refine Below.drew ?_) | (refine Below.trans ?_ (Below.mono (by assumption) (by first | omega | (simp; done) | (simp; omega)))))
  · go_enter Try.func18, Try.ntmps18
    go_wp2_with fail
    refine (rpack_no _ _ _ _ (by omega) (by omega) (by omega) H.out).mono ?_
    rintro e w1 ⟨rfl, hb⟩
    obtain ⟨hc, hf⟩ := bcell hb; have hz := hb.size; (try simp at hz)
    go_wp2_with fail
    have q0 : w1.cell? ⟨w.heap.size, 0, none⟩ = some (.int .i64 0) := (by rw [hc _ _ (by first | omega | (simp; done) | (simp; omega))]; simp [go_sem]); have q1 : w1.cell? ⟨w.heap.size, 1, none⟩ = some (.int .i64 0) := (by rw [hc _ _ (by first | omega | (simp; done) | (simp; omega))]; simp [go_sem]); have q2 : w1.cell? ⟨w.heap.size, 2, none⟩ = some (.int .i64 0) := (by rw [hc _ _ (by first | omega | (simp; done) | (simp; omega))]; simp [go_sem])
    refine bodyPost_ret (v := .tuple #[.agg #[.int .i64 0, .int .i64 0, .int .i64 0], .int .i64 18]) (by simp [results, Try.results18, go_sem, q0, q1, q2]) rfl ⟨rfl, ?_⟩
    repeat (first | exact Below.refl _ _ | (refine Below.setCell ?_ (by first | omega | (simp; done) | (simp; omega)) _) | (refine Below.alloc ?_ (by first | omega | (simp; done) | (simp; omega)) _) | (refine Below.drew ?_) | (refine Below.trans ?_ (Below.mono (by assumption) (by first | omega | (simp; done) | (simp; omega)))))

theorem fit06 (s e a : Int) (w : World) :
    Calls Try.prog 19 #[.agg #[.int .i64 s, .int .i64 e, .int .i64 a]] w fun x w' => x = .returned (.agg #[.int .i64 (s % 8), .int .i64 (e % 16777216), .int .i64 (8 * (1 + a % 8192 % 8191))]) ∧ Below w.heap.size w w' := by
  have b1 := i64_and7 s
  have b2 := i64_andEpoch e
  have b3 := i64_and8191 a
  go_enter Try.func19, Try.ntmps19
  go_wp2_with fail
  refine bodyPost_ret (v := .agg #[.int .i64 (s % 8), .int .i64 (e % 16777216), .int .i64 (8 * (1 + a % 8192 % 8191))]) (by simp [results, Try.results19, go_sem]) rfl ⟨rfl, ?_⟩
  repeat (first | exact Below.refl _ _ | (refine Below.setCell ?_ (by first | omega | (simp; done) | (simp; omega)) _) | (refine Below.alloc ?_ (by first | omega | (simp; done) | (simp; omega)) _) | (refine Below.drew ?_) | (refine Below.trans ?_ (Below.mono (by assumption) (by first | omega | (simp; done) | (simp; omega)))))

theorem fit06_k (s e a : Int) (w : World) :
    Calls Try.prog 19 #[.agg #[.int .i64 s, .int .i64 e, .int .i64 a]] w fun x w' => ∃ s1 e1 m1 : Int, x = .returned (.agg #[.int .i64 s1, .int .i64 e1, .int .i64 (8 * m1)]) ∧ (0 ≤ s1 ∧ s1 ≤ 7) ∧ (0 ≤ e1 ∧ e1 ≤ 16777215) ∧ (1 ≤ m1 ∧ m1 ≤ 8191) ∧ Below w.heap.size w w' :=
  (fit06 s e a w).mono fun _ _ h => ⟨_, _, _, h.1, by omega, by omega, by omega, h.2⟩
/-- A handle out of its parts; a number out of a handle's parts. -/
theorem pack_m (s e m : Int) (w : World) (h1 : 0 ≤ s ∧ s ≤ 7) (h2 : 0 ≤ e ∧ e ≤ 16777215) (h3 : 1 ≤ m ∧ m ≤ 8191) :
    Calls Try.prog 15 #[.agg #[.int .i64 s, .int .i64 e, .int .i64 (8 * m)]] w fun x w' => x = .returned (.tuple #[.int .u64 (m + 16777216 * s + 4294967296 * e), .int .i64 0]) ∧ Below w.heap.size w w' :=
  (pack_ok s e (8 * m) w (by unfold okRef; omega)).mono fun _ _ h => ⟨by rw [h.1]; exact ret_ii (by omega) rfl, h.2⟩
theorem unpack_m (s e m : Int) (w : World) (h1 : 0 ≤ s ∧ s ≤ 7) (h2 : 0 ≤ e ∧ e ≤ 16777215) (h3 : 1 ≤ m ∧ m ≤ 8191) :
    Calls Try.prog 17 #[.int .u64 (m + 16777216 * s + 4294967296 * e)] w fun x w' => x = .returned (.tuple #[.agg #[.int .i64 s, .int .i64 e, .int .i64 (8 * m)], .int .i64 0]) ∧ Below w.heap.size w w' := by
  have e1 : (m + 16777216 * s + 4294967296 * e) / 16777216 % 256 = s := by omega
  have e2 : (m + 16777216 * s + 4294967296 * e) / 4294967296 = e := by omega
  have e3 : (m + 16777216 * s + 4294967296 * e) % 16777216 * 8 = 8 * m := by omega
  have := unpack_ok (m + 16777216 * s + 4294967296 * e) w (by omega) (by unfold okRef uS uE uA; omega)
  unfold uS uE uA at this
  rwa [e1, e2, e3] at this
/-- A number that says something: its parts. -/
theorem unpack_k (h : Int) (w : World) (hh : inU h) (ok : okRef (uS h) (uE h) (uA h)) :
    Calls Try.prog 17 #[.int .u64 h] w fun x w' => ∃ s1 e1 m1 : Int, x = .returned (.tuple #[.agg #[.int .i64 s1, .int .i64 e1, .int .i64 (8 * m1)], .int .i64 0]) ∧ (0 ≤ s1 ∧ s1 ≤ 7) ∧ (0 ≤ e1 ∧ e1 ≤ 16777215) ∧ (1 ≤ m1 ∧ m1 ≤ 8191) ∧ (h ≤ m1 + 16777216 * s1 + 4294967296 * e1 ∧ m1 + 16777216 * s1 + 4294967296 * e1 ≤ h) ∧ Below w.heap.size w w' := by
  refine (unpack_ok h w hh ok).mono fun _ _ g => ⟨uS h, uE h, h % 16777216, by rw [g.1, Int.mul_comm 8], ?_, ?_, ?_, ?_, g.2⟩
  all_goals (unfold okRef uS uE uA at *; omega)

theorem pack_zero (w : World) :
    Calls Try.prog 15 #[.agg #[.int .i64 0, .int .i64 0, .int .i64 0]] w fun x w' => x = .returned (.tuple #[.int .u64 0, .int .i64 1]) ∧ Below w.heap.size w w' :=
  pack_no 0 0 0 w (by omega) (by omega) (by omega) (by decide)
theorem pack_no_m (s e a : Int) (w : World) (h1 : inR s) (h2 : inR e) (h3 : inR a) (h : 7 < s ∨ 16777215 < e ∨ 65528 < a) :
    Calls Try.prog 15 #[.agg #[.int .i64 s, .int .i64 e, .int .i64 a]] w fun x w' => x = .returned (.tuple #[.int .u64 0, .int .i64 1]) ∧ Below w.heap.size w w' :=
  pack_no s e a w h1 h2 h3 (by unfold okRef; omega)

theorem shown06 (w : World) : Calls Try.prog 14 #[] w fun e w' => e = .returned (.bool true) ∧ Below w.heap.size w w' := by
  go_enter Try.func14, Try.ntmps14
  go_wp2_with (first | (go_at_call 15; refine (pack_ok _ _ _ _ (by omega)).mono ?_; rintro e w1 ⟨rfl, hb1⟩; have z1 := hb1.size) | (go_at_call 17; refine (unpack_no _ _ (by omega) (by decide)).mono ?_; rintro e w2 ⟨rfl, hb2⟩; have z2 := hb2.size))
  go_ret; refine ⟨ret_b (by simp), ?_⟩
  repeat (first | exact Below.refl _ _ | (refine Below.setCell ?_ (by first | omega | (simp; done) | (simp; omega)) _) | (refine Below.alloc ?_ (by first | omega | (simp; done) | (simp; omega)) _) | (refine Below.drew ?_) | (refine Below.trans ?_ (Below.mono (by assumption) (by first | omega | (simp; done) | (simp; omega)))))

end Go.Proofs.Yticbdnckhbijiaa
