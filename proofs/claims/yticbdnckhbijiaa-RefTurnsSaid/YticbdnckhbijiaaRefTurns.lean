/- The walk of RefTurns: it returns true, and nothing that was there changes. -/
import Derived.Test.YticbdnckhbijiaaUnp
import Derived.Test.YticbdnckhbijiaaTurns
namespace Go.Proofs.Yticbdnckhbijiaa
set_option linter.unusedVariables false
open Go.RowKit

theorem unpack_bad (h : Int) (w : World) (hh : inU h) (no : h % 16777216 = 0 ∨ 8192 ≤ h % 16777216 ∨ 8 ≤ h / 16777216 % 256 ∨ 16777216 ≤ h / 4294967296) :
    Calls Try.prog 17 #[.int .u64 h] w fun x w' => x = .returned (.tuple #[.agg #[.int .i64 0, .int .i64 0, .int .i64 0], .int .i64 18]) ∧ Below w.heap.size w w' :=
  unpack_no h w hh (by unfold okRef uS uE uA; omega)

set_option maxHeartbeats 2000000 in
theorem walkRefTurns (s e a n : Int) (w : World) (hn : 0 ≤ n ∧ n ≤ 255) :
    Calls Try.prog 7 #[.agg #[.int .i64 s, .int .i64 e, .int .i64 a], .int .u8 n] w fun e w' => e = .returned (.bool true) ∧ Below w.heap.size w w' := by
  have b1 := i64_and63 n
  obtain ⟨k, hk⟩ : ∃ k : Int, k = n % 64 := ⟨_, rfl⟩
  rw [← hk] at b1
  have hk0 : 0 ≤ k ∧ k ≤ 63 := by omega
  clear hk
  go_enter Try.func7, Try.ntmps7
  go_wp2_with fail; refine (shown06 _).mono ?_; rintro e w1 ⟨rfl, hb1⟩; have hz1 := hb1.size; (repeat (first | rw [World.size_alloc] at hz1 | rw [World.size_setCell] at hz1 | rw [World.size_drew] at hz1)); have zl1_w_0 : w.heap.size < w1.heap.size := (by omega); have ac1_w_0 := fun o => hb1.cell (p := ⟨w.heap.size, o, none⟩) (by first | omega | (simp; done) | (simp; omega)); have af1_w_0 := fun o => hb1.frozen (p := ⟨w.heap.size, o, none⟩) (by first | omega | (simp; done) | (simp; omega))
  go_wp2_with fail; refine (fit06_k _ _ _ _).mono ?_; rintro e w2 ⟨s2, e2, m2, rfl, bs2, be2, bm2, hb2⟩; have hz2 := hb2.size; (repeat (first | rw [World.size_alloc] at hz2 | rw [World.size_setCell] at hz2 | rw [World.size_drew] at hz2)); have zl2_w_0 : w.heap.size < w2.heap.size := (by omega); have ac2_w_0 := fun o => hb2.cell (p := ⟨w.heap.size, o, none⟩) (by first | omega | (simp; done) | (simp; omega)); have af2_w_0 := fun o => hb2.frozen (p := ⟨w.heap.size, o, none⟩) (by first | omega | (simp; done) | (simp; omega))
  go_wp2_with fail; refine (pack_m _ _ _ _ bs2 be2 bm2).mono ?_; rintro e w3 ⟨rfl, hb3⟩; have hz3 := hb3.size; (repeat (first | rw [World.size_alloc] at hz3 | rw [World.size_setCell] at hz3 | rw [World.size_drew] at hz3)); have zl3_w2_0 : w2.heap.size < w3.heap.size := (by omega); have ac3_w2_0 := fun o => hb3.cell (p := ⟨w2.heap.size, o, none⟩) (by first | omega | (simp; done) | (simp; omega)); have af3_w2_0 := fun o => hb3.frozen (p := ⟨w2.heap.size, o, none⟩) (by first | omega | (simp; done) | (simp; omega))
  go_wp2_with fail
  obtain ⟨v, p, hv, hp, hu, hc⟩ := turns s2 e2 m2 k bs2 be2 bm2 hk0
  rw [hv, hp]
  clear hv
  rcases hc with ⟨h1, m', hv', hm', hne, hz⟩ | ⟨h1, h2, h3⟩ | ⟨h1, h2, s', hv', hs', hne⟩ | ⟨h1, h2, h3⟩ | ⟨h1, h2, e', hv', he', hne⟩ | ⟨h1, h2⟩
  · subst hv'
    by_cases hm0 : m' = 0
    · have hpm := hz.1 hm0
      subst hm0
      clear hz
      subst hpm
      go_wp2_with fail; refine (unpack_bad _ _ hu (by omega)).mono ?_; rintro e w4 ⟨rfl, hb4⟩; have hz4 := hb4.size; (repeat (first | rw [World.size_alloc] at hz4 | rw [World.size_setCell] at hz4 | rw [World.size_drew] at hz4)); have zl4_w2_0 : w2.heap.size < w4.heap.size := (by omega); have ac4_w2_0 := fun o => hb4.cell (p := ⟨w2.heap.size, o, none⟩) (by first | omega | (simp; done) | (simp; omega)); have af4_w2_0 := fun o => hb4.frozen (p := ⟨w2.heap.size, o, none⟩) (by first | omega | (simp; done) | (simp; omega))
      go_wp2_with fail
      all_goals (go_ret; refine ⟨ret_b (by simp; try omega), ?_⟩)
      all_goals repeat (first | exact Below.refl _ _ | (refine Below.setCell ?_ (by first | omega | (simp; done) | (simp; omega)) _) | (refine Below.alloc ?_ (by first | omega | (simp; done) | (simp; omega)) _) | (refine Below.drew ?_) | (refine Below.trans ?_ (Below.mono (by assumption) (by first | omega | (simp; done) | (simp; omega)))))
    · have hm1 : 1 ≤ m' := by omega
      clear hz hm0
      go_wp2_with fail; refine (unpack_m _ _ _ _ bs2 be2 (by omega)).mono ?_; rintro e w4 ⟨rfl, hb4⟩; have hz4 := hb4.size; (repeat (first | rw [World.size_alloc] at hz4 | rw [World.size_setCell] at hz4 | rw [World.size_drew] at hz4)); have zl4_w2_0 : w2.heap.size < w4.heap.size := (by omega); have ac4_w2_0 := fun o => hb4.cell (p := ⟨w2.heap.size, o, none⟩) (by first | omega | (simp; done) | (simp; omega)); have af4_w2_0 := fun o => hb4.frozen (p := ⟨w2.heap.size, o, none⟩) (by first | omega | (simp; done) | (simp; omega))
      go_wp2_with fail
      all_goals (go_ret; refine ⟨ret_b (by simp; try omega), ?_⟩)
      all_goals repeat (first | exact Below.refl _ _ | (refine Below.setCell ?_ (by first | omega | (simp; done) | (simp; omega)) _) | (refine Below.alloc ?_ (by first | omega | (simp; done) | (simp; omega)) _) | (refine Below.drew ?_) | (refine Below.trans ?_ (Below.mono (by assumption) (by first | omega | (simp; done) | (simp; omega)))))
  · go_wp2_with fail; refine (unpack_bad _ _ hu (by omega)).mono ?_; rintro e w4 ⟨rfl, hb4⟩; have hz4 := hb4.size; (repeat (first | rw [World.size_alloc] at hz4 | rw [World.size_setCell] at hz4 | rw [World.size_drew] at hz4)); have zl4_w2_0 : w2.heap.size < w4.heap.size := (by omega); have ac4_w2_0 := fun o => hb4.cell (p := ⟨w2.heap.size, o, none⟩) (by first | omega | (simp; done) | (simp; omega)); have af4_w2_0 := fun o => hb4.frozen (p := ⟨w2.heap.size, o, none⟩) (by first | omega | (simp; done) | (simp; omega))
    go_wp2_with fail
    all_goals (go_ret; refine ⟨ret_b (by simp; try omega), ?_⟩)
    all_goals repeat (first | exact Below.refl _ _ | (refine Below.setCell ?_ (by first | omega | (simp; done) | (simp; omega)) _) | (refine Below.alloc ?_ (by first | omega | (simp; done) | (simp; omega)) _) | (refine Below.drew ?_) | (refine Below.trans ?_ (Below.mono (by assumption) (by first | omega | (simp; done) | (simp; omega)))))
  · subst hv'
    go_wp2_with fail; refine (unpack_m _ _ _ _ hs' be2 bm2).mono ?_; rintro e w4 ⟨rfl, hb4⟩; have hz4 := hb4.size; (repeat (first | rw [World.size_alloc] at hz4 | rw [World.size_setCell] at hz4 | rw [World.size_drew] at hz4)); have zl4_w2_0 : w2.heap.size < w4.heap.size := (by omega); have ac4_w2_0 := fun o => hb4.cell (p := ⟨w2.heap.size, o, none⟩) (by first | omega | (simp; done) | (simp; omega)); have af4_w2_0 := fun o => hb4.frozen (p := ⟨w2.heap.size, o, none⟩) (by first | omega | (simp; done) | (simp; omega))
    go_wp2_with fail
    all_goals (go_ret; refine ⟨ret_b (by simp; try omega), ?_⟩)
    all_goals repeat (first | exact Below.refl _ _ | (refine Below.setCell ?_ (by first | omega | (simp; done) | (simp; omega)) _) | (refine Below.alloc ?_ (by first | omega | (simp; done) | (simp; omega)) _) | (refine Below.drew ?_) | (refine Below.trans ?_ (Below.mono (by assumption) (by first | omega | (simp; done) | (simp; omega)))))
  · go_wp2_with fail; refine (unpack_bad _ _ hu (by omega)).mono ?_; rintro e w4 ⟨rfl, hb4⟩; have hz4 := hb4.size; (repeat (first | rw [World.size_alloc] at hz4 | rw [World.size_setCell] at hz4 | rw [World.size_drew] at hz4)); have zl4_w2_0 : w2.heap.size < w4.heap.size := (by omega); have ac4_w2_0 := fun o => hb4.cell (p := ⟨w2.heap.size, o, none⟩) (by first | omega | (simp; done) | (simp; omega)); have af4_w2_0 := fun o => hb4.frozen (p := ⟨w2.heap.size, o, none⟩) (by first | omega | (simp; done) | (simp; omega))
    go_wp2_with fail
    all_goals (go_ret; refine ⟨ret_b (by simp; try omega), ?_⟩)
    all_goals repeat (first | exact Below.refl _ _ | (refine Below.setCell ?_ (by first | omega | (simp; done) | (simp; omega)) _) | (refine Below.alloc ?_ (by first | omega | (simp; done) | (simp; omega)) _) | (refine Below.drew ?_) | (refine Below.trans ?_ (Below.mono (by assumption) (by first | omega | (simp; done) | (simp; omega)))))
  · subst hv'
    go_wp2_with fail; refine (unpack_m _ _ _ _ bs2 he' bm2).mono ?_; rintro e w4 ⟨rfl, hb4⟩; have hz4 := hb4.size; (repeat (first | rw [World.size_alloc] at hz4 | rw [World.size_setCell] at hz4 | rw [World.size_drew] at hz4)); have zl4_w2_0 : w2.heap.size < w4.heap.size := (by omega); have ac4_w2_0 := fun o => hb4.cell (p := ⟨w2.heap.size, o, none⟩) (by first | omega | (simp; done) | (simp; omega)); have af4_w2_0 := fun o => hb4.frozen (p := ⟨w2.heap.size, o, none⟩) (by first | omega | (simp; done) | (simp; omega))
    go_wp2_with fail
    all_goals (go_ret; refine ⟨ret_b (by simp; try omega), ?_⟩)
    all_goals repeat (first | exact Below.refl _ _ | (refine Below.setCell ?_ (by first | omega | (simp; done) | (simp; omega)) _) | (refine Below.alloc ?_ (by first | omega | (simp; done) | (simp; omega)) _) | (refine Below.drew ?_) | (refine Below.trans ?_ (Below.mono (by assumption) (by first | omega | (simp; done) | (simp; omega)))))
  · go_wp2_with fail; refine (unpack_bad _ _ hu (by omega)).mono ?_; rintro e w4 ⟨rfl, hb4⟩; have hz4 := hb4.size; (repeat (first | rw [World.size_alloc] at hz4 | rw [World.size_setCell] at hz4 | rw [World.size_drew] at hz4)); have zl4_w2_0 : w2.heap.size < w4.heap.size := (by omega); have ac4_w2_0 := fun o => hb4.cell (p := ⟨w2.heap.size, o, none⟩) (by first | omega | (simp; done) | (simp; omega)); have af4_w2_0 := fun o => hb4.frozen (p := ⟨w2.heap.size, o, none⟩) (by first | omega | (simp; done) | (simp; omega))
    go_wp2_with fail
    all_goals (go_ret; refine ⟨ret_b (by simp; try omega), ?_⟩)
    all_goals repeat (first | exact Below.refl _ _ | (refine Below.setCell ?_ (by first | omega | (simp; done) | (simp; omega)) _) | (refine Below.alloc ?_ (by first | omega | (simp; done) | (simp; omega)) _) | (refine Below.drew ?_) | (refine Below.trans ?_ (Below.mono (by assumption) (by first | omega | (simp; done) | (simp; omega)))))

end Go.Proofs.Yticbdnckhbijiaa
