/- Contracts of head.Unpack and of the reference's Unpack. -/
import Derived.Test.YtahkplakdbbmmaaHeadPack
namespace Go.Proofs.Ytahkplakdbbmmaa
set_option linter.unusedVariables false
open Go.RowKit

theorem hpart (x at' : Int) (w : World) (hx : inU x) (p : Int) (h0 : 0 ≤ at') (h1 : at' ≤ 48) (hp : x / 2 ^ at'.toNat = p) (hu : inU p) :
    Calls Try.prog 56 #[.int .u64 x, .int .i64 at'] w fun e w' => e = .returned (.int .i64 (p % 256)) ∧ w = w' := by
  have b := u64_and255 p hu
  go_enter Try.func56, Try.ntmps56
  go_wp2_with fail
  go_ret; exact ⟨rfl, rfl⟩
theorem hpart0 (x : Int) (w : World) (hx : inU x) :
    Calls Try.prog 56 #[.int .u64 x, .int .i64 0] w fun e w' => e = .returned (.int .i64 (x % 256)) ∧ w = w' :=
  hpart x 0 w hx x (by omega) (by omega) (by simp) hx
theorem hpart32 (x : Int) (w : World) (hx : inU x) :
    Calls Try.prog 56 #[.int .u64 x, .int .i64 32] w fun e w' => e = .returned (.int .i64 (x / 4294967296 % 256)) ∧ w = w' :=
  hpart x 32 w hx _ (by omega) (by omega) (by simp) (by omega)
theorem hpart40 (x : Int) (w : World) (hx : inU x) :
    Calls Try.prog 56 #[.int .u64 x, .int .i64 40] w fun e w' => e = .returned (.int .i64 (x / 1099511627776 % 256)) ∧ w = w' :=
  hpart x 40 w hx _ (by omega) (by omega) (by simp) (by omega)
theorem hpart48 (x : Int) (w : World) (hx : inU x) :
    Calls Try.prog 56 #[.int .u64 x, .int .i64 48] w fun e w' => e = .returned (.int .i64 (x / 281474976710656 % 256)) ∧ w = w' :=
  hpart x 48 w hx _ (by omega) (by omega) (by simp) (by omega)

abbrev uZ (f : Int) : Int := f % 4294967296
abbrev uL (f : Int) : Int := f / 4294967296 % 256
abbrev uG (f : Int) : Int := f / 1099511627776 % 256
abbrev uD (f : Int) : Bool := f / 281474976710656 % 256 == 1
abbrev uS' (t : Int) : Int := t % 256
abbrev uE' (t : Int) : Int := t / 256
/-- Two words that are a head's. -/
abbrev okU (f t : Int) : Prop := okHead (uZ f) (uL f) (uG f) (uS' t) (uE' t) ∧ f / 72057594037927936 = 165 ∧ f / 281474976710656 % 256 ≤ 1

theorem bi_uD (f : Int) (hf : inU f) : (f / 281474976710656 % 256 ≤ 1 → bi (uD f) = f / 281474976710656 % 256) ∧ (1 < f / 281474976710656 % 256 → bi (uD f) = 0) := by
  unfold uD bi
  by_cases h : f / 281474976710656 % 256 = 1
  · rw [h]; simp
  · have hb : (f / 281474976710656 % 256 == 1) = false := by simpa using h
    rw [hb]
    have h9 := Lib.hid h
    clear h hb
    constructor
    · intro h1; have := h9.out; simp; omega
    · intro _; simp

/-- Packed again: the same words; or others. -/
theorem hpack_eq (f t : Int) (w : World) (hf : inU f) (ht : inU t) (ok : Hid (okU f t)) :
    Calls Try.prog 54 #[hAgg (uZ f) (uL f) (uG f) (uD f) (uS' t) (uE' t)] w fun x w' => x = .returned (.tuple #[.int .u64 f, .int .u64 t, .int .i64 0]) ∧ Below w.heap.size w w' := by
  obtain ⟨o1, o2, o3⟩ := ok.out
  have hb := (bi_uD f hf).1 o3
  refine (hpack_ok _ _ _ _ _ _ w o1).mono fun x w' g => ⟨?_, g.2⟩
  rw [g.1, hb]
  exact ret_iii (by unfold hF uZ uL uG; unfold inU at hf; omega) (by unfold uS' uE'; omega) rfl
theorem hpack_ne (f z l g : Int) (d : Bool) (s e : Int) (w : World) (ok : okHead z l g s e) (ne : hF z l g (bi d) ≠ f) :
    Calls Try.prog 54 #[hAgg z l g d s e] w fun x w' => ∃ F S : Int, x = .returned (.tuple #[.int .u64 F, .int .u64 S, .int .i64 0]) ∧ (F < f ∨ f < F) ∧ Below w.heap.size w w' :=
  (hpack_ok z l g d s e w ok).mono fun x w' g => ⟨_, _, g.1, by omega, g.2⟩
theorem hrpack_eq (f t : Int) (w : World) (hf : inU f) (ht : inU t) (ok : Hid (okU f t)) :
    Calls Try.prog 46 #[hAgg (uZ f) (uL f) (uG f) (uD f) (uS' t) (uE' t)] w fun x w' => x = .returned (.tuple #[.int .u64 f, .int .u64 t, .int .i64 0]) ∧ Below w.heap.size w w' := by
  obtain ⟨o1, o2, o3⟩ := ok.out
  have hb := (bi_uD f hf).1 o3
  refine (hrpack_ok _ _ _ _ _ _ w o1).mono fun x w' g => ⟨?_, g.2⟩
  rw [g.1, hb]
  exact ret_iii (by unfold hF uZ uL uG; unfold inU at hf; omega) (by unfold uS' uE'; omega) rfl
theorem hrpack_ne (f t z l g : Int) (d : Bool) (s e : Int) (w : World) (ok : okHead z l g s e) (ne : hF z l g (bi d) ≠ f ∨ s + 256 * e ≠ t) :
    Calls Try.prog 46 #[hAgg z l g d s e] w fun x w' => ∃ F S : Int, x = .returned (.tuple #[.int .u64 F, .int .u64 S, .int .i64 0]) ∧ (F ≠ f ∨ S ≠ t) ∧ Below w.heap.size w w' :=
  (hrpack_ok z l g d s e w ok).mono fun x w' g => ⟨_, _, g.1, ne, g.2⟩

theorem F_ne (f t : Int) (hf : inU f) (ok : okHead (uZ f) (uL f) (uG f) (uS' t) (uE' t)) (no : ¬ okU f t) : hF (uZ f) (uL f) (uG f) (bi (uD f)) ≠ f := by
  have hb := bi_uD f hf
  have hd := bi_bd (uD f)
  intro h
  apply no
  by_cases h1 : f / 281474976710656 % 256 ≤ 1
  · have := hb.1 h1
    refine ⟨ok, ?_, h1⟩
    unfold hF uZ uL uG at h
    omega
  · have := hb.2 (by omega)
    rw [this] at h
    unfold hF uZ uL uG at h
    omega

set_option maxHeartbeats 1000000 in
theorem hunpack_ok (f t : Int) (w : World) (hf : inU f) (ht : inU t) (ok : Hid (okU f t)) :
    Calls Try.prog 51 #[.int .u64 f, .int .u64 t] w fun x w' => x = .returned (.tuple #[hAgg (uZ f) (uL f) (uG f) (uD f) (uS' t) (uE' t), .int .i64 0]) ∧ Below w.heap.size w w' := by
  have b := u64_andSize f hf
  have key := fun w => hpack_eq f t w hf ht ok
  unfold hAgg uZ uL uG uD uS' uE' at *
  have K := Lib.hid key
  clear key
  go_enter Try.func51, Try.ntmps51
  go_wp2_with fail; refine (hpart32 _ _ hf).mono ?_; rintro e w' ⟨rfl, rfl⟩; go_wp2_with fail; refine (hpart40 _ _ hf).mono ?_; rintro e w' ⟨rfl, rfl⟩; go_wp2_with fail; refine (hpart48 _ _ hf).mono ?_; rintro e w' ⟨rfl, rfl⟩; go_wp2_with fail; refine (hpart0 _ _ ht).mono ?_; rintro e w' ⟨rfl, rfl⟩
  go_wp2_with fail; refine (K.out _).mono ?_; rintro e w1 ⟨rfl, hb1⟩; have hz1 := hb1.size; (repeat (first | rw [World.size_alloc] at hz1 | rw [World.size_setCell] at hz1 | rw [World.size_drew] at hz1)); have zl1_w_0 : w.heap.size < w1.heap.size := (by omega); have ac1_w_0 := fun o => hb1.cell (p := ⟨w.heap.size, o, none⟩) (by first | omega | (simp; done) | (simp; omega)); have af1_w_0 := fun o => hb1.frozen (p := ⟨w.heap.size, o, none⟩) (by first | omega | (simp; done) | (simp; omega)); have zl1_w_1 : w.heap.size + 1 < w1.heap.size := (by omega); have ac1_w_1 := fun o => hb1.cell (p := ⟨w.heap.size + 1, o, none⟩) (by first | omega | (simp; done) | (simp; omega)); have af1_w_1 := fun o => hb1.frozen (p := ⟨w.heap.size + 1, o, none⟩) (by first | omega | (simp; done) | (simp; omega))
  go_wp2_with fail
  refine ret_cell_tmp (g := w.heap.size) (t := 64) (fr := (0, 0)) (cs := #[.int .i64 (f % 4294967296), .int .i64 (f / 4294967296 % 256), .int .i64 (f / 1099511627776 % 256), .bool (f / 281474976710656 % 256 == 1), .int .i64 (t % 256), .int .i64 (t / 256)]) Try.results51 ?_ ?_ ?_ Try.underlying64 rfl ?_ ?_; (focus rfl); (focus rfl); (focus (apply Exists.intro; apply And.intro; (focus (repeat (first | (with_reducible exact heap_new _ _) | ((with_reducible apply heap_new'); (focus (first | (simp; done) | omega))) | (with_reducible apply heap_set) | ((with_reducible apply heap_old); (focus (first | omega | (simp; done) | (simp; omega)))) | ((with_reducible apply heap_below); (focus (with_reducible assumption)); (focus (first | omega | (simp; done) | (simp; omega)))) | ((with_reducible apply heap_set_far); (focus (first | omega | (simp; done) | (simp; omega))))))); (focus rfl))); (focus kernel_rfl)
  refine ⟨rfl, ?_⟩
  repeat (first | (with_reducible exact Below.refl _ _) | ((with_reducible refine Below.setCell ?_ ?_ _); rotate_left; (focus (first | omega | (simp; done) | (simp; omega)))) | ((with_reducible refine Below.alloc ?_ ?_ _); rotate_left; (focus (first | omega | (simp; done) | (simp; omega)))) | (with_reducible refine Below.drew ?_) | (with_reducible refine below_drewN' ?_ _) | ((refine Below.trans ?_ (Below.mono (by with_reducible assumption) ?_)); rotate_left; (focus (first | omega | (simp; done) | (simp; omega)))))

abbrev zHead : Value := .agg #[.int .i64 0, .int .i64 0, .int .i64 0, .bool false, .int .i64 0, .int .i64 0]
set_option maxHeartbeats 1000000 in
theorem hunpack_no (f t : Int) (w : World) (hf : inU f) (ht : inU t) (no : Hid (¬ okU f t)) :
    Calls Try.prog 51 #[.int .u64 f, .int .u64 t] w fun x w' => x = .returned (.tuple #[zHead, .int .i64 18]) ∧ Below w.heap.size w w' := by
  have b := u64_andSize f hf
  by_cases oh : okHead (uZ f) (uL f) (uG f) (uS' t) (uE' t)
  · have key := fun w => hpack_ne f _ _ _ _ _ _ w oh (F_ne f t hf oh no.out)
    unfold zHead
    unfold hAgg uZ uL uG uD uS' uE' at key
    have K := Lib.hid key
    clear key oh
    go_enter Try.func51, Try.ntmps51
    go_wp2_with fail; refine (hpart32 _ _ hf).mono ?_; rintro e w' ⟨rfl, rfl⟩; go_wp2_with fail; refine (hpart40 _ _ hf).mono ?_; rintro e w' ⟨rfl, rfl⟩; go_wp2_with fail; refine (hpart48 _ _ hf).mono ?_; rintro e w' ⟨rfl, rfl⟩; go_wp2_with fail; refine (hpart0 _ _ ht).mono ?_; rintro e w' ⟨rfl, rfl⟩
    go_wp2_with fail; refine (K.out _).mono ?_; rintro e w1 ⟨F, S, rfl, hne, hb1⟩; have hz1 := hb1.size; (repeat (first | rw [World.size_alloc] at hz1 | rw [World.size_setCell] at hz1 | rw [World.size_drew] at hz1)); have zl1_w_0 : w.heap.size < w1.heap.size := (by omega); have ac1_w_0 := fun o => hb1.cell (p := ⟨w.heap.size, o, none⟩) (by first | omega | (simp; done) | (simp; omega)); have af1_w_0 := fun o => hb1.frozen (p := ⟨w.heap.size, o, none⟩) (by first | omega | (simp; done) | (simp; omega)); have zl1_w_1 : w.heap.size + 1 < w1.heap.size := (by omega); have ac1_w_1 := fun o => hb1.cell (p := ⟨w.heap.size + 1, o, none⟩) (by first | omega | (simp; done) | (simp; omega)); have af1_w_1 := fun o => hb1.frozen (p := ⟨w.heap.size + 1, o, none⟩) (by first | omega | (simp; done) | (simp; omega))
    go_wp2_with fail
    refine ret_cell_tmp (g := w.heap.size) (t := 64) (fr := (0, 0)) (cs := #[.int .i64 0, .int .i64 0, .int .i64 0, .bool false, .int .i64 0, .int .i64 0]) Try.results51 ?_ ?_ ?_ Try.underlying64 rfl ?_ ?_; (focus rfl); (focus rfl); (focus (apply Exists.intro; apply And.intro; (focus (repeat (first | (with_reducible exact heap_new _ _) | ((with_reducible apply heap_new'); (focus (first | (simp; done) | omega))) | (with_reducible apply heap_set) | ((with_reducible apply heap_old); (focus (first | omega | (simp; done) | (simp; omega)))) | ((with_reducible apply heap_below); (focus (with_reducible assumption)); (focus (first | omega | (simp; done) | (simp; omega)))) | ((with_reducible apply heap_set_far); (focus (first | omega | (simp; done) | (simp; omega))))))); (focus rfl))); (focus kernel_rfl)
    refine ⟨rfl, ?_⟩
    repeat (first | (with_reducible exact Below.refl _ _) | ((with_reducible refine Below.setCell ?_ ?_ _); rotate_left; (focus (first | omega | (simp; done) | (simp; omega)))) | ((with_reducible refine Below.alloc ?_ ?_ _); rotate_left; (focus (first | omega | (simp; done) | (simp; omega)))) | (with_reducible refine Below.drew ?_) | (with_reducible refine below_drewN' ?_ _) | ((refine Below.trans ?_ (Below.mono (by with_reducible assumption) ?_)); rotate_left; (focus (first | omega | (simp; done) | (simp; omega)))))
  · have key := fun w => hpack_no (uZ f) (uL f) (uG f) (uD f) (uS' t) (uE' t) w oh
    unfold zHead
    unfold hAgg uZ uL uG uD uS' uE' at key
    have K := Lib.hid key
    clear key oh
    go_enter Try.func51, Try.ntmps51
    go_wp2_with fail; refine (hpart32 _ _ hf).mono ?_; rintro e w' ⟨rfl, rfl⟩; go_wp2_with fail; refine (hpart40 _ _ hf).mono ?_; rintro e w' ⟨rfl, rfl⟩; go_wp2_with fail; refine (hpart48 _ _ hf).mono ?_; rintro e w' ⟨rfl, rfl⟩; go_wp2_with fail; refine (hpart0 _ _ ht).mono ?_; rintro e w' ⟨rfl, rfl⟩
    go_wp2_with fail; refine (K.out _).mono ?_; rintro e w1 ⟨rfl, hb1⟩; have hz1 := hb1.size; (repeat (first | rw [World.size_alloc] at hz1 | rw [World.size_setCell] at hz1 | rw [World.size_drew] at hz1)); have zl1_w_0 : w.heap.size < w1.heap.size := (by omega); have ac1_w_0 := fun o => hb1.cell (p := ⟨w.heap.size, o, none⟩) (by first | omega | (simp; done) | (simp; omega)); have af1_w_0 := fun o => hb1.frozen (p := ⟨w.heap.size, o, none⟩) (by first | omega | (simp; done) | (simp; omega)); have zl1_w_1 : w.heap.size + 1 < w1.heap.size := (by omega); have ac1_w_1 := fun o => hb1.cell (p := ⟨w.heap.size + 1, o, none⟩) (by first | omega | (simp; done) | (simp; omega)); have af1_w_1 := fun o => hb1.frozen (p := ⟨w.heap.size + 1, o, none⟩) (by first | omega | (simp; done) | (simp; omega))
    go_wp2_with fail
    refine ret_cell_tmp (g := w.heap.size) (t := 64) (fr := (0, 0)) (cs := #[.int .i64 0, .int .i64 0, .int .i64 0, .bool false, .int .i64 0, .int .i64 0]) Try.results51 ?_ ?_ ?_ Try.underlying64 rfl ?_ ?_; (focus rfl); (focus rfl); (focus (apply Exists.intro; apply And.intro; (focus (repeat (first | (with_reducible exact heap_new _ _) | ((with_reducible apply heap_new'); (focus (first | (simp; done) | omega))) | (with_reducible apply heap_set) | ((with_reducible apply heap_old); (focus (first | omega | (simp; done) | (simp; omega)))) | ((with_reducible apply heap_below); (focus (with_reducible assumption)); (focus (first | omega | (simp; done) | (simp; omega)))) | ((with_reducible apply heap_set_far); (focus (first | omega | (simp; done) | (simp; omega))))))); (focus rfl))); (focus kernel_rfl)
    refine ⟨rfl, ?_⟩
    repeat (first | (with_reducible exact Below.refl _ _) | ((with_reducible refine Below.setCell ?_ ?_ _); rotate_left; (focus (first | omega | (simp; done) | (simp; omega)))) | ((with_reducible refine Below.alloc ?_ ?_ _); rotate_left; (focus (first | omega | (simp; done) | (simp; omega)))) | (with_reducible refine Below.drew ?_) | (with_reducible refine below_drewN' ?_ _) | ((refine Below.trans ?_ (Below.mono (by with_reducible assumption) ?_)); rotate_left; (focus (first | omega | (simp; done) | (simp; omega)))))

set_option maxHeartbeats 1000000 in
theorem hrunpack_ok (f t : Int) (w : World) (hf : inU f) (ht : inU t) (ok : Hid (okU f t)) :
    Calls Try.prog 52 #[.int .u64 f, .int .u64 t] w fun x w' => x = .returned (.tuple #[hAgg (uZ f) (uL f) (uG f) (uD f) (uS' t) (uE' t), .int .i64 0]) ∧ Below w.heap.size w w' := by
  have hE : t / 256 % 16777216 = t / 256 := by have := ok.out.1.2.2.2.2; unfold uE' at this; omega
  have key := fun w => hrpack_eq f t w hf ht ok
  unfold hAgg uZ uL uG uD uS' uE' at *
  have K := Lib.hid key
  clear key
  go_enter Try.func52, Try.ntmps52
  go_wp2_with fail; refine (K.out _).mono ?_; rintro e w1 ⟨rfl, hb1⟩; have hz1 := hb1.size; (repeat (first | rw [World.size_alloc] at hz1 | rw [World.size_setCell] at hz1 | rw [World.size_drew] at hz1)); have zl1_w_0 : w.heap.size < w1.heap.size := (by omega); have ac1_w_0 := fun o => hb1.cell (p := ⟨w.heap.size, o, none⟩) (by first | omega | (simp; done) | (simp; omega)); have af1_w_0 := fun o => hb1.frozen (p := ⟨w.heap.size, o, none⟩) (by first | omega | (simp; done) | (simp; omega)); have zl1_w_1 : w.heap.size + 1 < w1.heap.size := (by omega); have ac1_w_1 := fun o => hb1.cell (p := ⟨w.heap.size + 1, o, none⟩) (by first | omega | (simp; done) | (simp; omega)); have af1_w_1 := fun o => hb1.frozen (p := ⟨w.heap.size + 1, o, none⟩) (by first | omega | (simp; done) | (simp; omega))
  go_wp2_with fail
  refine ret_cell_tmp (g := w.heap.size) (t := 64) (fr := (0, 0)) (cs := #[.int .i64 (f % 4294967296), .int .i64 (f / 4294967296 % 256), .int .i64 (f / 1099511627776 % 256), .bool (f / 281474976710656 % 256 == 1), .int .i64 (t % 256), .int .i64 (t / 256)]) Try.results52 ?_ ?_ ?_ Try.underlying64 rfl ?_ ?_; (focus rfl); (focus rfl); (focus (apply Exists.intro; apply And.intro; (focus (repeat (first | (with_reducible exact heap_new _ _) | ((with_reducible apply heap_new'); (focus (first | (simp; done) | omega))) | (with_reducible apply heap_set) | ((with_reducible apply heap_old); (focus (first | omega | (simp; done) | (simp; omega)))) | ((with_reducible apply heap_below); (focus (with_reducible assumption)); (focus (first | omega | (simp; done) | (simp; omega)))) | ((with_reducible apply heap_set_far); (focus (first | omega | (simp; done) | (simp; omega))))))); (focus rfl))); (focus kernel_rfl)
  refine ⟨rfl, ?_⟩
  repeat (first | (with_reducible exact Below.refl _ _) | ((with_reducible refine Below.setCell ?_ ?_ _); rotate_left; (focus (first | omega | (simp; done) | (simp; omega)))) | ((with_reducible refine Below.alloc ?_ ?_ _); rotate_left; (focus (first | omega | (simp; done) | (simp; omega)))) | (with_reducible refine Below.drew ?_) | (with_reducible refine below_drewN' ?_ _) | ((refine Below.trans ?_ (Below.mono (by with_reducible assumption) ?_)); rotate_left; (focus (first | omega | (simp; done) | (simp; omega)))))

set_option maxHeartbeats 1000000 in
theorem hrunpack_no (f t : Int) (w : World) (hf : inU f) (ht : inU t) (no : Hid (¬ okU f t)) :
    Calls Try.prog 52 #[.int .u64 f, .int .u64 t] w fun x w' => x = .returned (.tuple #[zHead, .int .i64 18]) ∧ Below w.heap.size w w' := by
  by_cases oh : okHead (uZ f) (uL f) (uG f) (uS' t) (t / 256 % 16777216)
  · have ne : hF (uZ f) (uL f) (uG f) (bi (uD f)) ≠ f ∨ uS' t + 256 * (t / 256 % 16777216) ≠ t := by
      by_cases h2 : t / 256 ≤ 16777215
      · left
        have e : t / 256 % 16777216 = t / 256 := by omega
        rw [e] at oh
        exact F_ne f t hf oh no.out
      · right; unfold uS'; omega
    have key := fun w => hrpack_ne f t _ _ _ _ _ _ w oh ne
    unfold zHead
    unfold hAgg uZ uL uG uD uS' at key
    have K := Lib.hid key
    clear key oh ne
    go_enter Try.func52, Try.ntmps52
    go_wp2_with fail; refine (K.out _).mono ?_; rintro e w1 ⟨F, S, rfl, hne, hb1⟩; have hz1 := hb1.size; (repeat (first | rw [World.size_alloc] at hz1 | rw [World.size_setCell] at hz1 | rw [World.size_drew] at hz1)); have zl1_w_0 : w.heap.size < w1.heap.size := (by omega); have ac1_w_0 := fun o => hb1.cell (p := ⟨w.heap.size, o, none⟩) (by first | omega | (simp; done) | (simp; omega)); have af1_w_0 := fun o => hb1.frozen (p := ⟨w.heap.size, o, none⟩) (by first | omega | (simp; done) | (simp; omega)); have zl1_w_1 : w.heap.size + 1 < w1.heap.size := (by omega); have ac1_w_1 := fun o => hb1.cell (p := ⟨w.heap.size + 1, o, none⟩) (by first | omega | (simp; done) | (simp; omega)); have af1_w_1 := fun o => hb1.frozen (p := ⟨w.heap.size + 1, o, none⟩) (by first | omega | (simp; done) | (simp; omega))
    by_cases hF1 : F = f
    · have hS : (S != t) = true := by rcases hne with h | h; exact absurd hF1 h; simpa using h
      have hF2 : (F != f) = false := by simpa using hF1
      clear hne hF1
      go_wp2_with fail
      refine ret_cell_tmp (g := w.heap.size) (t := 64) (fr := (0, 0)) (cs := #[.int .i64 0, .int .i64 0, .int .i64 0, .bool false, .int .i64 0, .int .i64 0]) Try.results52 ?_ ?_ ?_ Try.underlying64 rfl ?_ ?_; (focus rfl); (focus rfl); (focus (apply Exists.intro; apply And.intro; (focus (repeat (first | (with_reducible exact heap_new _ _) | ((with_reducible apply heap_new'); (focus (first | (simp; done) | omega))) | (with_reducible apply heap_set) | ((with_reducible apply heap_old); (focus (first | omega | (simp; done) | (simp; omega)))) | ((with_reducible apply heap_below); (focus (with_reducible assumption)); (focus (first | omega | (simp; done) | (simp; omega)))) | ((with_reducible apply heap_set_far); (focus (first | omega | (simp; done) | (simp; omega))))))); (focus rfl))); (focus kernel_rfl)
      refine ⟨rfl, ?_⟩
      repeat (first | (with_reducible exact Below.refl _ _) | ((with_reducible refine Below.setCell ?_ ?_ _); rotate_left; (focus (first | omega | (simp; done) | (simp; omega)))) | ((with_reducible refine Below.alloc ?_ ?_ _); rotate_left; (focus (first | omega | (simp; done) | (simp; omega)))) | (with_reducible refine Below.drew ?_) | (with_reducible refine below_drewN' ?_ _) | ((refine Below.trans ?_ (Below.mono (by with_reducible assumption) ?_)); rotate_left; (focus (first | omega | (simp; done) | (simp; omega)))))
    · have hF2 : (F != f) = true := by simpa using hF1
      clear hne hF1
      go_wp2_with fail
      refine ret_cell_tmp (g := w.heap.size) (t := 64) (fr := (0, 0)) (cs := #[.int .i64 0, .int .i64 0, .int .i64 0, .bool false, .int .i64 0, .int .i64 0]) Try.results52 ?_ ?_ ?_ Try.underlying64 rfl ?_ ?_; (focus rfl); (focus rfl); (focus (apply Exists.intro; apply And.intro; (focus (repeat (first | (with_reducible exact heap_new _ _) | ((with_reducible apply heap_new'); (focus (first | (simp; done) | omega))) | (with_reducible apply heap_set) | ((with_reducible apply heap_old); (focus (first | omega | (simp; done) | (simp; omega)))) | ((with_reducible apply heap_below); (focus (with_reducible assumption)); (focus (first | omega | (simp; done) | (simp; omega)))) | ((with_reducible apply heap_set_far); (focus (first | omega | (simp; done) | (simp; omega))))))); (focus rfl))); (focus kernel_rfl)
      refine ⟨rfl, ?_⟩
      repeat (first | (with_reducible exact Below.refl _ _) | ((with_reducible refine Below.setCell ?_ ?_ _); rotate_left; (focus (first | omega | (simp; done) | (simp; omega)))) | ((with_reducible refine Below.alloc ?_ ?_ _); rotate_left; (focus (first | omega | (simp; done) | (simp; omega)))) | (with_reducible refine Below.drew ?_) | (with_reducible refine below_drewN' ?_ _) | ((refine Below.trans ?_ (Below.mono (by with_reducible assumption) ?_)); rotate_left; (focus (first | omega | (simp; done) | (simp; omega)))))
  · have key := fun w => hrpack_no (uZ f) (uL f) (uG f) (uD f) (uS' t) (t / 256 % 16777216) w (by unfold uL; omega) oh
    unfold zHead
    unfold hAgg uZ uL uG uD uS' at key
    have K := Lib.hid key
    clear key oh
    go_enter Try.func52, Try.ntmps52
    go_wp2_with fail; refine (K.out _).mono ?_; rintro e w1 ⟨rfl, hb1⟩; have hz1 := hb1.size; (repeat (first | rw [World.size_alloc] at hz1 | rw [World.size_setCell] at hz1 | rw [World.size_drew] at hz1)); have zl1_w_0 : w.heap.size < w1.heap.size := (by omega); have ac1_w_0 := fun o => hb1.cell (p := ⟨w.heap.size, o, none⟩) (by first | omega | (simp; done) | (simp; omega)); have af1_w_0 := fun o => hb1.frozen (p := ⟨w.heap.size, o, none⟩) (by first | omega | (simp; done) | (simp; omega)); have zl1_w_1 : w.heap.size + 1 < w1.heap.size := (by omega); have ac1_w_1 := fun o => hb1.cell (p := ⟨w.heap.size + 1, o, none⟩) (by first | omega | (simp; done) | (simp; omega)); have af1_w_1 := fun o => hb1.frozen (p := ⟨w.heap.size + 1, o, none⟩) (by first | omega | (simp; done) | (simp; omega))
    go_wp2_with fail
    refine ret_cell_tmp (g := w.heap.size) (t := 64) (fr := (0, 0)) (cs := #[.int .i64 0, .int .i64 0, .int .i64 0, .bool false, .int .i64 0, .int .i64 0]) Try.results52 ?_ ?_ ?_ Try.underlying64 rfl ?_ ?_; (focus rfl); (focus rfl); (focus (apply Exists.intro; apply And.intro; (focus (repeat (first | (with_reducible exact heap_new _ _) | ((with_reducible apply heap_new'); (focus (first | (simp; done) | omega))) | (with_reducible apply heap_set) | ((with_reducible apply heap_old); (focus (first | omega | (simp; done) | (simp; omega)))) | ((with_reducible apply heap_below); (focus (with_reducible assumption)); (focus (first | omega | (simp; done) | (simp; omega)))) | ((with_reducible apply heap_set_far); (focus (first | omega | (simp; done) | (simp; omega))))))); (focus rfl))); (focus kernel_rfl)
    refine ⟨rfl, ?_⟩
    repeat (first | (with_reducible exact Below.refl _ _) | ((with_reducible refine Below.setCell ?_ ?_ _); rotate_left; (focus (first | omega | (simp; done) | (simp; omega)))) | ((with_reducible refine Below.alloc ?_ ?_ _); rotate_left; (focus (first | omega | (simp; done) | (simp; omega)))) | (with_reducible refine Below.drew ?_) | (with_reducible refine below_drewN' ?_ _) | ((refine Below.trans ?_ (Below.mono (by with_reducible assumption) ?_)); rotate_left; (focus (first | omega | (simp; done) | (simp; omega)))))

end Go.Proofs.Ytahkplakdbbmmaa
