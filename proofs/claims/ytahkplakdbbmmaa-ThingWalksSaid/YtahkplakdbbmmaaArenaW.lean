/- An arena of words: contracts in words. -/
import Derived.Test.YtahkplakdbbmmaaArenaNew
import Derived.Test.YtahkplakdbbmmaaArenaPlain
import Derived.Test.YtahkplakdbbmmaaBlk
namespace Go.Proofs.Ytahkplakdbbmmaa
set_option linter.unusedVariables false
set_option linter.unusedSimpArgs false
open Go.RowKit

theorem wsum_zero (a k : Nat) : wsum (fun _ => 0) a k = 0 := by
  induction k with
  | zero => rfl
  | succ k ih => rw [wsum, ih]; simp

/-- An arena of n words. -/
def isW (w : World) (p g n : Nat) (F : Nat → Int) : Prop := ∃ f, isArena w p g (8 * n) f ∧ ∀ i, i < n → wordAt f (8 * i) = F i
theorem isW.bd {w : World} {p g n : Nat} {F : Nat → Int} (h : isW w p g n F) (i : Nat) (hi : i < n) : inU (F i) := by
  obtain ⟨f, ha, hf⟩ := h
  rw [← hf i hi]; exact wordAt_bd f ha.fits _
theorem isW.most {w : World} {p g n : Nat} {F : Nat → Int} (h : isW w p g n F) : 8 * n ≤ 65536 := by
  obtain ⟨f, ha, hf⟩ := h; exact ha.most
theorem isW.lts {w : World} {p g n : Nat} {F : Nat → Int} (h : isW w p g n F) : p < w.heap.size ∧ g < w.heap.size ∧ p ≠ g := by
  obtain ⟨f, ha, hf⟩ := h
  exact ⟨(Array.getElem?_eq_some_iff.1 ha.head).1, ha.row.lt, ha.ne⟩
theorem isW.ext {w : World} {p g n : Nat} {F G : Nat → Int} (h : isW w p g n F) (e : ∀ i, i < n → F i = G i) : isW w p g n G := by
  obtain ⟨f, ha, hf⟩ := h; exact ⟨f, ha, fun i hi => (hf i hi).trans (e i hi)⟩
theorem isW.below {w w' : World} {p g n B : Nat} {F : Nat → Int} (h : isW w p g n F) (hb : Below B w w') (hp : p < B) (hg : g < B) : isW w' p g n F := by
  obtain ⟨f, ha, hf⟩ := h; exact ⟨f, ha.below hb hp hg, hf⟩
theorem isW.but {w w' : World} {p g n B c : Nat} {F : Nat → Int} (h : isW w p g n F) (hb : But B c w w') (hp : p < B) (hg : g < B) (hpc : p ≠ c) (hgc : g ≠ c) : isW w' p g n F := by
  obtain ⟨f, ha, hf⟩ := h; exact ⟨f, ha.but hb hp hg hpc hgc, hf⟩
theorem isW.drew {w : World} {p g n : Nat} {F : Nat → Int} (h : isW w p g n F) : isW w.drew p g n F := by
  obtain ⟨f, ha, hf⟩ := h; exact ⟨f, ⟨ha.head, ha.row, ha.ne, ha.most, ha.fits⟩, hf⟩
theorem isW.drewN {w : World} {p g n : Nat} {F : Nat → Int} (h : isW w p g n F) (k : Nat) : isW (w.drewN k) p g n F := by
  obtain ⟨f, ha, hf⟩ := h; exact ⟨f, ⟨ha.head, ha.row, ha.ne, ha.most, ha.fits⟩, hf⟩
theorem isW.alloc {w : World} {p g n : Nat} {F : Nat → Int} (h : isW w p g n F) (o : Obj) : isW (w.alloc o) p g n F := by
  have := h.lts
  exact h.below ((Below.refl w.heap.size w).alloc (Nat.le_refl _) _) this.1 this.2.1
theorem isW.far {w : World} {p g n : Nat} {F : Nat → Int} (h : isW w p g n F) {a : Addr} (hp : p ≠ a.block) (hg : g ≠ a.block) (v : Value) : isW (w.setCell a v) p g n F := by
  obtain ⟨f, ha, hf⟩ := h
  exact ⟨f, ⟨(Below.heap_setCell w a v p hp).trans ha.head, (Below.heap_setCell w a v g hg).trans ha.row, ha.ne, ha.most, ha.fits⟩, hf⟩

theorem wnew_t (n : Nat) (m : Int) (w : World) (hm : m = 8 * n) (h : 8 * n ≤ 65536) :
    Calls Try.prog 15 #[.int .i64 m] w fun e w' => ∃ p g, e = .returned (.tuple #[.pointer (some ⟨p, 0, none⟩), .int .i64 0]) ∧ isW w' p g n (fun _ => 0) ∧ Below w.heap.size w w' ∧ w.heap.size ≤ p ∧ w.heap.size ≤ g := by
  obtain rfl : m = ((8 * n : Nat) : Int) := by omega
  refine (new_t (8 * n) w h (by omega)).mono fun e w' hh => ?_
  obtain ⟨p, g, he, ha, hh⟩ := hh
  exact ⟨p, g, he, ⟨_, ha, fun i _ => wsum_zero _ _⟩, hh⟩
theorem wlen_t (w : World) (p g n : Nat) (F : Nat → Int) (h : isW w p g n F) :
    Calls Try.prog 16 #[.pointer (some ⟨p, 0, none⟩)] w fun e w' => e = .returned (.int .i64 (8 * n)) ∧ w = w' := by
  obtain ⟨f, ha, hf⟩ := h
  exact (len_t w p g _ f ha).mono fun e w' hh => by
    rw [show ((8 * n : Nat) : Int) = 8 * (n : Int) from by omega] at hh; exact hh
theorem wis_t (w : World) (p g n : Nat) (F : Nat → Int) (at' : Int) (k : Nat) (h : isW w p g n F) (e : at' = 8 * k) (hk : k < n) :
    Calls Try.prog 48 #[.pointer (some ⟨p, 0, none⟩), .int .i64 at'] w fun e w' => e = .returned (.bool true) ∧ w = w' := by
  obtain ⟨f, ha, hf⟩ := h
  exact is_t w p g _ f at' ha (by omega) (by omega) (by omega)
theorem wis_f (w : World) (p g n : Nat) (F : Nat → Int) (at' : Int) (h : isW w p g n F) (hn : at' < 0 ∨ 8 * n ≤ at' ∨ at' % 8 ≠ 0) :
    Calls Try.prog 48 #[.pointer (some ⟨p, 0, none⟩), .int .i64 at'] w fun e w' => e = .returned (.bool false) ∧ w = w' := by
  obtain ⟨f, ha, hf⟩ := h
  exact is_f w p g _ f at' ha (by omega)
theorem wword_f (w : World) (p g n : Nat) (F : Nat → Int) (at' : Int) (h : isW w p g n F) (hn : at' < 0 ∨ 8 * n ≤ at' ∨ at' % 8 ≠ 0) :
    Calls Try.prog 18 #[.pointer (some ⟨p, 0, none⟩), .int .i64 at'] w fun e w' => e = .returned (.tuple #[.int .u64 0, .int .i64 1]) ∧ w = w' := by
  obtain ⟨f, ha, hf⟩ := h
  exact word_f w p g _ f at' ha (by omega)
theorem wword_t (w : World) (p g n : Nat) (F : Nat → Int) (at' : Int) (k : Nat) (h : isW w p g n F) (e : at' = 8 * k) (hk : k < n) :
    Calls Try.prog 18 #[.pointer (some ⟨p, 0, none⟩), .int .i64 at'] w fun e w' => e = .returned (.tuple #[.int .u64 (F k), .int .i64 0]) ∧ w = w' := by
  obtain ⟨f, ha, hf⟩ := h
  refine (word_t w p g _ f at' ha (by omega) (by omega) (by omega)).mono fun e w' hh => ?_
  rw [show at'.toNat = 8 * k from by omega, hf k hk] at hh; exact hh
theorem wput_f (w : World) (p g n : Nat) (F : Nat → Int) (at' x : Int) (h : isW w p g n F) (hn : at' < 0 ∨ 8 * n ≤ at' ∨ at' % 8 ≠ 0) :
    Calls Try.prog 19 #[.pointer (some ⟨p, 0, none⟩), .int .i64 at', .int .u64 x] w fun e w' => e = .returned (.int .i64 1) ∧ w = w' := by
  obtain ⟨f, ha, hf⟩ := h
  exact put_f w p g _ f at' x ha (by omega)
theorem words_put {f F : Nat → Int} {n : Nat} (h : ∀ i, i < n → wordAt f (8 * i) = F i) (k : Nat) (y : Int) (hy : inU y) : ∀ i, i < n → wordAt (putW f (8 * k) y) (8 * i) = upd F k y i := by
  intro i hi
  unfold upd
  by_cases c : i = k
  · subst c; rw [if_pos rfl]; exact wordAt_put _ _ _ hy
  · rw [if_neg c, wordAt_other _ _ _ _ (by omega)]; exact h i hi
theorem wput_t (w : World) (p g n : Nat) (F : Nat → Int) (at' x : Int) (k : Nat) (h : isW w p g n F) (e : at' = 8 * k) (hk : k < n) (hx : inU x) :
    Calls Try.prog 19 #[.pointer (some ⟨p, 0, none⟩), .int .i64 at', .int .u64 x] w fun e w' => e = .returned (.int .i64 0) ∧ isW w' p g n (upd F k x) ∧ But w.heap.size g w w' := by
  obtain ⟨f, ha, hf⟩ := h
  refine (put_t w p g _ f at' x ha (by omega) (by omega) (by omega) hx).mono fun e w' hh => ?_
  obtain ⟨he, ha', hb⟩ := hh
  rw [show at'.toNat = 8 * k from by omega] at ha'
  exact ⟨he, ⟨_, ha', words_put hf k x hx⟩, hb⟩
theorem wcas_f (w : World) (p g n : Nat) (F : Nat → Int) (at' old x : Int) (h : isW w p g n F) (hn : at' < 0 ∨ 8 * n ≤ at' ∨ at' % 8 ≠ 0) :
    Calls Try.prog 22 #[.pointer (some ⟨p, 0, none⟩), .int .i64 at', .int .u64 old, .int .u64 x] w fun e w' => e = .returned (.tuple #[.bool false, .int .i64 1]) ∧ w = w' := by
  obtain ⟨f, ha, hf⟩ := h
  exact cas_f w p g _ f at' old x ha (by omega)
theorem wcas_n (w : World) (p g n : Nat) (F : Nat → Int) (at' old x : Int) (k : Nat) (h : isW w p g n F) (e : at' = 8 * k) (hk : k < n) (hne : F k ≠ old) :
    Calls Try.prog 22 #[.pointer (some ⟨p, 0, none⟩), .int .i64 at', .int .u64 old, .int .u64 x] w fun e w' => e = .returned (.tuple #[.bool false, .int .i64 0]) ∧ w = w' := by
  obtain ⟨f, ha, hf⟩ := h
  exact cas_n w p g _ f at' old x ha (by omega) (by omega) (by omega) (by rw [show at'.toNat = 8 * k from by omega, hf k hk]; exact hne)
theorem wcas_t (w : World) (p g n : Nat) (F : Nat → Int) (at' old x : Int) (k : Nat) (h : isW w p g n F) (e : at' = 8 * k) (hk : k < n) (hx : inU x) (heq : F k = old) :
    Calls Try.prog 22 #[.pointer (some ⟨p, 0, none⟩), .int .i64 at', .int .u64 old, .int .u64 x] w fun e w' => e = .returned (.tuple #[.bool true, .int .i64 0]) ∧ isW w' p g n (upd F k x) ∧ But w.heap.size g w w' := by
  obtain ⟨f, ha, hf⟩ := h
  obtain rfl : wordAt f at'.toNat = old := by rw [show at'.toNat = 8 * k from by omega, hf k hk]; exact heq
  refine (cas_t w p g _ f at' x ha (by omega) (by omega) (by omega) hx).mono fun e w' hh => ?_
  obtain ⟨he, ha', hb⟩ := hh
  rw [show at'.toNat = 8 * k from by omega] at ha'
  exact ⟨he, ⟨_, ha', words_put hf k x hx⟩, hb⟩
/-- Either way. -/
theorem wcas_any (w : World) (p g n : Nat) (F : Nat → Int) (at' old x : Int) (k : Nat) (h : isW w p g n F) (e : at' = 8 * k) (hk : k < n) (hx : inU x) :
    Calls Try.prog 22 #[.pointer (some ⟨p, 0, none⟩), .int .i64 at', .int .u64 old, .int .u64 x] w fun e w' => e = .returned (.tuple #[.bool (decide (F k = old)), .int .i64 0]) ∧ isW w' p g n (if F k = old then upd F k x else F) ∧ But w.heap.size g w w' := by
  by_cases c : F k = old
  · refine (wcas_t w p g n F at' old x k h e hk hx c).mono fun e w' hh => ?_
    rw [decide_eq_true c, if_pos c]; exact hh
  · refine (wcas_n w p g n F at' old x k h e hk c).mono fun e w' hh => ?_
    obtain ⟨rfl, rfl⟩ := hh
    rw [decide_eq_false c, if_neg c]; exact ⟨rfl, h, But.refl _ _ _⟩
theorem wzero_0 (w : World) (p g n : Nat) (F : Nat → Int) (at' : Int) (h : isW w p g n F) :
    Calls Try.prog 23 #[.pointer (some ⟨p, 0, none⟩), .int .i64 at', .int .i64 0] w fun e w' => e = .returned (.int .i64 0) ∧ w = w' := by
  obtain ⟨f, ha, hf⟩ := h
  exact zero_0 w p g _ f at' ha
theorem wzero_f (w : World) (p g n : Nat) (F : Nat → Int) (at' k : Int) (h : isW w p g n F) (hk : -9223372036854775808 ≤ k ∧ k ≤ 9223372036854775807) (hn : k < 0 ∨ (k ≠ 0 ∧ ((at' < 0 ∨ 8 * n ≤ at' ∨ at' % 8 ≠ 0) ∨ (0 ≤ at' ∧ n - at' / 8 < k)))) :
    Calls Try.prog 23 #[.pointer (some ⟨p, 0, none⟩), .int .i64 at', .int .i64 k] w fun e w' => e = .returned (.int .i64 1) ∧ w = w' := by
  obtain ⟨f, ha, hf⟩ := h
  exact zero_f w p g _ f at' k ha hk (by omega)
/-- F, but 0 at m places from k on. -/
def updZ (F : Nat → Int) (k m : Nat) : Nat → Int := fun i => if k ≤ i ∧ i < k + m then 0 else F i
theorem wzero_t (w : World) (p g n : Nat) (F : Nat → Int) (at' : Int) (k m : Nat) (h : isW w p g n F) (hm : 0 < m) (e : at' = 8 * k) (hk : k + m ≤ n) :
    Calls Try.prog 23 #[.pointer (some ⟨p, 0, none⟩), .int .i64 at', .int .i64 m] w fun e w' => e = .returned (.int .i64 0) ∧ isW w' p g n (updZ F k m) ∧ But w.heap.size g w w' := by
  obtain ⟨f, ha, hf⟩ := h
  refine (zero_t w p g _ f at' m ha hm (by omega) (by omega) (by omega)).mono fun e w' hh => ?_
  obtain ⟨he, ha', hb⟩ := hh
  rw [show at'.toNat = 8 * k from by omega] at ha'
  refine ⟨he, ⟨_, ha', fun i hi => ?_⟩, hb⟩
  unfold updZ
  by_cases c : k ≤ i ∧ i < k + m
  · rw [if_pos c]
    have : wordAt (fun j => if 8 * k ≤ j ∧ j < 8 * k + 8 * m then 0 else f j) (8 * i) = wordAt (fun _ => 0) (8 * i) :=
      wsum_ext _ _ _ _ fun j hj => by rw [if_pos (by omega)]
    rw [this]; exact wsum_zero _ _
  · rw [if_neg c, ← hf i hi]
    exact wsum_ext _ _ _ _ fun j hj => by rw [if_neg (by omega)]

/-- Claim. -/
theorem wclaim_f (w : World) (p g n : Nat) (F : Nat → Int) (at' y m b x1 x2 : Int) (h : isW w p g n F) (hn : at' < 0 ∨ 8 * n ≤ at' ∨ at' % 8 ≠ 0) :
    Calls Try.prog 24 #[.pointer (some ⟨p, 0, none⟩), .int .i64 at', .int .u64 y, .int .u64 m, .int .i64 b, .int .u64 x1, .int .u64 x2] w fun e w' => e = .returned (.tuple #[.int .u64 0, .bool false, .int .i64 1]) ∧ w = w' := by
  obtain ⟨f, ha, hf⟩ := h
  exact claim_f w p g _ f at' y m b x1 x2 ha (by omega)
theorem wclaim_n (w : World) (p g n : Nat) (F : Nat → Int) (at' y m b x1 x2 : Int) (k : Nat) (h : isW w p g n F) (e : at' = 8 * k) (hk : k < n) (hy : inU y) (hm' : inU m) (hc : m < F k ∨ m - F k < y) :
    Calls Try.prog 24 #[.pointer (some ⟨p, 0, none⟩), .int .i64 at', .int .u64 y, .int .u64 m, .int .i64 b, .int .u64 x1, .int .u64 x2] w fun e w' => e = .returned (.tuple #[.int .u64 (F k), .bool false, .int .i64 0]) ∧ w = w' := by
  obtain ⟨f, ha, hf⟩ := h
  have e1 : wordAt f at'.toNat = F k := by rw [show at'.toNat = 8 * k from by omega, hf k hk]
  rw [← e1] at hc ⊢
  exact claim_n w p g _ f at' y m b x1 x2 ha (by omega) (by omega) (by omega) hy hm' hc
theorem wclaim_o (w : World) (p g n : Nat) (F : Nat → Int) (at' y m b x1 x2 : Int) (k : Nat) (h : isW w p g n F) (e : at' = 8 * k) (hk : k < n) (hy : inU y) (hm' : inU m) (hc : F k ≤ m) (hc2 : y ≤ m - F k)
    (hn : 65536 < F k ∨ b < 0 ∨ 65536 < b ∨ 8 * n < b + F k + 16 ∨ (b + F k) % 8 ≠ 0) :
    Calls Try.prog 24 #[.pointer (some ⟨p, 0, none⟩), .int .i64 at', .int .u64 y, .int .u64 m, .int .i64 b, .int .u64 x1, .int .u64 x2] w fun e w' => e = .returned (.tuple #[.int .u64 0, .bool false, .int .i64 1]) ∧ w = w' := by
  obtain ⟨f, ha, hf⟩ := h
  have e1 : wordAt f at'.toNat = F k := by rw [show at'.toNat = 8 * k from by omega, hf k hk]
  rw [← e1] at hc hc2 hn
  exact claim_o w p g _ f at' y m b x1 x2 ha (by omega) (by omega) (by omega) hy hm' hc hc2 (by omega)
set_option maxHeartbeats 1000000 in
set_option maxRecDepth 100000 in
/-- It succeeds: v is what was there, j the first of the two words. -/
theorem wclaim_t (w : World) (p g n : Nat) (F : Nat → Int) (at' y m b x1 x2 v : Int) (k j : Nat) (h : isW w p g n F) (e : at' = 8 * k) (hk : k < n) (hy : inU y) (hm' : inU m) (hv : F k = v) (hc : v ≤ m) (hc2 : y ≤ m - v)
    (hb0 : 0 ≤ b) (hb1 : b ≤ 65536) (hj : b + v = 8 * j) (hjn : j + 2 ≤ n) (hx1 : inU x1) (hx2 : inU x2) :
    Calls Try.prog 24 #[.pointer (some ⟨p, 0, none⟩), .int .i64 at', .int .u64 y, .int .u64 m, .int .i64 b, .int .u64 x1, .int .u64 x2] w fun e w' => e = .returned (.tuple #[.int .u64 v, .bool true, .int .i64 0]) ∧ isW w' p g n (upd (upd (upd F k (v + y)) j x1) (j + 1) x2) ∧ But w.heap.size g w w' := by
  have hvb := h.bd k hk
  have hmost := h.most
  rw [hv] at hvb
  have Hv := Lib.hid hv
  have E := Lib.hid e
  have J := Lib.hid hj
  have hv1 : v ≤ 65536 := by omega
  have hs1 : b + v = 8 * (j : Int) := hj
  have hlim : 8 * (j : Int) + 16 ≤ 65536 := by omega
  unfold inU at hvb hy hm'
  have Hsum : Hid (v + y ≤ 18446744073709551615) := Lib.hid (by omega)
  have hbv : b + v ≤ 65536 := by omega
  have X1 := Lib.hid hx1
  have X2 := Lib.hid hx2
  clear hv e hj hs1 hx1 hx2
  have HN := Lib.hid hjn
  clear hlim hmost hjn
  go_enter Try.func24, Try.ntmps24
  go_wp2_with fail
  refine (wword_t _ _ _ _ _ _ k h E.out hk).mono ?_
  rintro e w' ⟨rfl, rfl⟩
  rw [Hv.out]
  go_wp2_with fail
  refine (within_t _ _ _ _ (by omega) (by omega)).mono ?_
  rintro e w' ⟨rfl, rfl⟩
  go_wp2_with fail
  refine (wis_t _ _ _ _ _ _ j h (by have := J.out; omega) (by have := HN.out; omega)).mono ?_
  rintro e w' ⟨rfl, rfl⟩
  go_wp2_with fail
  refine (wis_t _ _ _ _ _ _ (j + 1) h (by have := J.out; omega) (by have := HN.out; omega)).mono ?_
  rintro e w' ⟨rfl, rfl⟩
  go_wp2_with fail
  refine (wput_t _ _ _ _ _ _ _ k h E.out hk (by unfold inU; have := Hsum.out; omega)).mono ?_
  rintro e w1 ⟨rfl, h1, hb1⟩
  go_wp2_with fail
  refine (wput_t _ _ _ _ _ _ _ j h1 (by have := J.out; omega) (by have := HN.out; omega) X1.out).mono ?_
  rintro e w2 ⟨rfl, h2, hb2⟩
  go_wp2_with fail
  refine (wput_t _ _ _ _ _ _ _ (j + 1) h2 (by have := J.out; omega) (by have := HN.out; omega) X2.out).mono ?_
  rintro e w3 ⟨rfl, h3, hb3⟩
  go_wp2_with fail
  go_ret3
  exact ⟨rfl, h3, hb1.trans ((hb2.mono hb1.size).trans (hb3.mono (Nat.le_trans hb1.size hb2.size)))⟩

theorem upd_same (f : Nat → Int) (k : Nat) (v : Int) (h : f k = v) : upd f k v = f := by
  funext i; unfold upd; split
  · next c => rw [c, h]
  · rfl
end Go.Proofs.Ytahkplakdbbmmaa
