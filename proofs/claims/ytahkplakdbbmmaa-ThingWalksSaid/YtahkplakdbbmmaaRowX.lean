/- Reading what the row left; marking twice is as marking once. -/
import Derived.Test.YtahkplakdbbmmaaRowW
import Derived.Test.YtahkplakdbbmmaaThing08
import Derived.Deep.WholeRow
namespace Go.Proofs.Ytahkplakdbbmmaa
set_option linter.unusedVariables false
set_option linter.unusedSimpArgs false
open Go.RowKit

theorem u64_or48_set (x : Int) (h : inU x) (h2 : 281474976710656 ≤ x % 562949953421312) : bits .or .u64 x 281474976710656 = x := by
  obtain ⟨X, rfl⟩ := Int.eq_ofNat_of_zero_le h.1
  obtain ⟨Y, hY⟩ : ∃ Y : Nat, X = Y + 281474976710656 := ⟨X - 281474976710656, by omega⟩
  have hx := h.2
  have h0 := u64_or48 (Y : Int) (by unfold inU; omega) (by omega)
  have e1 : bits .or .u64 (Y : Int) ((281474976710656 : Nat) : Int) = ((Y ||| 281474976710656 : Nat) : Int) := u64_or_nat Y _ (by omega) (by decide)
  have e2 : bits .or .u64 (X : Int) ((281474976710656 : Nat) : Int) = ((X ||| 281474976710656 : Nat) : Int) := u64_or_nat X _ (by omega) (by decide)
  have e3 : Y ||| 281474976710656 = X := by
    have : ((Y ||| 281474976710656 : Nat) : Int) = (Y : Int) + 281474976710656 := e1.symm.trans h0
    omega
  show bits .or .u64 (X : Int) ((281474976710656 : Nat) : Int) = _
  rw [e2, ← e3, Nat.or_assoc, Nat.or_self]

/-- Marked: one bit. -/
theorem mark_bit {f t z l g : Int} {d : Bool} {s e : Int} (o : isObj f t z l g d s e) : bits .or .u64 f 281474976710656 = hF z l g 1 := by
  have hb := o.bd.1
  obtain ⟨ok, rfl, rfl⟩ := o
  unfold okHead at ok
  cases d with
  | false => rw [bi_false] at *; rw [u64_or48 _ hb (by unfold hF; omega)]; unfold hF; omega
  | true => rw [bi_true] at *; rw [u64_or48_set _ hb (by unfold hF; omega)]

theorem own_rdP {w : World} {B N : Nat} {v : Value} {H : Nat → Hd} (h : w.ownsRow B 3 1 v N (placeCells H N)) :
    ∃ A c, v = .slice A N c ∧ N ≤ c ∧ c ≤ maxLen ∧ rd w w.heap.size A N 1 (ints1 .i64 (fun i => 8 * (wAt H i : Int))) ∧ (∀ a, A = some a → B ≤ a.block) := by
  rcases h.2 with ⟨rfl, h0⟩ | ⟨g, cap, cur, rfl, h1, h2, h3, h4, h5, h6⟩
  · exact ⟨none, 0, by rw [h0], by omega, by unfold maxLen; omega, fun h => by omega, fun a h => by cases h⟩
  · refine ⟨_, cap, rfl, h3, h4, fun _ => ⟨g, 0, rfl, (Array.getElem?_eq_some_iff.1 h2).1, fun i j u hi hu => ?_⟩, fun a ha => by cases ha; exact h1⟩
    have hj : j = 0 := by
      cases j with
      | zero => rfl
      | succ j => simp [ints1] at hu
    subst hj
    simp [ints1] at hu
    rw [cell_of_row w g _ cur _ _ h2]
    have h7 : (cur.toList.take (N * 1))[i]? = cur.toList[i]? := by rw [List.getElem?_take]; simp; omega
    rw [h6] at h7
    rw [show 0 + (i * 1 + 0) = i from by omega, ← Array.getElem?_toList, ← h7, ← hu]
    simp [placeCells, hi]
theorem rd.front {w : World} {B : Nat} {A : Option Addr} {n m size : Nat} {row : Nat → List Value} (h : rd w B A n size row) (hm : m ≤ n) : rd w B A m size row :=
  fun hp => by obtain ⟨b, off, e, hb, hc⟩ := h (by omega); exact ⟨b, off, e, hb, fun i j u hi hu => hc i j u (by omega) hu⟩
theorem rd.back {w : World} {B b off : Nat} {n k : Nat} {F : Nat → Int} (h : rd w B (some ⟨b, off, none⟩) n 1 (ints1 .i64 F)) : rd w B (some ⟨b, off + k, none⟩) (n - k) 1 (ints1 .i64 (fun i => F (k + i))) :=
  fun hp => by
    obtain ⟨b', off', e, hb, hc⟩ := h (by omega)
    cases e
    exact ⟨b, off + k, rfl, hb, fun i j u hi hu => by have := hc (k + i) j u (by omega) hu; rw [show off + k + (i * 1 + j) = off + ((k + i) * 1 + j) from by omega]; exact this⟩
theorem rd.same {w : World} {B : Nat} {A : Option Addr} {n : Nat} {F G : Nat → Int} (h : rd w B A n 1 (ints1 .i64 F)) (e : ∀ i, i < n → F i = G i) : rd w B A n 1 (ints1 .i64 G) :=
  fun hp => by obtain ⟨b, off, ea, hb, hc⟩ := h hp; exact ⟨b, off, ea, hb, fun i j u hi hu => hc i j u hi (by simp only [ints1] at hu ⊢; rw [e i hi]; exact hu)⟩
theorem range_get (H : Nat → Hd) (i m j : Nat) (hj : j < m) : (((List.range' i m).map fun j => 8 * (wAt H j : Int)).getD j 0) = 8 * (wAt H (i + j) : Int) := by
  simp [hj]
theorem range_len (H : Nat → Hd) (i m : Nat) : ((List.range' i m).map fun j => 8 * (wAt H j : Int)).length = m := by simp
/-- A walk from the i-th object on, over m of them. -/
theorem rowV.walk {V : Nat → Int} {N : Nat} {H : Nat → Hd} (r : rowV V N H) (hN : N ≤ 6) (w : World) (p g : Nat) (ha : isW w p g 80 V) (i m : Nat) (him : i + m ≤ N) (a left : Int) (ea : a = 8 * (wAt H i : Int)) (el : left = 8 * (wAt H (i + m) : Int) - 8 * wAt H i) :
    Calls Try.prog 39 #[.pointer (some ⟨p, 0, none⟩), .int .i64 a, .int .i64 left] w fun x w' => ∃ A c, x = .returned (.tuple #[.slice A m c, .int .i64 0]) ∧ rd w' w'.heap.size A m 1 (ints1 .i64 fun j => 8 * (wAt H (i + j) : Int)) ∧ Below w.heap.size w w' := by
  subst ea; subst el
  have h1 : wAt H i ≤ wAt H (i + m) := by
    rcases Nat.eq_zero_or_pos m with rfl | h
    · exact Nat.le_refl _
    · have := wAt_mono r.ok (i := i) (j := i + m) (by omega) him; omega
  have h2 : wAt H (i + m) ≤ 62 := by
    have := wAt_le r.ok
    rcases Nat.lt_or_ge (i + m) N with h | h
    · have := wAt_mono r.ok h (Nat.le_refl _); omega
    · obtain rfl : i + m = N := by omega
      omega
  refine (walk_t w p g 80 V true _ _ _ ha (r.goes hN (by omega) m i him) (by unfold inR; omega) (by omega)).mono fun x w' hh => ?_
  obtain ⟨v, rfl, ho, hb⟩ := hh
  obtain ⟨A, c, rfl, _, _, R⟩ := own_rd (ho.1 rfl)
  rw [range_len] at *
  exact ⟨A, c, by rw [wayCode_t], R.same fun j hj => range_get H i m j hj, hb⟩
theorem info_80 : (Try.prog.info? 82).map (fun i => i.zero) = some (some (.agg (cellsF .u64 80 (fun _ => 0)))) := by kernel_rfl
theorem zeroValue_80 (w : World) : (zeroValue 82).run Try.prog w = .ok (.agg (cellsF .u64 80 (fun _ => 0))) w := by
  have h := info_80
  cases hi : Try.prog.info? 82 with
  | none => rw [hi] at h; cases h
  | some i =>
    rw [hi] at h
    simp at h
    simp [zeroValue, typeInfo, hi, h, go_sem]
theorem cellsF_one (k : IntKind) (n : Nat) (f : Nat → Int) : (cellsF k n f).all (·.oneCell') = true := by
  rw [Array.all_eq_true]
  intro i hi
  simp [cellsF]
  rfl
theorem store_80 (w : World) : (storeCells ⟨w.heap.size, 0, none⟩ (cellsF .u64 80 (fun _ => 0)).toList 0).run Try.prog (w.alloc (.cells (cellsF .u64 80 (fun _ => 0)) 82)) = .ok () (w.alloc (.cells (cellsF .u64 80 (fun _ => 0)) 82)) :=
  run_storeCells_new w _ _ _ (by rw [cellsF_size]; kernel_rfl) rfl (cellsF_one _ _ _)
theorem store_80d (w : World) (m : Nat) : (storeCells ⟨w.heap.size, 0, none⟩ (cellsF .u64 80 (fun _ => 0)).toList 0).run Try.prog ((w.drewN m).alloc (.cells (cellsF .u64 80 (fun _ => 0)) 82)) = .ok () ((w.drewN m).alloc (.cells (cellsF .u64 80 (fun _ => 0)) 82)) :=
  store_80 (w.drewN m)
theorem left_4 (a b : Nat) (ha : a ≤ 62) (hb : b ≤ 62) : IntKind.i64.wrap (IntKind.i64.wrap (8 * (a : Int)) - 8 * (b : Int)) = 8 * (a : Int) - 8 * (b : Int) := by
  rw [show IntKind.i64.wrap (8 * (a : Int)) = 8 * (a : Int) from by rw [IntKind.wrap_i64]; omega, IntKind.wrap_i64]; omega
theorem walk_false (w : World) (p g n : Nat) (V : Nat → Int) (a left : Int) (xs : List Int) (ha : isW w p g n V) (hw : way V n false a left xs) (hr : inR a) (hl : 0 ≤ left ∧ left ≤ 9223372036854775807) :
    Calls Try.prog 39 #[.pointer (some ⟨p, 0, none⟩), .int .i64 a, .int .i64 left] w fun x w' => x = .returned (.tuple #[.slice none 0 0, .int .i64 18]) ∧ Below w.heap.size w w' :=
  (walk_t w p g n V false a left xs ha hw hr hl).mono fun x w' hh => by
    obtain ⟨v, rfl, ho, hb⟩ := hh
    exact ⟨by rw [ho.2 rfl, wayCode_f], hb⟩

end Go.Proofs.Ytahkplakdbbmmaa
