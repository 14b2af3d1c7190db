/- penfoldref01.Ints: two slices that hold the same. -/
import Derived.Test.YtahkplakdbbmmaaSliceArg
import Derived.Test.YtahkplakdbbmmaaOwn
import Derived.Deep.RegionHeld3
namespace Go.Proofs.Ytahkplakdbbmmaa
set_option linter.unusedVariables false
set_option linter.unusedSimpArgs false
open Go.RowKit

theorem own_rd {w : World} {B : Nat} {v : Value} {xs : List Int} (h : w.ownsRow B 3 1 v xs.length (xs.map (Value.int .i64))) :
    ∃ A c, v = .slice A xs.length c ∧ xs.length ≤ c ∧ c ≤ maxLen ∧ rd w w.heap.size A xs.length 1 (ints1 .i64 (fun i => xs.getD i 0)) := by
  rcases h.2 with ⟨rfl, h0⟩ | ⟨g, cap, cur, rfl, h1, h2, h3, h4, h5, h6⟩
  · exact ⟨none, 0, by rw [h0], by omega, by unfold maxLen; omega, fun h => by omega⟩
  · refine ⟨_, cap, rfl, h3, h4, fun _ => ⟨g, 0, rfl, (Array.getElem?_eq_some_iff.1 h2).1, fun i j u hi hu => ?_⟩⟩
    have hj : j = 0 := by
      cases j with
      | zero => rfl
      | succ j => simp [ints1] at hu
    subst hj
    simp [ints1] at hu
    rw [cell_of_row w g _ cur _ _ h2]
    have h7 : (cur.toList.take (xs.length * 1))[i]? = cur.toList[i]? := by rw [List.getElem?_take]; simp; omega
    rw [h6] at h7
    rw [show 0 + (i * 1 + 0) = i from by omega, ← Array.getElem?_toList, ← h7]
    simp [hi]
    rw [← hu]; simp [hi]

set_option maxHeartbeats 4000000 in
theorem ints_t (w : World) (B B' : Nat) (A A' : Option Addr) (n c c' : Nat) (F : Nat → Int) (R : rd w B A n 1 (ints1 .i64 F)) (R' : rd w B' A' n 1 (ints1 .i64 F)) (hn : n ≤ 9223372036854775807) :
    Calls Try.prog 41 #[.slice A n c, .slice A' n c'] w fun e w' => e = .returned (.bool true) ∧ ∃ m, w' = w.drewN m := by
  go_enter Try.func41, Try.ntmps41
  go_wp2_with fail
  go_loopw [5] (fun i wr => ∃ k : Nat, k ≤ n ∧ i = .int .i64 k ∧ ∃ m, Hid (wr = w.drewN m)) (fun i _ => n - (intOf i).toNat)
  case atStart => exact ⟨0, by omega, rfl, 0, Lib.hid rfl⟩
  case round =>
    obtain ⟨k, hk, rfl, m, HW⟩ := hrel
    by_cases hlt : k < n
    · obtain ⟨b, off, rfl, hb, hc⟩ := R.int_at hlt
      obtain ⟨b', off', rfl, hb', hc'⟩ := R'.int_at hlt
      have hcw : wr.cell? ⟨b, off + k, none⟩ = some (.int .i64 (F k)) := by rw [HW.out]; exact hc
      have hcw' : wr.cell? ⟨b', off' + k, none⟩ = some (.int .i64 (F k)) := by rw [HW.out]; exact hc'
      go_wp2_with fail
      go_region
      go_wp2_with fail
      go_roundw
      case rel => exact ⟨k + 1, by omega, by go_num, m + 1, Lib.hid (by rw [HW.out]; rfl)⟩
      case measure => simp [intOf]; omega
    · obtain rfl : k = n := by omega
      go_wp2_with fail
      go_ret
      exact ⟨rfl, m, HW.out⟩

end Go.Proofs.Ytahkplakdbbmmaa
