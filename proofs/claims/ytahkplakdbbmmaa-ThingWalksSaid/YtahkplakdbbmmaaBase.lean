/- num.Within; what a call that leaves old blocks alone leaves. -/
import Derived.Test.YtahkplakdbbmmaaRows
import Derived.Test.YtahkplakdbbmmaaBits
import Derived.Lib.Hide
import Derived.Below
namespace Go.Proofs.Ytahkplakdbbmmaa
set_option linter.unusedVariables false
set_option linter.unusedSimpArgs false
open Go.RowKit

theorem within_any (n l h : Int) (w : World) :
    Calls Try.prog 47 #[.int .i64 n, .int .i64 l, .int .i64 h] w fun e w' => e = .returned (.bool (decide (l ≤ n) && decide (n ≤ h))) ∧ w = w' := by
  go_enter Try.func47, Try.ntmps47
  go_wp2
  all_goals (go_ret; exact ⟨ret_b (by simp; try omega), rfl⟩)
theorem within_t (n l h : Int) (w : World) (h1 : l ≤ n) (h2 : n ≤ h) :
    Calls Try.prog 47 #[.int .i64 n, .int .i64 l, .int .i64 h] w fun e w' => e = .returned (.bool true) ∧ w = w' :=
  (within_any n l h w).mono fun _ _ g => ⟨by rw [g.1]; simp [h1, h2], g.2⟩
theorem within_f (n l h : Int) (w : World) (h1 : n < l ∨ h < n) :
    Calls Try.prog 47 #[.int .i64 n, .int .i64 l, .int .i64 h] w fun e w' => e = .returned (.bool false) ∧ w = w' :=
  (within_any n l h w).mono fun _ _ g => ⟨by rw [g.1]; exact ret_b (by simp; omega), g.2⟩
theorem bcell {W w1 : World} (hb : Below W.heap.size W w1) : (∀ b o, b < W.heap.size → w1.cell? ⟨b, o, none⟩ = W.cell? ⟨b, o, none⟩) ∧ (∀ b o, b < W.heap.size → w1.frozen? ⟨b, o, none⟩ = W.frozen? ⟨b, o, none⟩) :=
  ⟨fun b o h => hb.cell (p := ⟨b, o, none⟩) h, fun b o h => hb.frozen (p := ⟨b, o, none⟩) h⟩
end Go.Proofs.Ytahkplakdbbmmaa
