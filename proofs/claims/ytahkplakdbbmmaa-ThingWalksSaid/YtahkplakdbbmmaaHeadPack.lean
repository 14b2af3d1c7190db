/- Contracts of head.Pack and of the reference's Pack. -/
import Derived.Test.YtahkplakdbbmmaaHead
import Derived.Test.YtahkplakdbbmmaaSmall
import Derived.Deep.QuietTactic
import Derived.BigQuiet
namespace Go.Proofs.Ytahkplakdbbmmaa
set_option linter.unusedVariables false
open Go.RowKit

set_option maxHeartbeats 1000000 in
theorem hpack_ok (z l g : Int) (d : Bool) (s e : Int) (w : World) (ok : Hid (okHead z l g s e)) :
    Calls Try.prog 54 #[hAgg z l g d s e] w fun x w' => x = .returned (.tuple #[.int .u64 (hF z l g (bi d)), .int .u64 (s + 256 * e), .int .i64 0]) ∧ Below w.heap.size w w' := by
  unfold hAgg hF
  obtain ⟨h1, h2, h3, h4, h5⟩ := ok.out
  have j1 : bits .or .u64 11889503016258109440 (g * 1099511627776) = 11889503016258109440 + g * 1099511627776 := u64_join 56 _ _ (by omega) (by omega) (by omega) (by omega) (by omega) (by omega)
  have j2 : bits .or .u64 (11889503016258109440 + g * 1099511627776) (l * 4294967296) = 11889503016258109440 + g * 1099511627776 + l * 4294967296 := u64_join 40 _ _ (by omega) (by omega) (by omega) (by omega) (by omega) (by omega)
  have j3 : bits .or .u64 (11889503016258109440 + g * 1099511627776 + l * 4294967296) z = 11889503016258109440 + g * 1099511627776 + l * 4294967296 + z := u64_join 32 _ _ (by omega) (by omega) (by omega) (by omega) (by omega) (by omega)
  have j4 : bits .or .u64 (11889503016258109440 + g * 1099511627776 + l * 4294967296 + z) 281474976710656 = 11889503016258109440 + g * 1099511627776 + l * 4294967296 + z + 281474976710656 := u64_or48 _ (by omega) (by omega)
  have j5 : bits .or .u64 (e * 256) s = e * 256 + s := u64_join 8 _ _ (by omega) (by omega) (by omega) (by omega) (by omega) (by omega)
  cases d
  · rw [bi_false]
    go_enter Try.func54, Try.ntmps54
    go_wp2_with fail; refine (hright_t _ _ _ _ _ _ _ ok.out).mono ?_; rintro e w1 ⟨rfl, hb1⟩; have hz1 := hb1.size; (repeat (first | rw [World.size_alloc] at hz1 | rw [World.size_setCell] at hz1 | rw [World.size_drew] at hz1)); have zl1_w_0 : w.heap.size < w1.heap.size := (by omega); have ac1_w_0 := fun o => hb1.cell (p := ⟨w.heap.size, o, none⟩) (by first | omega | (simp; done) | (simp; omega)); have af1_w_0 := fun o => hb1.frozen (p := ⟨w.heap.size, o, none⟩) (by first | omega | (simp; done) | (simp; omega))
    go_wp2_with fail
    go_quiet (fail)
    go_wp2_with fail
    go_ret3; refine ⟨ret_iii (by omega) (by omega) rfl, ?_⟩
    repeat (first | (with_reducible exact Below.refl _ _) | ((with_reducible refine Below.setCell ?_ ?_ _); rotate_left; (focus (first | omega | (simp; done) | (simp; omega)))) | ((with_reducible refine Below.alloc ?_ ?_ _); rotate_left; (focus (first | omega | (simp; done) | (simp; omega)))) | (with_reducible refine Below.drew ?_) | (with_reducible refine below_drewN' ?_ _) | ((refine Below.trans ?_ (Below.mono (by with_reducible assumption) ?_)); rotate_left; (focus (first | omega | (simp; done) | (simp; omega)))))
  · rw [bi_true]
    go_enter Try.func54, Try.ntmps54
    go_wp2_with fail; refine (hright_t _ _ _ _ _ _ _ ok.out).mono ?_; rintro e w1 ⟨rfl, hb1⟩; have hz1 := hb1.size; (repeat (first | rw [World.size_alloc] at hz1 | rw [World.size_setCell] at hz1 | rw [World.size_drew] at hz1)); have zl1_w_0 : w.heap.size < w1.heap.size := (by omega); have ac1_w_0 := fun o => hb1.cell (p := ⟨w.heap.size, o, none⟩) (by first | omega | (simp; done) | (simp; omega)); have af1_w_0 := fun o => hb1.frozen (p := ⟨w.heap.size, o, none⟩) (by first | omega | (simp; done) | (simp; omega))
    go_wp2_with fail
    go_quiet (fail)
    go_wp2_with fail
    go_ret3; refine ⟨ret_iii (by omega) (by omega) rfl, ?_⟩
    repeat (first | (with_reducible exact Below.refl _ _) | ((with_reducible refine Below.setCell ?_ ?_ _); rotate_left; (focus (first | omega | (simp; done) | (simp; omega)))) | ((with_reducible refine Below.alloc ?_ ?_ _); rotate_left; (focus (first | omega | (simp; done) | (simp; omega)))) | (with_reducible refine Below.drew ?_) | (with_reducible refine below_drewN' ?_ _) | ((refine Below.trans ?_ (Below.mono (by with_reducible assumption) ?_)); rotate_left; (focus (first | omega | (simp; done) | (simp; omega)))))
theorem hpack_no (z l g : Int) (d : Bool) (s e : Int) (w : World) (no : Hid (¬ okHead z l g s e)) :
    Calls Try.prog 54 #[hAgg z l g d s e] w fun x w' => x = .returned (.tuple #[.int .u64 0, .int .u64 0, .int .i64 1]) ∧ Below w.heap.size w w' := by
  unfold hAgg
  go_enter Try.func54, Try.ntmps54
  go_wp2_with fail; refine (hright_f _ _ _ _ _ _ _ no.out).mono ?_; rintro e w1 ⟨rfl, hb1⟩; have hz1 := hb1.size; (repeat (first | rw [World.size_alloc] at hz1 | rw [World.size_setCell] at hz1 | rw [World.size_drew] at hz1)); have zl1_w_0 : w.heap.size < w1.heap.size := (by omega); have ac1_w_0 := fun o => hb1.cell (p := ⟨w.heap.size, o, none⟩) (by first | omega | (simp; done) | (simp; omega)); have af1_w_0 := fun o => hb1.frozen (p := ⟨w.heap.size, o, none⟩) (by first | omega | (simp; done) | (simp; omega))
  go_wp2_with fail
  go_ret3; refine ⟨rfl, ?_⟩
  repeat (first | (with_reducible exact Below.refl _ _) | ((with_reducible refine Below.setCell ?_ ?_ _); rotate_left; (focus (first | omega | (simp; done) | (simp; omega)))) | ((with_reducible refine Below.alloc ?_ ?_ _); rotate_left; (focus (first | omega | (simp; done) | (simp; omega)))) | (with_reducible refine Below.drew ?_) | (with_reducible refine below_drewN' ?_ _) | ((refine Below.trans ?_ (Below.mono (by with_reducible assumption) ?_)); rotate_left; (focus (first | omega | (simp; done) | (simp; omega)))))

set_option maxHeartbeats 1000000 in
theorem hrpack_ok (z l g : Int) (d : Bool) (s e : Int) (w : World) (ok : Hid (okHead z l g s e)) :
    Calls Try.prog 46 #[hAgg z l g d s e] w fun x w' => x = .returned (.tuple #[.int .u64 (hF z l g (bi d)), .int .u64 (s + 256 * e), .int .i64 0]) ∧ Below w.heap.size w w' := by
  unfold hAgg hF
  obtain ⟨h1, h2, h3, h4, h5⟩ := ok.out
  have hl : inR l := by omega
  cases d
  · rw [bi_false]
    go_enter Try.func46, Try.ntmps46
    go_wp2_with fail; refine (hrright_t _ _ _ _ _ _ _ hl ok.out).mono ?_; rintro e w1 ⟨rfl, hb1⟩; have hz1 := hb1.size; (repeat (first | rw [World.size_alloc] at hz1 | rw [World.size_setCell] at hz1 | rw [World.size_drew] at hz1)); have zl1_w_0 : w.heap.size < w1.heap.size := (by omega); have ac1_w_0 := fun o => hb1.cell (p := ⟨w.heap.size, o, none⟩) (by first | omega | (simp; done) | (simp; omega)); have af1_w_0 := fun o => hb1.frozen (p := ⟨w.heap.size, o, none⟩) (by first | omega | (simp; done) | (simp; omega))
    go_wp2_with fail
    go_quiet (fail)
    go_wp2_with fail
    go_ret3; refine ⟨ret_iii (by omega) (by omega) rfl, ?_⟩
    repeat (first | (with_reducible exact Below.refl _ _) | ((with_reducible refine Below.setCell ?_ ?_ _); rotate_left; (focus (first | omega | (simp; done) | (simp; omega)))) | ((with_reducible refine Below.alloc ?_ ?_ _); rotate_left; (focus (first | omega | (simp; done) | (simp; omega)))) | (with_reducible refine Below.drew ?_) | (with_reducible refine below_drewN' ?_ _) | ((refine Below.trans ?_ (Below.mono (by with_reducible assumption) ?_)); rotate_left; (focus (first | omega | (simp; done) | (simp; omega)))))
  · rw [bi_true]
    go_enter Try.func46, Try.ntmps46
    go_wp2_with fail; refine (hrright_t _ _ _ _ _ _ _ hl ok.out).mono ?_; rintro e w1 ⟨rfl, hb1⟩; have hz1 := hb1.size; (repeat (first | rw [World.size_alloc] at hz1 | rw [World.size_setCell] at hz1 | rw [World.size_drew] at hz1)); have zl1_w_0 : w.heap.size < w1.heap.size := (by omega); have ac1_w_0 := fun o => hb1.cell (p := ⟨w.heap.size, o, none⟩) (by first | omega | (simp; done) | (simp; omega)); have af1_w_0 := fun o => hb1.frozen (p := ⟨w.heap.size, o, none⟩) (by first | omega | (simp; done) | (simp; omega))
    go_wp2_with fail
    go_quiet (fail)
    go_wp2_with fail
    go_ret3; refine ⟨ret_iii (by omega) (by omega) rfl, ?_⟩
    repeat (first | (with_reducible exact Below.refl _ _) | ((with_reducible refine Below.setCell ?_ ?_ _); rotate_left; (focus (first | omega | (simp; done) | (simp; omega)))) | ((with_reducible refine Below.alloc ?_ ?_ _); rotate_left; (focus (first | omega | (simp; done) | (simp; omega)))) | (with_reducible refine Below.drew ?_) | (with_reducible refine below_drewN' ?_ _) | ((refine Below.trans ?_ (Below.mono (by with_reducible assumption) ?_)); rotate_left; (focus (first | omega | (simp; done) | (simp; omega)))))
theorem hrpack_no (z l g : Int) (d : Bool) (s e : Int) (w : World) (hl : inR l) (no : Hid (¬ okHead z l g s e)) :
    Calls Try.prog 46 #[hAgg z l g d s e] w fun x w' => x = .returned (.tuple #[.int .u64 0, .int .u64 0, .int .i64 1]) ∧ Below w.heap.size w w' := by
  unfold hAgg
  go_enter Try.func46, Try.ntmps46
  go_wp2_with fail; refine (hrright_f _ _ _ _ _ _ _ hl no.out).mono ?_; rintro e w1 ⟨rfl, hb1⟩; have hz1 := hb1.size; (repeat (first | rw [World.size_alloc] at hz1 | rw [World.size_setCell] at hz1 | rw [World.size_drew] at hz1)); have zl1_w_0 : w.heap.size < w1.heap.size := (by omega); have ac1_w_0 := fun o => hb1.cell (p := ⟨w.heap.size, o, none⟩) (by first | omega | (simp; done) | (simp; omega)); have af1_w_0 := fun o => hb1.frozen (p := ⟨w.heap.size, o, none⟩) (by first | omega | (simp; done) | (simp; omega))
  go_wp2_with fail
  go_ret3; refine ⟨rfl, ?_⟩
  repeat (first | (with_reducible exact Below.refl _ _) | ((with_reducible refine Below.setCell ?_ ?_ _); rotate_left; (focus (first | omega | (simp; done) | (simp; omega)))) | ((with_reducible refine Below.alloc ?_ ?_ _); rotate_left; (focus (first | omega | (simp; done) | (simp; omega)))) | (with_reducible refine Below.drew ?_) | (with_reducible refine below_drewN' ?_ _) | ((refine Below.trans ?_ (Below.mono (by with_reducible assumption) ?_)); rotate_left; (focus (first | omega | (simp; done) | (simp; omega)))))

end Go.Proofs.Ytahkplakdbbmmaa
