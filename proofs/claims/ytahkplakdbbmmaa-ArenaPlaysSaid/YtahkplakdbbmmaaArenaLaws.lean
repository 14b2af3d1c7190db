/- The laws of package arena. -/
import Derived.Test.YtahkplakdbbmmaaArenaW
namespace Go.Proofs.Ytahkplakdbbmmaa
set_option linter.unusedVariables false
set_option linter.unusedSimpArgs false
open Go.RowKit

theorem shown_b : putW (fun _ => 0) (8 : Int).toNat 258 (8 : Int).toNat = 2 := by simp [putK]
theorem shown_c : putW (fun _ => 0) (8 : Int).toNat 258 (9 : Int).toNat = 1 := by simp [putK]
theorem shown_t (w : World) :
    Calls Try.prog 14 #[] w fun e w' => e = .returned (.bool true) ∧ Below w.heap.size w w' := by
  go_enter Try.func14, Try.ntmps14
  go_wp2_with (first
    | (go_at_call 15; refine (new_t 16 _ (by omega) (by omega)).mono ?_; rintro e w1 ⟨p, g, rfl, ha, hb, hp, hg⟩)
    | (go_at_call 19; refine (put_t _ _ _ _ _ _ _ ha (by omega) (by omega) (by omega) (by unfold inU; omega)).mono ?_; rintro e w2 ⟨rfl, ha2, hb2⟩)
    | (go_at_call 17; refine (byte_t _ _ _ _ _ _ ha2 (by omega) (by omega)).mono ?_; rintro e w3 ⟨rfl, rfl⟩; first | rw [shown_b] | rw [shown_c])
    | (go_at_call 16; refine (len_t _ _ _ _ _ ha2).mono ?_; rintro e w3 ⟨rfl, rfl⟩))
  go_ret
  exact ⟨rfl, hb.trans (hb2.below hb.size hg)⟩

theorem walkArenaNew (n a : Int) (w : World) (hn : -9223372036854775808 ≤ n ∧ n ≤ 9223372036854775807) (ha : -9223372036854775808 ≤ a ∧ a ≤ 9223372036854775807) :
    Calls Try.prog 3 #[.int .i64 n, .int .i64 a] w fun e w' => e = .returned (.bool true) ∧ Below w.heap.size w w' := by
  by_cases c : n < 0 ∨ 65536 < n ∨ n % 8 ≠ 0
  · have H := Lib.hid c
    by_cases c1 : n < 0 ∨ 65536 < n
    · clear c
      go_enter Try.func3, Try.ntmps3
      go_wp2_with (first
        | (go_at_call 14; refine (shown_t _).mono ?_; rintro e w1 ⟨rfl, hb⟩)
        | (go_at_call 15; refine (new_f _ _ H.out).mono ?_; rintro e w2 ⟨rfl, rfl⟩))
      all_goals first
        | (go_ret; exact ⟨rfl, by
            repeat (first | (with_reducible exact Below.refl _ _) | ((with_reducible refine Below.setCell ?_ ?_ _); rotate_left; (focus (first | omega | (simp; done) | (simp; omega)))) | ((with_reducible refine Below.alloc ?_ ?_ _); rotate_left; (focus (first | omega | (simp; done) | (simp; omega)))) | (with_reducible refine Below.drew ?_) | (with_reducible refine below_drewN' ?_ _) | ((refine Below.trans ?_ (Below.mono (by with_reducible assumption) ?_)); rotate_left; (focus (first | omega | (simp; done) | (simp; omega)))))⟩)
        | (exfalso; omega)
    · have hb8 : (n % 8 != 0) = true := by simp; omega
      clear c
      go_enter Try.func3, Try.ntmps3
      go_wp2_with (first
        | (go_at_call 14; refine (shown_t _).mono ?_; rintro e w1 ⟨rfl, hb⟩)
        | (go_at_call 15; refine (new_f _ _ H.out).mono ?_; rintro e w2 ⟨rfl, rfl⟩))
      all_goals first
        | (go_ret; exact ⟨rfl, by
            repeat (first | (with_reducible exact Below.refl _ _) | ((with_reducible refine Below.setCell ?_ ?_ _); rotate_left; (focus (first | omega | (simp; done) | (simp; omega)))) | ((with_reducible refine Below.alloc ?_ ?_ _); rotate_left; (focus (first | omega | (simp; done) | (simp; omega)))) | (with_reducible refine Below.drew ?_) | (with_reducible refine below_drewN' ?_ _) | ((refine Below.trans ?_ (Below.mono (by with_reducible assumption) ?_)); rotate_left; (focus (first | omega | (simp; done) | (simp; omega)))))⟩)
        | (exfalso; omega)
  · obtain ⟨m, rfl⟩ := Int.eq_ofNat_of_zero_le (show 0 ≤ n by omega)
    have hm : m ≤ 65536 := by omega
    have hm8 : m % 8 = 0 := by omega
    have hb8 : ((m : Int) % 8 != 0) = false := by simp; omega
    have H8 := Lib.hid hm8
    clear c hm8
    by_cases ci : 0 ≤ a ∧ a < m
    · by_cases c8 : a % 8 = 0
      · have C8 := Lib.hid c8
        have hc8 : (a % 8 == 0) = true := by simp; omega
        clear c8
        go_enter Try.func3, Try.ntmps3
        go_wp2_with (first
          | (go_at_call 14; refine (shown_t _).mono ?_; rintro e w1 ⟨rfl, hb⟩)
          | (go_at_call 15; refine (new_t m _ hm H8.out).mono ?_; rintro e w2 ⟨p, g, rfl, ha, hb2, hp, hg⟩)
          | (go_at_call 17; refine (byte_t _ _ _ _ _ _ ha (by omega) (by omega)).mono ?_; rintro e w3 ⟨rfl, rfl⟩)
          | (go_at_call 18; refine (word_t _ _ _ _ _ _ ha (by omega) (by have := C8.out; have := H8.out; omega) C8.out).mono ?_; rintro e w3 ⟨rfl, rfl⟩; rw [wordAt, wsum_zero])
          | (go_at_call 16; refine (len_t _ _ _ _ _ ha).mono ?_; rintro e w3 ⟨rfl, rfl⟩))
        go_ret; exact ⟨rfl, hb.trans (hb2.mono hb.size)⟩
      · have C8 := Lib.hid c8
        have hc8 : (a % 8 == 0) = false := by simp; omega
        clear c8
        go_enter Try.func3, Try.ntmps3
        go_wp2_with (first
          | (go_at_call 14; refine (shown_t _).mono ?_; rintro e w1 ⟨rfl, hb⟩)
          | (go_at_call 15; refine (new_t m _ hm H8.out).mono ?_; rintro e w2 ⟨p, g, rfl, ha, hb2, hp, hg⟩)
          | (go_at_call 17; refine (byte_t _ _ _ _ _ _ ha (by omega) (by omega)).mono ?_; rintro e w3 ⟨rfl, rfl⟩)
          | (go_at_call 18; refine (word_f _ _ _ _ _ _ ha (by have := C8.out; have := H8.out; omega)).mono ?_; rintro e w3 ⟨rfl, rfl⟩)
          | (go_at_call 16; refine (len_t _ _ _ _ _ ha).mono ?_; rintro e w3 ⟨rfl, rfl⟩))
        go_ret; exact ⟨rfl, hb.trans (hb2.mono hb.size)⟩
    · have C8 := Lib.hid ci
      by_cases cj : 0 ≤ a
      · have ck : (m : Int) ≤ a := by omega
        clear ci
        go_enter Try.func3, Try.ntmps3
        go_wp2_with (first
          | (go_at_call 14; refine (shown_t _).mono ?_; rintro e w1 ⟨rfl, hb⟩)
          | (go_at_call 15; refine (new_t m _ hm H8.out).mono ?_; rintro e w2 ⟨p, g, rfl, ha, hb2, hp, hg⟩)
          | (go_at_call 17; refine (byte_f _ _ _ _ _ _ ha (by omega)).mono ?_; rintro e w3 ⟨rfl, rfl⟩)
          | (go_at_call 18; refine (word_f _ _ _ _ _ _ ha (by have := C8.out; have := H8.out; omega)).mono ?_; rintro e w3 ⟨rfl, rfl⟩)
          | (go_at_call 16; refine (len_t _ _ _ _ _ ha).mono ?_; rintro e w3 ⟨rfl, rfl⟩))
        go_ret; exact ⟨rfl, hb.trans (hb2.mono hb.size)⟩
      · clear ci
        go_enter Try.func3, Try.ntmps3
        go_wp2_with (first
          | (go_at_call 14; refine (shown_t _).mono ?_; rintro e w1 ⟨rfl, hb⟩)
          | (go_at_call 15; refine (new_t m _ hm H8.out).mono ?_; rintro e w2 ⟨p, g, rfl, ha, hb2, hp, hg⟩)
          | (go_at_call 17; refine (byte_f _ _ _ _ _ _ ha (by omega)).mono ?_; rintro e w3 ⟨rfl, rfl⟩)
          | (go_at_call 18; refine (word_f _ _ _ _ _ _ ha (by have := C8.out; have := H8.out; omega)).mono ?_; rintro e w3 ⟨rfl, rfl⟩)
          | (go_at_call 16; refine (len_t _ _ _ _ _ ha).mono ?_; rintro e w3 ⟨rfl, rfl⟩))
        go_ret; exact ⟨rfl, hb.trans (hb2.mono hb.size)⟩

end Go.Proofs.Ytahkplakdbbmmaa
