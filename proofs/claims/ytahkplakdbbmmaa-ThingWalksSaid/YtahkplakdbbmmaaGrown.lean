/- What an append leaves as it was. -/
import Derived.Test.YtahkplakdbbmmaaRow
import Derived.Test.YtahkplakdbbmmaaWalk
import Derived.StillTailTactics
namespace Go.Proofs.Ytahkplakdbbmmaa
set_option linter.unusedVariables false
set_option linter.unusedSimpArgs false
open Go.RowKit

theorem own_row_ge {w : World} {B e size n : Nat} {v : Value} {xs : List Value} (h : w.ownsRow B e size v n xs) : ∀ j, v.ownBlock = some j → B ≤ j := fun j e => (own_block h e).1
theorem isW.grown {w w' : World} {p g n B : Nat} {F : Nat → Int} {r : Option Nat} (h : isW w p g n F) (hg : w.grownBy w' r) (hr : ∀ j, r = some j → B ≤ j) (hp : p < B) (hg' : g < B) : isW w' p g n F :=
  h.heap (hg.block p h.lts.1 fun e => by have := hr p e.symm; omega) (hg.block g h.lts.2.1 fun e => by have := hr g e.symm; omega)
theorem rd.grown {w w' : World} {B B' : Nat} {A : Option Addr} {n size : Nat} {row : Nat → List Value} {r : Option Nat} (h : rd w B A n size row) (hg : w.grownBy w' r) (hr : ∀ j, r = some j → B' ≤ j) (hB : B ≤ B') (hw : B ≤ w.heap.size) : rd w' B A n size row :=
  h.keep fun q hq => World.cell?_of_block (w := w) (hg.block q.block (by omega) fun e => by have := hr q.block e.symm; omega)
theorem Blk.grown {w w' : World} {k : Nat} {t : TypeId} {cs : Array Value} {r : Option Nat} (h : Blk w k t cs) (hg : w.grownBy w' r) (hr : r ≠ some k) : Blk w' k t cs :=
  (hg.block k h.lt fun e => hr e.symm).trans h
theorem blk_row_ne {w : World} {B e s n k : Nat} {v : Value} {xs : List Value} {t : TypeId} {cs : Array Value} (h : w.ownsRow B e s v n xs) (b : Blk w k t cs) (ht : t ≠ e) : v.ownBlock ≠ some k := by
  intro he
  rcases h.2 with ⟨rfl, _⟩ | ⟨g, cap, cur, rfl, h3, h4, h5⟩
  · simp [Value.ownBlock] at he
  · simp [Value.ownBlock] at he
    subst he
    unfold Blk at b
    rw [h4] at b
    simp at b
    exact ht b.2.symm
/-- Two rows of two types. -/
theorem own_grown_ne {w w0 w' : World} {B1 B2 e1 e2 s1 s2 n1 n2 : Nat} {v1 v2 : Value} {xs1 xs2 : List Value} (h1 : w0.ownsRow B1 e1 s1 v1 n1 xs1) (h2 : w0.ownsRow B2 e2 s2 v2 n2 xs2) (he : e2 ≠ e1) (hb : Below w0.heap.size w0 w) (hg : w.grownBy w' v1.ownBlock) : w'.ownsRow B2 e2 s2 v2 n2 xs2 := by
  rcases h2.2 with h | ⟨g, cap, cur, rfl, h3, h4, h5⟩
  · exact ⟨h2.1, .inl h⟩
  · have hl : g < w0.heap.size := (Array.getElem?_eq_some_iff.1 h4).1
    exact ⟨h2.1, .inr ⟨g, cap, cur, rfl, h3, (hg.block g (by have := hb.size; omega) fun e => blk_row_ne h1 (show Blk w0 g e2 cur from h4) he e.symm).trans ((hb.block g hl).trans h4), h5⟩⟩
theorem tail_still {P : Program} {id : Nat} {Q : Exit → Act → World → Prop} {a : Act} {w : World} {l : List Oper} (n : Nat) (hm : P.follows .mixedOrders = true) (hB : Region.lexTailB .any l.toArray n = true)
    (h : ∀ W, W = w.drew → wpStill P l.toArray W (fun a' => wpList P l.toArray Q (l.drop n) a' W) (l.take n) a) : (Code.region id l.toArray true).wp P Q a w :=
  wp_region_still_tail n hm hB (h _ rfl)
/-- The goal as it stands. -/
def Stop (p : Prop) : Prop := p
theorem stop_here {p : Prop} (h : Stop p) : p := h
theorem i64_and1 (n : Int) : bits .and .i64 n 1 = n % 2 := i64_mask 1 (by decide) n
end Go.Proofs.Ytahkplakdbbmmaa
