/-
  No cell of these rows narrows 'for every input' (looked for: loops, veiled, ifaces, maps, wideKeys, modest, calm, conditions, laid).
  DERIVED. THE GIVEN ROWS OF THIS SEAT. 5 by the template 'for every input the law returns true; each argument reads behind the call as it read before'; 0 by the template 'total and deterministic' (their statements: YtcimojgkeoecfaaGreatTotals.lean).
  GIVEN WITH THE SEED: the statements are not yours to turn. If you find one false, say at which input.
  Laid BY PROGRAM, IN A SANDBOX (cutbox-rows.mjs): the forced cells as the released guide's own fill.sh prints them over the translation ed379183176e391b… (all of the seat's roots in one cut). By AI agents, Wed Nov 11 2026. No macro, syntax, notation, axiom, sorry.
-/
import Derived.Test.YtcimojgkeoecfaaGreatChecked
import GoSem.Claim
import GoSem.ClaimJoined
import GoSem.ClaimMapViews
import Derived.JoinedTies
import Derived.KernelRfl
namespace Go.Proofs.YtcimojgkeoecfaaGreat
/- THE CELL 'sum', in the pinned program and in every row, IS THE sha256 OF THE DUMP (.gsa) THAT YtcimojgkeoecfaaGreatProg.lean LOADS. Nothing in Lean hashes anything: it is a label: what it is worth is what the hold of that sum in a sandbox is worth. -/
noncomputable def Tryz.pinned : Pinned := { name := "ytcimojgkeoecfaagreat", sum := "ed379183176e391bb935205b192733a17a40197f830bceb28c93d4c179f2a40b", checked := Tryz.checked }
namespace Rows
def none {H : Type} : Left H := { results := [], args := [] }

/-- 'penfoldtop.TopLinear': WHATEVER THE INPUT: true; the input reads as it did. -/
def topLinearSpec : ChangeSpec := { name := "topLinear", fn := fun _ => fun
  | [d1, d2] => { results := [.lit (.bool true)], args := [d1, d2] }
  | _ => none }
def topLinearRow : OpenClaim := { program := "ytcimojgkeoecfaagreat", sum := "ed379183176e391bb935205b192733a17a40197f830bceb28c93d4c179f2a40b", func := "penfold/penfoldtop.TopLinear", spec := "topLinear", unfollowed := true, recurses := true, plainKeys := false, apart := false }
def TopLinearSaid : Prop := topLinearRow.holds Tryz.pinned (OpenSpec.ofChange topLinearSpec)

/-- ITS FALSE NEIGHBOUR: 'it returns false'. Refute it at one input. -/
def topLinearWrong : ChangeSpec := { name := "topLinear", fn := fun _ => fun
  | [d1, d2] => { results := [.lit (.bool false)], args := [d1, d2] }
  | _ => none }
def TopLinearWrongFalsely : Prop := topLinearRow.holds Tryz.pinned (OpenSpec.ofChange topLinearWrong)

/-- 'penfoldtop.TopCodes': WHATEVER THE INPUT: true; the input reads as it did. -/
def topCodesSpec : ChangeSpec := { name := "topCodes", fn := fun _ => fun
  | [d] => { results := [.lit (.bool true)], args := [d] }
  | _ => none }
def topCodesRow : OpenClaim := { program := "ytcimojgkeoecfaagreat", sum := "ed379183176e391bb935205b192733a17a40197f830bceb28c93d4c179f2a40b", func := "penfold/penfoldtop.TopCodes", spec := "topCodes", unfollowed := true, recurses := true, plainKeys := false, apart := false }
def TopCodesSaid : Prop := topCodesRow.holds Tryz.pinned (OpenSpec.ofChange topCodesSpec)

/-- ITS FALSE NEIGHBOUR: 'it returns false'. Refute it at one input. -/
def topCodesWrong : ChangeSpec := { name := "topCodes", fn := fun _ => fun
  | [d] => { results := [.lit (.bool false)], args := [d] }
  | _ => none }
def TopCodesWrongFalsely : Prop := topCodesRow.holds Tryz.pinned (OpenSpec.ofChange topCodesWrong)

/-- 'penfoldtop.TopTouches': WHATEVER THE INPUT: true; the input reads as it did. -/
def topTouchesSpec : ChangeSpec := { name := "topTouches", fn := fun _ => fun
  | [d] => { results := [.lit (.bool true)], args := [d] }
  | _ => none }
def topTouchesRow : OpenClaim := { program := "ytcimojgkeoecfaagreat", sum := "ed379183176e391bb935205b192733a17a40197f830bceb28c93d4c179f2a40b", func := "penfold/penfoldtop.TopTouches", spec := "topTouches", unfollowed := true, recurses := true, plainKeys := false, apart := false }
def TopTouchesSaid : Prop := topTouchesRow.holds Tryz.pinned (OpenSpec.ofChange topTouchesSpec)

/-- ITS FALSE NEIGHBOUR: 'it returns false'. Refute it at one input. -/
def topTouchesWrong : ChangeSpec := { name := "topTouches", fn := fun _ => fun
  | [d] => { results := [.lit (.bool false)], args := [d] }
  | _ => none }
def TopTouchesWrongFalsely : Prop := topTouchesRow.holds Tryz.pinned (OpenSpec.ofChange topTouchesWrong)

/-- 'penfoldtop.TopMarks': WHATEVER THE INPUT: true; the input reads as it did. -/
def topMarksSpec : ChangeSpec := { name := "topMarks", fn := fun _ => fun
  | [d] => { results := [.lit (.bool true)], args := [d] }
  | _ => none }
def topMarksRow : OpenClaim := { program := "ytcimojgkeoecfaagreat", sum := "ed379183176e391bb935205b192733a17a40197f830bceb28c93d4c179f2a40b", func := "penfold/penfoldtop.TopMarks", spec := "topMarks", unfollowed := true, recurses := true, plainKeys := false, apart := false }
def TopMarksSaid : Prop := topMarksRow.holds Tryz.pinned (OpenSpec.ofChange topMarksSpec)

/-- ITS FALSE NEIGHBOUR: 'it returns false'. Refute it at one input. -/
def topMarksWrong : ChangeSpec := { name := "topMarks", fn := fun _ => fun
  | [d] => { results := [.lit (.bool false)], args := [d] }
  | _ => none }
def TopMarksWrongFalsely : Prop := topMarksRow.holds Tryz.pinned (OpenSpec.ofChange topMarksWrong)

/-- 'penfoldtop.TopOnce': WHATEVER THE INPUT: true; the input reads as it did. -/
def topOnceSpec : ChangeSpec := { name := "topOnce", fn := fun _ => fun
  | [d] => { results := [.lit (.bool true)], args := [d] }
  | _ => none }
def topOnceRow : OpenClaim := { program := "ytcimojgkeoecfaagreat", sum := "ed379183176e391bb935205b192733a17a40197f830bceb28c93d4c179f2a40b", func := "penfold/penfoldtop.TopOnce", spec := "topOnce", unfollowed := true, recurses := true, plainKeys := false, apart := false }
def TopOnceSaid : Prop := topOnceRow.holds Tryz.pinned (OpenSpec.ofChange topOnceSpec)

/-- ITS FALSE NEIGHBOUR: 'it returns false'. Refute it at one input. -/
def topOnceWrong : ChangeSpec := { name := "topOnce", fn := fun _ => fun
  | [d] => { results := [.lit (.bool false)], args := [d] }
  | _ => none }
def TopOnceWrongFalsely : Prop := topOnceRow.holds Tryz.pinned (OpenSpec.ofChange topOnceWrong)

/- THE SECOND FORM. 'bulk': how many values and letters a reading holds, each counted each time it is reached (what is shared counts as often as it is met; a slice's spare places count too). A statement '..UptoSaid' is the law's where the arguments, and the package variables that the reading takes, are together of bulk at most 1048576: NARROWER than '..Said'. Prove '..Said' where nothing that the law and all that it calls make is longer than what came in: it says more and counts as full. Else prove '..UptoSaid'. A law counts once. -/
mutual
def uptoBulk {H : Type} : DataW H → Nat
  | .lit (.string bytes) => bytes.length + 1
  | .lit _ => 1
  | .nil => 1
  | .ptr d => uptoBulk d + 1
  | .slice elems spare => uptoBulkAll elems + uptoBulkAll spare + 1
  | .agg parts => uptoBulkAll parts + 1
  | .iface _ d => uptoBulk d + 1
  | .map entries => uptoBulkEntries entries + 1
  | .held _ => 1
def uptoBulkAll {H : Type} : List (DataW H) → Nat
  | [] => 0
  | d :: r => uptoBulk d + uptoBulkAll r
def uptoBulkEntries {H : Type} : List (Lit × DataW H) → Nat
  | [] => 0
  | x :: r => uptoBulkEntry x + uptoBulkEntries r
def uptoBulkEntry {H : Type} : Lit × DataW H → Nat
  | (.string bytes, d) => bytes.length + uptoBulk d + 1
  | (_, d) => uptoBulk d + 1
 end
def uptoSmall : (H : Type) → List (DataW H) → Bool := fun _ ds => decide (uptoBulkAll ds ≤ 1048576)
def OpenSpec.upto (s : _root_.Go.ChangeSpec) : _root_.Go.OpenSpec := { _root_.Go.OpenSpec.ofChange s with cond := some uptoSmall }

/-- 'penfoldtop.TopLinear', WHERE WHAT IT READS IS OF BULK AT MOST 1048576: true; the input reads as it did. -/
def topLinearUptoRow : OpenClaim := { program := "ytcimojgkeoecfaagreat", sum := "ed379183176e391bb935205b192733a17a40197f830bceb28c93d4c179f2a40b", func := "penfold/penfoldtop.TopLinear", spec := "topLinear", unfollowed := true, recurses := true, plainKeys := false, apart := false, narrowed := true }
def TopLinearUptoSaid : Prop := topLinearUptoRow.holds Tryz.pinned (OpenSpec.upto topLinearSpec)

/-- 'penfoldtop.TopCodes', WHERE WHAT IT READS IS OF BULK AT MOST 1048576: true; the input reads as it did. -/
def topCodesUptoRow : OpenClaim := { program := "ytcimojgkeoecfaagreat", sum := "ed379183176e391bb935205b192733a17a40197f830bceb28c93d4c179f2a40b", func := "penfold/penfoldtop.TopCodes", spec := "topCodes", unfollowed := true, recurses := true, plainKeys := false, apart := false, narrowed := true }
def TopCodesUptoSaid : Prop := topCodesUptoRow.holds Tryz.pinned (OpenSpec.upto topCodesSpec)

/-- 'penfoldtop.TopTouches', WHERE WHAT IT READS IS OF BULK AT MOST 1048576: true; the input reads as it did. -/
def topTouchesUptoRow : OpenClaim := { program := "ytcimojgkeoecfaagreat", sum := "ed379183176e391bb935205b192733a17a40197f830bceb28c93d4c179f2a40b", func := "penfold/penfoldtop.TopTouches", spec := "topTouches", unfollowed := true, recurses := true, plainKeys := false, apart := false, narrowed := true }
def TopTouchesUptoSaid : Prop := topTouchesUptoRow.holds Tryz.pinned (OpenSpec.upto topTouchesSpec)

/-- 'penfoldtop.TopMarks', WHERE WHAT IT READS IS OF BULK AT MOST 1048576: true; the input reads as it did. -/
def topMarksUptoRow : OpenClaim := { program := "ytcimojgkeoecfaagreat", sum := "ed379183176e391bb935205b192733a17a40197f830bceb28c93d4c179f2a40b", func := "penfold/penfoldtop.TopMarks", spec := "topMarks", unfollowed := true, recurses := true, plainKeys := false, apart := false, narrowed := true }
def TopMarksUptoSaid : Prop := topMarksUptoRow.holds Tryz.pinned (OpenSpec.upto topMarksSpec)

/-- 'penfoldtop.TopOnce', WHERE WHAT IT READS IS OF BULK AT MOST 1048576: true; the input reads as it did. -/
def topOnceUptoRow : OpenClaim := { program := "ytcimojgkeoecfaagreat", sum := "ed379183176e391bb935205b192733a17a40197f830bceb28c93d4c179f2a40b", func := "penfold/penfoldtop.TopOnce", spec := "topOnce", unfollowed := true, recurses := true, plainKeys := false, apart := false, narrowed := true }
def TopOnceUptoSaid : Prop := topOnceUptoRow.holds Tryz.pinned (OpenSpec.upto topOnceSpec)

end Rows
end Go.Proofs.YtcimojgkeoecfaaGreat
