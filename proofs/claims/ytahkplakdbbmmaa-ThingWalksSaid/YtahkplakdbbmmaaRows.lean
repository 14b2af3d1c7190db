/-
  No cell of these rows narrows 'for every input' (looked for: loops, veiled, ifaces, maps, wideKeys, modest, calm, conditions, laid).
  DERIVED. THE GIVEN ROWS OF THIS SEAT. 11 by the template 'for every input the law returns true; each argument reads behind the call as it read before'; 0 by the template 'total and deterministic' (their statements: YtahkplakdbbmmaaTotals.lean).
  GIVEN WITH THE SEED: the statements are not yours to turn. If you find one false, say at which input.
  Laid BY PROGRAM, IN A SANDBOX (cutbox-rows.mjs): the forced cells as the released guide's own fill.sh prints them over the translation d347a05c4b014b75… (all of the seat's roots in one cut). By AI agents, Wed Nov 11 2026. No macro, syntax, notation, axiom, sorry.
-/
import Derived.Test.YtahkplakdbbmmaaChecked
import GoSem.Claim
import GoSem.ClaimJoined
import GoSem.ClaimMapViews
import Derived.JoinedTies
import Derived.KernelRfl
namespace Go.Proofs.Ytahkplakdbbmmaa
/- THE CELL 'sum', in the pinned program and in every row, IS THE sha256 OF THE DUMP (.gsa) THAT YtahkplakdbbmmaaProg.lean LOADS. Nothing in Lean hashes anything: it is a label: what it is worth is what the hold of that sum in a sandbox is worth. -/
noncomputable def Try.pinned : Pinned := { name := "ytahkplakdbbmmaa", sum := "d347a05c4b014b755b7b2120a412e2dad2c258fb93443d2c74f3fa5c3b576881", checked := Try.checked }
namespace Rows
def none {H : Type} : Left H := { results := [], args := [] }

/-- 'penfoldlaw02.ArenaNew': WHATEVER THE INPUT: true; the input reads as it did. -/
def arenaNewSpec : ChangeSpec := { name := "arenaNew", fn := fun _ => fun
  | [d1, d2] => { results := [.lit (.bool true)], args := [d1, d2] }
  | _ => none }
def arenaNewRow : OpenClaim := { program := "ytahkplakdbbmmaa", sum := "d347a05c4b014b755b7b2120a412e2dad2c258fb93443d2c74f3fa5c3b576881", func := "penfold/penfoldlaw02.ArenaNew", spec := "arenaNew", apart := false }
def ArenaNewSaid : Prop := arenaNewRow.holds Try.pinned (OpenSpec.ofChange arenaNewSpec)

/-- ITS FALSE NEIGHBOUR: 'it returns false'. Refute it at one input. -/
def arenaNewWrong : ChangeSpec := { name := "arenaNew", fn := fun _ => fun
  | [d1, d2] => { results := [.lit (.bool false)], args := [d1, d2] }
  | _ => none }
def ArenaNewWrongFalsely : Prop := arenaNewRow.holds Try.pinned (OpenSpec.ofChange arenaNewWrong)

/-- 'penfoldlaw02.ArenaApart': WHATEVER THE INPUT: true; the input reads as it did. -/
def arenaApartSpec : ChangeSpec := { name := "arenaApart", fn := fun _ => fun
  | [d1, d2, d3] => { results := [.lit (.bool true)], args := [d1, d2, d3] }
  | _ => none }
def arenaApartRow : OpenClaim := { program := "ytahkplakdbbmmaa", sum := "d347a05c4b014b755b7b2120a412e2dad2c258fb93443d2c74f3fa5c3b576881", func := "penfold/penfoldlaw02.ArenaApart", spec := "arenaApart", apart := false }
def ArenaApartSaid : Prop := arenaApartRow.holds Try.pinned (OpenSpec.ofChange arenaApartSpec)

/-- ITS FALSE NEIGHBOUR: 'it returns false'. Refute it at one input. -/
def arenaApartWrong : ChangeSpec := { name := "arenaApart", fn := fun _ => fun
  | [d1, d2, d3] => { results := [.lit (.bool false)], args := [d1, d2, d3] }
  | _ => none }
def ArenaApartWrongFalsely : Prop := arenaApartRow.holds Try.pinned (OpenSpec.ofChange arenaApartWrong)

/-- 'penfoldlaw02.ArenaCas': WHATEVER THE INPUT: true; the input reads as it did. -/
def arenaCasSpec : ChangeSpec := { name := "arenaCas", fn := fun _ => fun
  | [d1, d2, d3] => { results := [.lit (.bool true)], args := [d1, d2, d3] }
  | _ => none }
def arenaCasRow : OpenClaim := { program := "ytahkplakdbbmmaa", sum := "d347a05c4b014b755b7b2120a412e2dad2c258fb93443d2c74f3fa5c3b576881", func := "penfold/penfoldlaw02.ArenaCas", spec := "arenaCas", apart := false }
def ArenaCasSaid : Prop := arenaCasRow.holds Try.pinned (OpenSpec.ofChange arenaCasSpec)

/-- ITS FALSE NEIGHBOUR: 'it returns false'. Refute it at one input. -/
def arenaCasWrong : ChangeSpec := { name := "arenaCas", fn := fun _ => fun
  | [d1, d2, d3] => { results := [.lit (.bool false)], args := [d1, d2, d3] }
  | _ => none }
def ArenaCasWrongFalsely : Prop := arenaCasRow.holds Try.pinned (OpenSpec.ofChange arenaCasWrong)

/-- 'penfoldlaw02.ArenaBytes': WHATEVER THE INPUT: true; the input reads as it did. -/
def arenaBytesSpec : ChangeSpec := { name := "arenaBytes", fn := fun _ => fun
  | [d1, d2] => { results := [.lit (.bool true)], args := [d1, d2] }
  | _ => none }
def arenaBytesRow : OpenClaim := { program := "ytahkplakdbbmmaa", sum := "d347a05c4b014b755b7b2120a412e2dad2c258fb93443d2c74f3fa5c3b576881", func := "penfold/penfoldlaw02.ArenaBytes", spec := "arenaBytes", apart := false }
def ArenaBytesSaid : Prop := arenaBytesRow.holds Try.pinned (OpenSpec.ofChange arenaBytesSpec)

/-- ITS FALSE NEIGHBOUR: 'it returns false'. Refute it at one input. -/
def arenaBytesWrong : ChangeSpec := { name := "arenaBytes", fn := fun _ => fun
  | [d1, d2] => { results := [.lit (.bool false)], args := [d1, d2] }
  | _ => none }
def ArenaBytesWrongFalsely : Prop := arenaBytesRow.holds Try.pinned (OpenSpec.ofChange arenaBytesWrong)

/-- 'penfoldlaw02.ArenaZeros': WHATEVER THE INPUT: true; the input reads as it did. -/
def arenaZerosSpec : ChangeSpec := { name := "arenaZeros", fn := fun _ => fun
  | [d1, d2, d3] => { results := [.lit (.bool true)], args := [d1, d2, d3] }
  | _ => none }
def arenaZerosRow : OpenClaim := { program := "ytahkplakdbbmmaa", sum := "d347a05c4b014b755b7b2120a412e2dad2c258fb93443d2c74f3fa5c3b576881", func := "penfold/penfoldlaw02.ArenaZeros", spec := "arenaZeros", apart := false }
def ArenaZerosSaid : Prop := arenaZerosRow.holds Try.pinned (OpenSpec.ofChange arenaZerosSpec)

/-- ITS FALSE NEIGHBOUR: 'it returns false'. Refute it at one input. -/
def arenaZerosWrong : ChangeSpec := { name := "arenaZeros", fn := fun _ => fun
  | [d1, d2, d3] => { results := [.lit (.bool false)], args := [d1, d2, d3] }
  | _ => none }
def ArenaZerosWrongFalsely : Prop := arenaZerosRow.holds Try.pinned (OpenSpec.ofChange arenaZerosWrong)

/-- 'penfoldlaw02.ArenaClaims': WHATEVER THE INPUT: true; the input reads as it did. -/
def arenaClaimsSpec : ChangeSpec := { name := "arenaClaims", fn := fun _ => fun
  | [d1, d2] => { results := [.lit (.bool true)], args := [d1, d2] }
  | _ => none }
def arenaClaimsRow : OpenClaim := { program := "ytahkplakdbbmmaa", sum := "d347a05c4b014b755b7b2120a412e2dad2c258fb93443d2c74f3fa5c3b576881", func := "penfold/penfoldlaw02.ArenaClaims", spec := "arenaClaims", apart := false }
def ArenaClaimsSaid : Prop := arenaClaimsRow.holds Try.pinned (OpenSpec.ofChange arenaClaimsSpec)

/-- ITS FALSE NEIGHBOUR: 'it returns false'. Refute it at one input. -/
def arenaClaimsWrong : ChangeSpec := { name := "arenaClaims", fn := fun _ => fun
  | [d1, d2] => { results := [.lit (.bool false)], args := [d1, d2] }
  | _ => none }
def ArenaClaimsWrongFalsely : Prop := arenaClaimsRow.holds Try.pinned (OpenSpec.ofChange arenaClaimsWrong)

/-- 'penfoldlaw02.ArenaPlays': WHATEVER THE INPUT: true; the input reads as it did. -/
def arenaPlaysSpec : ChangeSpec := { name := "arenaPlays", fn := fun _ => fun
  | [d1, d2] => { results := [.lit (.bool true)], args := [d1, d2] }
  | _ => none }
def arenaPlaysRow : OpenClaim := { program := "ytahkplakdbbmmaa", sum := "d347a05c4b014b755b7b2120a412e2dad2c258fb93443d2c74f3fa5c3b576881", func := "penfold/penfoldlaw02.ArenaPlays", spec := "arenaPlays", apart := false }
def ArenaPlaysSaid : Prop := arenaPlaysRow.holds Try.pinned (OpenSpec.ofChange arenaPlaysSpec)

/-- ITS FALSE NEIGHBOUR: 'it returns false'. Refute it at one input. -/
def arenaPlaysWrong : ChangeSpec := { name := "arenaPlays", fn := fun _ => fun
  | [d1, d2] => { results := [.lit (.bool false)], args := [d1, d2] }
  | _ => none }
def ArenaPlaysWrongFalsely : Prop := arenaPlaysRow.holds Try.pinned (OpenSpec.ofChange arenaPlaysWrong)

/-- 'penfoldlaw08.ThingAll': WHATEVER THE INPUT: true; the input reads as it did. -/
def thingAllSpec : ChangeSpec := { name := "thingAll", fn := fun _ => fun
  | [d1, d2] => { results := [.lit (.bool true)], args := [d1, d2] }
  | _ => none }
def thingAllRow : OpenClaim := { program := "ytahkplakdbbmmaa", sum := "d347a05c4b014b755b7b2120a412e2dad2c258fb93443d2c74f3fa5c3b576881", func := "penfold/penfoldlaw08.ThingAll", spec := "thingAll", unfollowed := true, recurses := true, apart := false }
def ThingAllSaid : Prop := thingAllRow.holds Try.pinned (OpenSpec.ofChange thingAllSpec)

/-- ITS FALSE NEIGHBOUR: 'it returns false'. Refute it at one input. -/
def thingAllWrong : ChangeSpec := { name := "thingAll", fn := fun _ => fun
  | [d1, d2] => { results := [.lit (.bool false)], args := [d1, d2] }
  | _ => none }
def ThingAllWrongFalsely : Prop := thingAllRow.holds Try.pinned (OpenSpec.ofChange thingAllWrong)

/-- 'penfoldlaw08.ThingCuts': WHATEVER THE INPUT: true; the input reads as it did. -/
def thingCutsSpec : ChangeSpec := { name := "thingCuts", fn := fun _ => fun
  | [d1, d2] => { results := [.lit (.bool true)], args := [d1, d2] }
  | _ => none }
def thingCutsRow : OpenClaim := { program := "ytahkplakdbbmmaa", sum := "d347a05c4b014b755b7b2120a412e2dad2c258fb93443d2c74f3fa5c3b576881", func := "penfold/penfoldlaw08.ThingCuts", spec := "thingCuts", unfollowed := true, recurses := true, apart := false }
def ThingCutsSaid : Prop := thingCutsRow.holds Try.pinned (OpenSpec.ofChange thingCutsSpec)

/-- ITS FALSE NEIGHBOUR: 'it returns false'. Refute it at one input. -/
def thingCutsWrong : ChangeSpec := { name := "thingCuts", fn := fun _ => fun
  | [d1, d2] => { results := [.lit (.bool false)], args := [d1, d2] }
  | _ => none }
def ThingCutsWrongFalsely : Prop := thingCutsRow.holds Try.pinned (OpenSpec.ofChange thingCutsWrong)

/-- 'penfoldlaw08.ThingSlots': WHATEVER THE INPUT: true; the input reads as it did. -/
def thingSlotsSpec : ChangeSpec := { name := "thingSlots", fn := fun _ => fun
  | [d] => { results := [.lit (.bool true)], args := [d] }
  | _ => none }
def thingSlotsRow : OpenClaim := { program := "ytahkplakdbbmmaa", sum := "d347a05c4b014b755b7b2120a412e2dad2c258fb93443d2c74f3fa5c3b576881", func := "penfold/penfoldlaw08.ThingSlots", spec := "thingSlots", unfollowed := true, recurses := true, apart := false }
def ThingSlotsSaid : Prop := thingSlotsRow.holds Try.pinned (OpenSpec.ofChange thingSlotsSpec)

/-- ITS FALSE NEIGHBOUR: 'it returns false'. Refute it at one input. -/
def thingSlotsWrong : ChangeSpec := { name := "thingSlots", fn := fun _ => fun
  | [d] => { results := [.lit (.bool false)], args := [d] }
  | _ => none }
def ThingSlotsWrongFalsely : Prop := thingSlotsRow.holds Try.pinned (OpenSpec.ofChange thingSlotsWrong)

/-- 'penfoldlaw08.ThingWalks': WHATEVER THE INPUT: true; the input reads as it did. -/
def thingWalksSpec : ChangeSpec := { name := "thingWalks", fn := fun _ => fun
  | [d1, d2] => { results := [.lit (.bool true)], args := [d1, d2] }
  | _ => none }
def thingWalksRow : OpenClaim := { program := "ytahkplakdbbmmaa", sum := "d347a05c4b014b755b7b2120a412e2dad2c258fb93443d2c74f3fa5c3b576881", func := "penfold/penfoldlaw08.ThingWalks", spec := "thingWalks", unfollowed := true, recurses := true, apart := false }
def ThingWalksSaid : Prop := thingWalksRow.holds Try.pinned (OpenSpec.ofChange thingWalksSpec)

/-- ITS FALSE NEIGHBOUR: 'it returns false'. Refute it at one input. -/
def thingWalksWrong : ChangeSpec := { name := "thingWalks", fn := fun _ => fun
  | [d1, d2] => { results := [.lit (.bool false)], args := [d1, d2] }
  | _ => none }
def ThingWalksWrongFalsely : Prop := thingWalksRow.holds Try.pinned (OpenSpec.ofChange thingWalksWrong)

/- THE SECOND FORM. 'bulk': how many values and letters a reading holds, each counted each time it is reached (what is shared counts as often as it is met; a slice's spare places count too). A statement '..UptoSaid' is the law's where the arguments, and the package variables that the reading takes, are together of bulk at most 1048576: NARROWER than '..Said'. Prove '..Said' where nothing that the law and all that it calls make is longer than what came in: it says more and counts as full. Else prove '..UptoSaid'. A law counts once. -/
mutual
def uptoBulk {H : Type} : DataW H → Nat
  | .lit (.string bytes) => bytes.length + 1
  | .lit _ => 1
  | .nil => 1
  | .ptr d => uptoBulk d + 1
  | .slice elems spare => uptoBulkAll elems + uptoBulkAll spare + 1
  | .agg parts => uptoBulkAll parts + 1
  | .iface _ d => uptoBulk d + 1
  | .map entries => uptoBulkEntries entries + 1
  | .held _ => 1
def uptoBulkAll {H : Type} : List (DataW H) → Nat
  | [] => 0
  | d :: r => uptoBulk d + uptoBulkAll r
def uptoBulkEntries {H : Type} : List (Lit × DataW H) → Nat
  | [] => 0
  | x :: r => uptoBulkEntry x + uptoBulkEntries r
def uptoBulkEntry {H : Type} : Lit × DataW H → Nat
  | (.string bytes, d) => bytes.length + uptoBulk d + 1
  | (_, d) => uptoBulk d + 1
 end
def uptoSmall : (H : Type) → List (DataW H) → Bool := fun _ ds => decide (uptoBulkAll ds ≤ 1048576)
def OpenSpec.upto (s : _root_.Go.ChangeSpec) : _root_.Go.OpenSpec := { _root_.Go.OpenSpec.ofChange s with cond := some uptoSmall }

/-- 'penfoldlaw02.ArenaNew', WHERE WHAT IT READS IS OF BULK AT MOST 1048576: true; the input reads as it did. -/
def arenaNewUptoRow : OpenClaim := { program := "ytahkplakdbbmmaa", sum := "d347a05c4b014b755b7b2120a412e2dad2c258fb93443d2c74f3fa5c3b576881", func := "penfold/penfoldlaw02.ArenaNew", spec := "arenaNew", apart := false, narrowed := true }
def ArenaNewUptoSaid : Prop := arenaNewUptoRow.holds Try.pinned (OpenSpec.upto arenaNewSpec)

/-- 'penfoldlaw02.ArenaApart', WHERE WHAT IT READS IS OF BULK AT MOST 1048576: true; the input reads as it did. -/
def arenaApartUptoRow : OpenClaim := { program := "ytahkplakdbbmmaa", sum := "d347a05c4b014b755b7b2120a412e2dad2c258fb93443d2c74f3fa5c3b576881", func := "penfold/penfoldlaw02.ArenaApart", spec := "arenaApart", apart := false, narrowed := true }
def ArenaApartUptoSaid : Prop := arenaApartUptoRow.holds Try.pinned (OpenSpec.upto arenaApartSpec)

/-- 'penfoldlaw02.ArenaCas', WHERE WHAT IT READS IS OF BULK AT MOST 1048576: true; the input reads as it did. -/
def arenaCasUptoRow : OpenClaim := { program := "ytahkplakdbbmmaa", sum := "d347a05c4b014b755b7b2120a412e2dad2c258fb93443d2c74f3fa5c3b576881", func := "penfold/penfoldlaw02.ArenaCas", spec := "arenaCas", apart := false, narrowed := true }
def ArenaCasUptoSaid : Prop := arenaCasUptoRow.holds Try.pinned (OpenSpec.upto arenaCasSpec)

/-- 'penfoldlaw02.ArenaBytes', WHERE WHAT IT READS IS OF BULK AT MOST 1048576: true; the input reads as it did. -/
def arenaBytesUptoRow : OpenClaim := { program := "ytahkplakdbbmmaa", sum := "d347a05c4b014b755b7b2120a412e2dad2c258fb93443d2c74f3fa5c3b576881", func := "penfold/penfoldlaw02.ArenaBytes", spec := "arenaBytes", apart := false, narrowed := true }
def ArenaBytesUptoSaid : Prop := arenaBytesUptoRow.holds Try.pinned (OpenSpec.upto arenaBytesSpec)

/-- 'penfoldlaw02.ArenaZeros', WHERE WHAT IT READS IS OF BULK AT MOST 1048576: true; the input reads as it did. -/
def arenaZerosUptoRow : OpenClaim := { program := "ytahkplakdbbmmaa", sum := "d347a05c4b014b755b7b2120a412e2dad2c258fb93443d2c74f3fa5c3b576881", func := "penfold/penfoldlaw02.ArenaZeros", spec := "arenaZeros", apart := false, narrowed := true }
def ArenaZerosUptoSaid : Prop := arenaZerosUptoRow.holds Try.pinned (OpenSpec.upto arenaZerosSpec)

/-- 'penfoldlaw02.ArenaClaims', WHERE WHAT IT READS IS OF BULK AT MOST 1048576: true; the input reads as it did. -/
def arenaClaimsUptoRow : OpenClaim := { program := "ytahkplakdbbmmaa", sum := "d347a05c4b014b755b7b2120a412e2dad2c258fb93443d2c74f3fa5c3b576881", func := "penfold/penfoldlaw02.ArenaClaims", spec := "arenaClaims", apart := false, narrowed := true }
def ArenaClaimsUptoSaid : Prop := arenaClaimsUptoRow.holds Try.pinned (OpenSpec.upto arenaClaimsSpec)

/-- 'penfoldlaw02.ArenaPlays', WHERE WHAT IT READS IS OF BULK AT MOST 1048576: true; the input reads as it did. -/
def arenaPlaysUptoRow : OpenClaim := { program := "ytahkplakdbbmmaa", sum := "d347a05c4b014b755b7b2120a412e2dad2c258fb93443d2c74f3fa5c3b576881", func := "penfold/penfoldlaw02.ArenaPlays", spec := "arenaPlays", apart := false, narrowed := true }
def ArenaPlaysUptoSaid : Prop := arenaPlaysUptoRow.holds Try.pinned (OpenSpec.upto arenaPlaysSpec)

/-- 'penfoldlaw08.ThingAll', WHERE WHAT IT READS IS OF BULK AT MOST 1048576: true; the input reads as it did. -/
def thingAllUptoRow : OpenClaim := { program := "ytahkplakdbbmmaa", sum := "d347a05c4b014b755b7b2120a412e2dad2c258fb93443d2c74f3fa5c3b576881", func := "penfold/penfoldlaw08.ThingAll", spec := "thingAll", unfollowed := true, recurses := true, apart := false, narrowed := true }
def ThingAllUptoSaid : Prop := thingAllUptoRow.holds Try.pinned (OpenSpec.upto thingAllSpec)

/-- 'penfoldlaw08.ThingCuts', WHERE WHAT IT READS IS OF BULK AT MOST 1048576: true; the input reads as it did. -/
def thingCutsUptoRow : OpenClaim := { program := "ytahkplakdbbmmaa", sum := "d347a05c4b014b755b7b2120a412e2dad2c258fb93443d2c74f3fa5c3b576881", func := "penfold/penfoldlaw08.ThingCuts", spec := "thingCuts", unfollowed := true, recurses := true, apart := false, narrowed := true }
def ThingCutsUptoSaid : Prop := thingCutsUptoRow.holds Try.pinned (OpenSpec.upto thingCutsSpec)

/-- 'penfoldlaw08.ThingSlots', WHERE WHAT IT READS IS OF BULK AT MOST 1048576: true; the input reads as it did. -/
def thingSlotsUptoRow : OpenClaim := { program := "ytahkplakdbbmmaa", sum := "d347a05c4b014b755b7b2120a412e2dad2c258fb93443d2c74f3fa5c3b576881", func := "penfold/penfoldlaw08.ThingSlots", spec := "thingSlots", unfollowed := true, recurses := true, apart := false, narrowed := true }
def ThingSlotsUptoSaid : Prop := thingSlotsUptoRow.holds Try.pinned (OpenSpec.upto thingSlotsSpec)

/-- 'penfoldlaw08.ThingWalks', WHERE WHAT IT READS IS OF BULK AT MOST 1048576: true; the input reads as it did. -/
def thingWalksUptoRow : OpenClaim := { program := "ytahkplakdbbmmaa", sum := "d347a05c4b014b755b7b2120a412e2dad2c258fb93443d2c74f3fa5c3b576881", func := "penfold/penfoldlaw08.ThingWalks", spec := "thingWalks", unfollowed := true, recurses := true, apart := false, narrowed := true }
def ThingWalksUptoSaid : Prop := thingWalksUptoRow.holds Try.pinned (OpenSpec.upto thingWalksSpec)

end Rows
end Go.Proofs.Ytahkplakdbbmmaa
