/-
  No cell of these rows narrows 'for every input' (looked for: loops, veiled, ifaces, maps, wideKeys, modest, calm, conditions, laid).
  DERIVED. THE GIVEN ROWS OF THIS SEAT. 10 by the template 'for every input the law returns true; each argument reads behind the call as it read before'; 0 by the template 'total and deterministic' (their statements: YtabodolbdalimaaTotals.lean).
  GIVEN WITH THE SEED: the statements are not yours to turn. If you find one false, say at which input.
  Laid BY PROGRAM, IN A SANDBOX (cutbox-rows.mjs): the forced cells as the released guide's own fill.sh prints them over the translation 06b5660992305529… (all of the seat's roots in one cut). By AI agents, Wed Nov 11 2026. No macro, syntax, notation, axiom, sorry.
-/
import Derived.Test.YtabodolbdalimaaChecked
import GoSem.Claim
import GoSem.ClaimJoined
import GoSem.ClaimMapViews
import Derived.JoinedTies
import Derived.KernelRfl
namespace Go.Proofs.Ytabodolbdalimaa
/- THE CELL 'sum', in the pinned program and in every row, IS THE sha256 OF THE DUMP (.gsa) THAT YtabodolbdalimaaProg.lean LOADS. Nothing in Lean hashes anything: it is a label: what it is worth is what the hold of that sum in a sandbox is worth. -/
noncomputable def Try.pinned : Pinned := { name := "ytabodolbdalimaa", sum := "06b5660992305529c67e83543f7291ba5a5d7fc932facb939451012973a4210f", checked := Try.checked }
namespace Rows
def none {H : Type} : Left H := { results := [], args := [] }

/-- 'matchguardlaw25.CubeMinus': WHATEVER THE INPUT: true; the input reads as it did. -/
def cubeMinusSpec : ChangeSpec := { name := "cubeMinus", fn := fun _ => fun
  | [d1, d2, d3, d4] => { results := [.lit (.bool true)], args := [d1, d2, d3, d4] }
  | _ => none }
def cubeMinusRow : OpenClaim := { program := "ytabodolbdalimaa", sum := "06b5660992305529c67e83543f7291ba5a5d7fc932facb939451012973a4210f", func := "matchguard/matchguardlaw25.CubeMinus", spec := "cubeMinus", unfollowed := true, recurses := true, apart := false }
def CubeMinusSaid : Prop := cubeMinusRow.holds Try.pinned (OpenSpec.ofChange cubeMinusSpec)

/-- ITS FALSE NEIGHBOUR: 'it returns false'. Refute it at one input. -/
def cubeMinusWrong : ChangeSpec := { name := "cubeMinus", fn := fun _ => fun
  | [d1, d2, d3, d4] => { results := [.lit (.bool false)], args := [d1, d2, d3, d4] }
  | _ => none }
def CubeMinusWrongFalsely : Prop := cubeMinusRow.holds Try.pinned (OpenSpec.ofChange cubeMinusWrong)

/-- 'matchguardlaw25.CubeFixes': WHATEVER THE INPUT: true; the input reads as it did. -/
def cubeFixesSpec : ChangeSpec := { name := "cubeFixes", fn := fun _ => fun
  | [d1, d2, d3, d4] => { results := [.lit (.bool true)], args := [d1, d2, d3, d4] }
  | _ => none }
def cubeFixesRow : OpenClaim := { program := "ytabodolbdalimaa", sum := "06b5660992305529c67e83543f7291ba5a5d7fc932facb939451012973a4210f", func := "matchguard/matchguardlaw25.CubeFixes", spec := "cubeFixes", unfollowed := true, recurses := true, apart := false }
def CubeFixesSaid : Prop := cubeFixesRow.holds Try.pinned (OpenSpec.ofChange cubeFixesSpec)

/-- ITS FALSE NEIGHBOUR: 'it returns false'. Refute it at one input. -/
def cubeFixesWrong : ChangeSpec := { name := "cubeFixes", fn := fun _ => fun
  | [d1, d2, d3, d4] => { results := [.lit (.bool false)], args := [d1, d2, d3, d4] }
  | _ => none }
def CubeFixesWrongFalsely : Prop := cubeFixesRow.holds Try.pinned (OpenSpec.ofChange cubeFixesWrong)

/-- 'matchguardlaw25.CubeParts': WHATEVER THE INPUT: true; the input reads as it did. -/
def cubePartsSpec : ChangeSpec := { name := "cubeParts", fn := fun _ => fun
  | [d1, d2, d3, d4, d5] => { results := [.lit (.bool true)], args := [d1, d2, d3, d4, d5] }
  | _ => none }
def cubePartsRow : OpenClaim := { program := "ytabodolbdalimaa", sum := "06b5660992305529c67e83543f7291ba5a5d7fc932facb939451012973a4210f", func := "matchguard/matchguardlaw25.CubeParts", spec := "cubeParts", unfollowed := true, recurses := true, apart := false }
def CubePartsSaid : Prop := cubePartsRow.holds Try.pinned (OpenSpec.ofChange cubePartsSpec)

/-- ITS FALSE NEIGHBOUR: 'it returns false'. Refute it at one input. -/
def cubePartsWrong : ChangeSpec := { name := "cubeParts", fn := fun _ => fun
  | [d1, d2, d3, d4, d5] => { results := [.lit (.bool false)], args := [d1, d2, d3, d4, d5] }
  | _ => none }
def CubePartsWrongFalsely : Prop := cubePartsRow.holds Try.pinned (OpenSpec.ofChange cubePartsWrong)

/-- 'matchguardlaw25.CubeMeets': WHATEVER THE INPUT: true; the input reads as it did. -/
def cubeMeetsSpec : ChangeSpec := { name := "cubeMeets", fn := fun _ => fun
  | [d1, d2, d3, d4, d5] => { results := [.lit (.bool true)], args := [d1, d2, d3, d4, d5] }
  | _ => none }
def cubeMeetsRow : OpenClaim := { program := "ytabodolbdalimaa", sum := "06b5660992305529c67e83543f7291ba5a5d7fc932facb939451012973a4210f", func := "matchguard/matchguardlaw25.CubeMeets", spec := "cubeMeets", unfollowed := true, recurses := true, apart := false }
def CubeMeetsSaid : Prop := cubeMeetsRow.holds Try.pinned (OpenSpec.ofChange cubeMeetsSpec)

/-- ITS FALSE NEIGHBOUR: 'it returns false'. Refute it at one input. -/
def cubeMeetsWrong : ChangeSpec := { name := "cubeMeets", fn := fun _ => fun
  | [d1, d2, d3, d4, d5] => { results := [.lit (.bool false)], args := [d1, d2, d3, d4, d5] }
  | _ => none }
def CubeMeetsWrongFalsely : Prop := cubeMeetsRow.holds Try.pinned (OpenSpec.ofChange cubeMeetsWrong)

/-- 'matchguardlaw26.CoverDecides': WHATEVER THE INPUT: true; the input reads as it did. -/
def coverDecidesSpec : ChangeSpec := { name := "coverDecides", fn := fun _ => fun
  | [d1, d2] => { results := [.lit (.bool true)], args := [d1, d2] }
  | _ => none }
def coverDecidesRow : OpenClaim := { program := "ytabodolbdalimaa", sum := "06b5660992305529c67e83543f7291ba5a5d7fc932facb939451012973a4210f", func := "matchguard/matchguardlaw26.CoverDecides", spec := "coverDecides", unfollowed := true, recurses := true, apart := false }
def CoverDecidesSaid : Prop := coverDecidesRow.holds Try.pinned (OpenSpec.ofChange coverDecidesSpec)

/-- ITS FALSE NEIGHBOUR: 'it returns false'. Refute it at one input. -/
def coverDecidesWrong : ChangeSpec := { name := "coverDecides", fn := fun _ => fun
  | [d1, d2] => { results := [.lit (.bool false)], args := [d1, d2] }
  | _ => none }
def CoverDecidesWrongFalsely : Prop := coverDecidesRow.holds Try.pinned (OpenSpec.ofChange coverDecidesWrong)

/-- 'matchguardlaw26.CoverParts': WHATEVER THE INPUT: true; the input reads as it did. -/
def coverPartsSpec : ChangeSpec := { name := "coverParts", fn := fun _ => fun
  | [d1, d2, d3] => { results := [.lit (.bool true)], args := [d1, d2, d3] }
  | _ => none }
def coverPartsRow : OpenClaim := { program := "ytabodolbdalimaa", sum := "06b5660992305529c67e83543f7291ba5a5d7fc932facb939451012973a4210f", func := "matchguard/matchguardlaw26.CoverParts", spec := "coverParts", unfollowed := true, recurses := true, apart := false }
def CoverPartsSaid : Prop := coverPartsRow.holds Try.pinned (OpenSpec.ofChange coverPartsSpec)

/-- ITS FALSE NEIGHBOUR: 'it returns false'. Refute it at one input. -/
def coverPartsWrong : ChangeSpec := { name := "coverParts", fn := fun _ => fun
  | [d1, d2, d3] => { results := [.lit (.bool false)], args := [d1, d2, d3] }
  | _ => none }
def CoverPartsWrongFalsely : Prop := coverPartsRow.holds Try.pinned (OpenSpec.ofChange coverPartsWrong)

/-- 'matchguardlaw26.CoverPoints': WHATEVER THE INPUT: true; the input reads as it did. -/
def coverPointsSpec : ChangeSpec := { name := "coverPoints", fn := fun _ => fun
  | [d1, d2, d3] => { results := [.lit (.bool true)], args := [d1, d2, d3] }
  | _ => none }
def coverPointsRow : OpenClaim := { program := "ytabodolbdalimaa", sum := "06b5660992305529c67e83543f7291ba5a5d7fc932facb939451012973a4210f", func := "matchguard/matchguardlaw26.CoverPoints", spec := "coverPoints", unfollowed := true, recurses := true, apart := false }
def CoverPointsSaid : Prop := coverPointsRow.holds Try.pinned (OpenSpec.ofChange coverPointsSpec)

/-- ITS FALSE NEIGHBOUR: 'it returns false'. Refute it at one input. -/
def coverPointsWrong : ChangeSpec := { name := "coverPoints", fn := fun _ => fun
  | [d1, d2, d3] => { results := [.lit (.bool false)], args := [d1, d2, d3] }
  | _ => none }
def CoverPointsWrongFalsely : Prop := coverPointsRow.holds Try.pinned (OpenSpec.ofChange coverPointsWrong)

/-- 'matchguardlaw26.CoverReduce': WHATEVER THE INPUT: true; the input reads as it did. -/
def coverReduceSpec : ChangeSpec := { name := "coverReduce", fn := fun _ => fun
  | [d1, d2] => { results := [.lit (.bool true)], args := [d1, d2] }
  | _ => none }
def coverReduceRow : OpenClaim := { program := "ytabodolbdalimaa", sum := "06b5660992305529c67e83543f7291ba5a5d7fc932facb939451012973a4210f", func := "matchguard/matchguardlaw26.CoverReduce", spec := "coverReduce", unfollowed := true, recurses := true, apart := false }
def CoverReduceSaid : Prop := coverReduceRow.holds Try.pinned (OpenSpec.ofChange coverReduceSpec)

/-- ITS FALSE NEIGHBOUR: 'it returns false'. Refute it at one input. -/
def coverReduceWrong : ChangeSpec := { name := "coverReduce", fn := fun _ => fun
  | [d1, d2] => { results := [.lit (.bool false)], args := [d1, d2] }
  | _ => none }
def CoverReduceWrongFalsely : Prop := coverReduceRow.holds Try.pinned (OpenSpec.ofChange coverReduceWrong)

/-- 'matchguardlaw26.CoverWitness': WHATEVER THE INPUT: true; the input reads as it did. -/
def coverWitnessSpec : ChangeSpec := { name := "coverWitness", fn := fun _ => fun
  | [d1, d2] => { results := [.lit (.bool true)], args := [d1, d2] }
  | _ => none }
def coverWitnessRow : OpenClaim := { program := "ytabodolbdalimaa", sum := "06b5660992305529c67e83543f7291ba5a5d7fc932facb939451012973a4210f", func := "matchguard/matchguardlaw26.CoverWitness", spec := "coverWitness", unfollowed := true, recurses := true, apart := false }
def CoverWitnessSaid : Prop := coverWitnessRow.holds Try.pinned (OpenSpec.ofChange coverWitnessSpec)

/-- ITS FALSE NEIGHBOUR: 'it returns false'. Refute it at one input. -/
def coverWitnessWrong : ChangeSpec := { name := "coverWitness", fn := fun _ => fun
  | [d1, d2] => { results := [.lit (.bool false)], args := [d1, d2] }
  | _ => none }
def CoverWitnessWrongFalsely : Prop := coverWitnessRow.holds Try.pinned (OpenSpec.ofChange coverWitnessWrong)

/-- 'matchguardlaw25.CubeEntries': WHATEVER THE INPUT: true; the input reads as it did. -/
def cubeEntriesSpec : ChangeSpec := { name := "cubeEntries", fn := fun _ => fun
  | [d1, d2, d3] => { results := [.lit (.bool true)], args := [d1, d2, d3] }
  | _ => none }
def cubeEntriesRow : OpenClaim := { program := "ytabodolbdalimaa", sum := "06b5660992305529c67e83543f7291ba5a5d7fc932facb939451012973a4210f", func := "matchguard/matchguardlaw25.CubeEntries", spec := "cubeEntries", unfollowed := true, recurses := true, apart := false }
def CubeEntriesSaid : Prop := cubeEntriesRow.holds Try.pinned (OpenSpec.ofChange cubeEntriesSpec)

/-- ITS FALSE NEIGHBOUR: 'it returns false'. Refute it at one input. -/
def cubeEntriesWrong : ChangeSpec := { name := "cubeEntries", fn := fun _ => fun
  | [d1, d2, d3] => { results := [.lit (.bool false)], args := [d1, d2, d3] }
  | _ => none }
def CubeEntriesWrongFalsely : Prop := cubeEntriesRow.holds Try.pinned (OpenSpec.ofChange cubeEntriesWrong)

/- THE SECOND FORM. 'bulk': how many values and letters a reading holds, each counted each time it is reached (what is shared counts as often as it is met; a slice's spare places count too). A statement '..UptoSaid' is the law's where the arguments, and the package variables that the reading takes, are together of bulk at most 1048576: NARROWER than '..Said'. Prove '..Said' where nothing that the law and all that it calls make is longer than what came in: it says more and counts as full. Else prove '..UptoSaid'. A law counts once. -/
mutual
def uptoBulk {H : Type} : DataW H → Nat
  | .lit (.string bytes) => bytes.length + 1
  | .lit _ => 1
  | .nil => 1
  | .ptr d => uptoBulk d + 1
  | .slice elems spare => uptoBulkAll elems + uptoBulkAll spare + 1
  | .agg parts => uptoBulkAll parts + 1
  | .iface _ d => uptoBulk d + 1
  | .map entries => uptoBulkEntries entries + 1
  | .held _ => 1
def uptoBulkAll {H : Type} : List (DataW H) → Nat
  | [] => 0
  | d :: r => uptoBulk d + uptoBulkAll r
def uptoBulkEntries {H : Type} : List (Lit × DataW H) → Nat
  | [] => 0
  | x :: r => uptoBulkEntry x + uptoBulkEntries r
def uptoBulkEntry {H : Type} : Lit × DataW H → Nat
  | (.string bytes, d) => bytes.length + uptoBulk d + 1
  | (_, d) => uptoBulk d + 1
 end
def uptoSmall : (H : Type) → List (DataW H) → Bool := fun _ ds => decide (uptoBulkAll ds ≤ 1048576)
def OpenSpec.upto (s : _root_.Go.ChangeSpec) : _root_.Go.OpenSpec := { _root_.Go.OpenSpec.ofChange s with cond := some uptoSmall }

/-- 'matchguardlaw25.CubeMinus', WHERE WHAT IT READS IS OF BULK AT MOST 1048576: true; the input reads as it did. -/
def cubeMinusUptoRow : OpenClaim := { program := "ytabodolbdalimaa", sum := "06b5660992305529c67e83543f7291ba5a5d7fc932facb939451012973a4210f", func := "matchguard/matchguardlaw25.CubeMinus", spec := "cubeMinus", unfollowed := true, recurses := true, apart := false, narrowed := true }
def CubeMinusUptoSaid : Prop := cubeMinusUptoRow.holds Try.pinned (OpenSpec.upto cubeMinusSpec)

/-- 'matchguardlaw25.CubeFixes', WHERE WHAT IT READS IS OF BULK AT MOST 1048576: true; the input reads as it did. -/
def cubeFixesUptoRow : OpenClaim := { program := "ytabodolbdalimaa", sum := "06b5660992305529c67e83543f7291ba5a5d7fc932facb939451012973a4210f", func := "matchguard/matchguardlaw25.CubeFixes", spec := "cubeFixes", unfollowed := true, recurses := true, apart := false, narrowed := true }
def CubeFixesUptoSaid : Prop := cubeFixesUptoRow.holds Try.pinned (OpenSpec.upto cubeFixesSpec)

/-- 'matchguardlaw25.CubeParts', WHERE WHAT IT READS IS OF BULK AT MOST 1048576: true; the input reads as it did. -/
def cubePartsUptoRow : OpenClaim := { program := "ytabodolbdalimaa", sum := "06b5660992305529c67e83543f7291ba5a5d7fc932facb939451012973a4210f", func := "matchguard/matchguardlaw25.CubeParts", spec := "cubeParts", unfollowed := true, recurses := true, apart := false, narrowed := true }
def CubePartsUptoSaid : Prop := cubePartsUptoRow.holds Try.pinned (OpenSpec.upto cubePartsSpec)

/-- 'matchguardlaw25.CubeMeets', WHERE WHAT IT READS IS OF BULK AT MOST 1048576: true; the input reads as it did. -/
def cubeMeetsUptoRow : OpenClaim := { program := "ytabodolbdalimaa", sum := "06b5660992305529c67e83543f7291ba5a5d7fc932facb939451012973a4210f", func := "matchguard/matchguardlaw25.CubeMeets", spec := "cubeMeets", unfollowed := true, recurses := true, apart := false, narrowed := true }
def CubeMeetsUptoSaid : Prop := cubeMeetsUptoRow.holds Try.pinned (OpenSpec.upto cubeMeetsSpec)

/-- 'matchguardlaw26.CoverDecides', WHERE WHAT IT READS IS OF BULK AT MOST 1048576: true; the input reads as it did. -/
def coverDecidesUptoRow : OpenClaim := { program := "ytabodolbdalimaa", sum := "06b5660992305529c67e83543f7291ba5a5d7fc932facb939451012973a4210f", func := "matchguard/matchguardlaw26.CoverDecides", spec := "coverDecides", unfollowed := true, recurses := true, apart := false, narrowed := true }
def CoverDecidesUptoSaid : Prop := coverDecidesUptoRow.holds Try.pinned (OpenSpec.upto coverDecidesSpec)

/-- 'matchguardlaw26.CoverParts', WHERE WHAT IT READS IS OF BULK AT MOST 1048576: true; the input reads as it did. -/
def coverPartsUptoRow : OpenClaim := { program := "ytabodolbdalimaa", sum := "06b5660992305529c67e83543f7291ba5a5d7fc932facb939451012973a4210f", func := "matchguard/matchguardlaw26.CoverParts", spec := "coverParts", unfollowed := true, recurses := true, apart := false, narrowed := true }
def CoverPartsUptoSaid : Prop := coverPartsUptoRow.holds Try.pinned (OpenSpec.upto coverPartsSpec)

/-- 'matchguardlaw26.CoverPoints', WHERE WHAT IT READS IS OF BULK AT MOST 1048576: true; the input reads as it did. -/
def coverPointsUptoRow : OpenClaim := { program := "ytabodolbdalimaa", sum := "06b5660992305529c67e83543f7291ba5a5d7fc932facb939451012973a4210f", func := "matchguard/matchguardlaw26.CoverPoints", spec := "coverPoints", unfollowed := true, recurses := true, apart := false, narrowed := true }
def CoverPointsUptoSaid : Prop := coverPointsUptoRow.holds Try.pinned (OpenSpec.upto coverPointsSpec)

/-- 'matchguardlaw26.CoverReduce', WHERE WHAT IT READS IS OF BULK AT MOST 1048576: true; the input reads as it did. -/
def coverReduceUptoRow : OpenClaim := { program := "ytabodolbdalimaa", sum := "06b5660992305529c67e83543f7291ba5a5d7fc932facb939451012973a4210f", func := "matchguard/matchguardlaw26.CoverReduce", spec := "coverReduce", unfollowed := true, recurses := true, apart := false, narrowed := true }
def CoverReduceUptoSaid : Prop := coverReduceUptoRow.holds Try.pinned (OpenSpec.upto coverReduceSpec)

/-- 'matchguardlaw26.CoverWitness', WHERE WHAT IT READS IS OF BULK AT MOST 1048576: true; the input reads as it did. -/
def coverWitnessUptoRow : OpenClaim := { program := "ytabodolbdalimaa", sum := "06b5660992305529c67e83543f7291ba5a5d7fc932facb939451012973a4210f", func := "matchguard/matchguardlaw26.CoverWitness", spec := "coverWitness", unfollowed := true, recurses := true, apart := false, narrowed := true }
def CoverWitnessUptoSaid : Prop := coverWitnessUptoRow.holds Try.pinned (OpenSpec.upto coverWitnessSpec)

/-- 'matchguardlaw25.CubeEntries', WHERE WHAT IT READS IS OF BULK AT MOST 1048576: true; the input reads as it did. -/
def cubeEntriesUptoRow : OpenClaim := { program := "ytabodolbdalimaa", sum := "06b5660992305529c67e83543f7291ba5a5d7fc932facb939451012973a4210f", func := "matchguard/matchguardlaw25.CubeEntries", spec := "cubeEntries", unfollowed := true, recurses := true, apart := false, narrowed := true }
def CubeEntriesUptoSaid : Prop := cubeEntriesUptoRow.holds Try.pinned (OpenSpec.upto cubeEntriesSpec)

end Rows
end Go.Proofs.Ytabodolbdalimaa
