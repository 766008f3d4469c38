/-
  No cell of these rows narrows 'for every input' (looked for: loops, veiled, ifaces, maps, wideKeys, modest, calm, conditions, laid).
  DERIVED. THE GIVEN ROWS OF THIS SEAT. 7 by the template 'for every input the law returns true; each argument reads behind the call as it read before'; 0 by the template 'total and deterministic' (their statements: YtmcjlfmeoehcmaaGreatTotals.lean).
  GIVEN WITH THE SEED: the statements are not yours to turn. If you find one false, say at which input.
  Laid BY PROGRAM, IN A SANDBOX (cutbox-rows.mjs): the forced cells as the released guide's own fill.sh prints them over the translation d5f49cc80505b4e8… (all of the seat's roots in one cut). By AI agents, Wed Nov 11 2026. No macro, syntax, notation, axiom, sorry.
-/
import Derived.Test.YtmcjlfmeoehcmaaGreatChecked
import GoSem.Claim
import GoSem.ClaimJoined
import GoSem.ClaimMapViews
import Derived.JoinedTies
import Derived.KernelRfl
namespace Go.Proofs.YtmcjlfmeoehcmaaGreat
/- THE CELL 'sum', in the pinned program and in every row, IS THE sha256 OF THE DUMP (.gsa) THAT YtmcjlfmeoehcmaaGreatProg.lean LOADS. Nothing in Lean hashes anything: it is a label: what it is worth is what the hold of that sum in a sandbox is worth. -/
noncomputable def Tryz.pinned : Pinned := { name := "ytmcjlfmeoehcmaagreat", sum := "d5f49cc80505b4e8652afea71a082c7ce7ee493162af90ce2a5d39fbe5dc7b90", checked := Tryz.checked }
namespace Rows
def none {H : Type} : Left H := { results := [], args := [] }

/-- 'matchguardlaw22.BatchPrefix': WHATEVER THE INPUT: true; the input reads as it did. -/
def batchPrefixSpec : ChangeSpec := { name := "batchPrefix", fn := fun _ => fun
  | [d1, d2] => { results := [.lit (.bool true)], args := [d1, d2] }
  | _ => none }
def batchPrefixRow : OpenClaim := { program := "ytmcjlfmeoehcmaagreat", sum := "d5f49cc80505b4e8652afea71a082c7ce7ee493162af90ce2a5d39fbe5dc7b90", func := "matchguard/matchguardlaw22.BatchPrefix", spec := "batchPrefix", inPlace := ["math/bits.Add64"], unfollowed := true, recurses := true, plainKeys := false, apart := false }
def BatchPrefixSaid : Prop := batchPrefixRow.holds Tryz.pinned (OpenSpec.ofChange batchPrefixSpec)

/-- ITS FALSE NEIGHBOUR: 'it returns false'. Refute it at one input. -/
def batchPrefixWrong : ChangeSpec := { name := "batchPrefix", fn := fun _ => fun
  | [d1, d2] => { results := [.lit (.bool false)], args := [d1, d2] }
  | _ => none }
def BatchPrefixWrongFalsely : Prop := batchPrefixRow.holds Tryz.pinned (OpenSpec.ofChange batchPrefixWrong)

/-- 'matchguardlaw22.BatchValid': WHATEVER THE INPUT: true; the input reads as it did. -/
def batchValidSpec : ChangeSpec := { name := "batchValid", fn := fun _ => fun
  | [d1, d2, d3] => { results := [.lit (.bool true)], args := [d1, d2, d3] }
  | _ => none }
def batchValidRow : OpenClaim := { program := "ytmcjlfmeoehcmaagreat", sum := "d5f49cc80505b4e8652afea71a082c7ce7ee493162af90ce2a5d39fbe5dc7b90", func := "matchguard/matchguardlaw22.BatchValid", spec := "batchValid", inPlace := ["math/bits.Add64"], unfollowed := true, recurses := true, plainKeys := false, apart := false }
def BatchValidSaid : Prop := batchValidRow.holds Tryz.pinned (OpenSpec.ofChange batchValidSpec)

/-- ITS FALSE NEIGHBOUR: 'it returns false'. Refute it at one input. -/
def batchValidWrong : ChangeSpec := { name := "batchValid", fn := fun _ => fun
  | [d1, d2, d3] => { results := [.lit (.bool false)], args := [d1, d2, d3] }
  | _ => none }
def BatchValidWrongFalsely : Prop := batchValidRow.holds Tryz.pinned (OpenSpec.ofChange batchValidWrong)

/-- 'matchguardlaw22.BatchCommutes': WHATEVER THE INPUT: true; the input reads as it did. -/
def batchCommutesSpec : ChangeSpec := { name := "batchCommutes", fn := fun _ => fun
  | [d1, d2, d3] => { results := [.lit (.bool true)], args := [d1, d2, d3] }
  | _ => none }
def batchCommutesRow : OpenClaim := { program := "ytmcjlfmeoehcmaagreat", sum := "d5f49cc80505b4e8652afea71a082c7ce7ee493162af90ce2a5d39fbe5dc7b90", func := "matchguard/matchguardlaw22.BatchCommutes", spec := "batchCommutes", inPlace := ["math/bits.Add64"], unfollowed := true, recurses := true, plainKeys := false, apart := false }
def BatchCommutesSaid : Prop := batchCommutesRow.holds Tryz.pinned (OpenSpec.ofChange batchCommutesSpec)

/-- ITS FALSE NEIGHBOUR: 'it returns false'. Refute it at one input. -/
def batchCommutesWrong : ChangeSpec := { name := "batchCommutes", fn := fun _ => fun
  | [d1, d2, d3] => { results := [.lit (.bool false)], args := [d1, d2, d3] }
  | _ => none }
def BatchCommutesWrongFalsely : Prop := batchCommutesRow.holds Tryz.pinned (OpenSpec.ofChange batchCommutesWrong)

/-- 'matchguardlaw22.BatchApplies': WHATEVER THE INPUT: true; the input reads as it did. -/
def batchAppliesSpec : ChangeSpec := { name := "batchApplies", fn := fun _ => fun
  | [d1, d2] => { results := [.lit (.bool true)], args := [d1, d2] }
  | _ => none }
def batchAppliesRow : OpenClaim := { program := "ytmcjlfmeoehcmaagreat", sum := "d5f49cc80505b4e8652afea71a082c7ce7ee493162af90ce2a5d39fbe5dc7b90", func := "matchguard/matchguardlaw22.BatchApplies", spec := "batchApplies", inPlace := ["math/bits.Add64"], unfollowed := true, recurses := true, plainKeys := false, apart := false }
def BatchAppliesSaid : Prop := batchAppliesRow.holds Tryz.pinned (OpenSpec.ofChange batchAppliesSpec)

/-- ITS FALSE NEIGHBOUR: 'it returns false'. Refute it at one input. -/
def batchAppliesWrong : ChangeSpec := { name := "batchApplies", fn := fun _ => fun
  | [d1, d2] => { results := [.lit (.bool false)], args := [d1, d2] }
  | _ => none }
def BatchAppliesWrongFalsely : Prop := batchAppliesRow.holds Tryz.pinned (OpenSpec.ofChange batchAppliesWrong)

/-- 'matchguardlaw22.BatchAtomic': WHATEVER THE INPUT: true; the input reads as it did. -/
def batchAtomicSpec : ChangeSpec := { name := "batchAtomic", fn := fun _ => fun
  | [d1, d2, d3, d4] => { results := [.lit (.bool true)], args := [d1, d2, d3, d4] }
  | _ => none }
def batchAtomicRow : OpenClaim := { program := "ytmcjlfmeoehcmaagreat", sum := "d5f49cc80505b4e8652afea71a082c7ce7ee493162af90ce2a5d39fbe5dc7b90", func := "matchguard/matchguardlaw22.BatchAtomic", spec := "batchAtomic", inPlace := ["math/bits.Add64"], unfollowed := true, recurses := true, plainKeys := false, apart := false }
def BatchAtomicSaid : Prop := batchAtomicRow.holds Tryz.pinned (OpenSpec.ofChange batchAtomicSpec)

/-- ITS FALSE NEIGHBOUR: 'it returns false'. Refute it at one input. -/
def batchAtomicWrong : ChangeSpec := { name := "batchAtomic", fn := fun _ => fun
  | [d1, d2, d3, d4] => { results := [.lit (.bool false)], args := [d1, d2, d3, d4] }
  | _ => none }
def BatchAtomicWrongFalsely : Prop := batchAtomicRow.holds Tryz.pinned (OpenSpec.ofChange batchAtomicWrong)

/-- 'matchguardlaw23.ReadEntries': WHATEVER THE INPUT: true; the input reads as it did. -/
def readEntriesSpec : ChangeSpec := { name := "readEntries", fn := fun _ => fun
  | [d1, d2, d3, d4] => { results := [.lit (.bool true)], args := [d1, d2, d3, d4] }
  | _ => none }
def readEntriesRow : OpenClaim := { program := "ytmcjlfmeoehcmaagreat", sum := "d5f49cc80505b4e8652afea71a082c7ce7ee493162af90ce2a5d39fbe5dc7b90", func := "matchguard/matchguardlaw23.ReadEntries", spec := "readEntries", inPlace := ["math/bits.Add64"], unfollowed := true, recurses := true, plainKeys := false, apart := false }
def ReadEntriesSaid : Prop := readEntriesRow.holds Tryz.pinned (OpenSpec.ofChange readEntriesSpec)

/-- ITS FALSE NEIGHBOUR: 'it returns false'. Refute it at one input. -/
def readEntriesWrong : ChangeSpec := { name := "readEntries", fn := fun _ => fun
  | [d1, d2, d3, d4] => { results := [.lit (.bool false)], args := [d1, d2, d3, d4] }
  | _ => none }
def ReadEntriesWrongFalsely : Prop := readEntriesRow.holds Tryz.pinned (OpenSpec.ofChange readEntriesWrong)

/-- 'matchguardlaw23.ReadWhole': WHATEVER THE INPUT: true; the input reads as it did. -/
def readWholeSpec : ChangeSpec := { name := "readWhole", fn := fun _ => fun
  | [d1, d2] => { results := [.lit (.bool true)], args := [d1, d2] }
  | _ => none }
def readWholeRow : OpenClaim := { program := "ytmcjlfmeoehcmaagreat", sum := "d5f49cc80505b4e8652afea71a082c7ce7ee493162af90ce2a5d39fbe5dc7b90", func := "matchguard/matchguardlaw23.ReadWhole", spec := "readWhole", inPlace := ["math/bits.Add64"], unfollowed := true, recurses := true, plainKeys := false, apart := false }
def ReadWholeSaid : Prop := readWholeRow.holds Tryz.pinned (OpenSpec.ofChange readWholeSpec)

/-- ITS FALSE NEIGHBOUR: 'it returns false'. Refute it at one input. -/
def readWholeWrong : ChangeSpec := { name := "readWhole", fn := fun _ => fun
  | [d1, d2] => { results := [.lit (.bool false)], args := [d1, d2] }
  | _ => none }
def ReadWholeWrongFalsely : Prop := readWholeRow.holds Tryz.pinned (OpenSpec.ofChange readWholeWrong)

/- THE SECOND FORM. 'bulk': how many values and letters a reading holds, each counted each time it is reached (what is shared counts as often as it is met; a slice's spare places count too). A statement '..UptoSaid' is the law's where the arguments, and the package variables that the reading takes, are together of bulk at most 1048576: NARROWER than '..Said'. Prove '..Said' where nothing that the law and all that it calls make is longer than what came in: it says more and counts as full. Else prove '..UptoSaid'. A law counts once. -/
mutual
def uptoBulk {H : Type} : DataW H → Nat
  | .lit (.string bytes) => bytes.length + 1
  | .lit _ => 1
  | .nil => 1
  | .ptr d => uptoBulk d + 1
  | .slice elems spare => uptoBulkAll elems + uptoBulkAll spare + 1
  | .agg parts => uptoBulkAll parts + 1
  | .iface _ d => uptoBulk d + 1
  | .map entries => uptoBulkEntries entries + 1
  | .held _ => 1
def uptoBulkAll {H : Type} : List (DataW H) → Nat
  | [] => 0
  | d :: r => uptoBulk d + uptoBulkAll r
def uptoBulkEntries {H : Type} : List (Lit × DataW H) → Nat
  | [] => 0
  | x :: r => uptoBulkEntry x + uptoBulkEntries r
def uptoBulkEntry {H : Type} : Lit × DataW H → Nat
  | (.string bytes, d) => bytes.length + uptoBulk d + 1
  | (_, d) => uptoBulk d + 1
 end
def uptoSmall : (H : Type) → List (DataW H) → Bool := fun _ ds => decide (uptoBulkAll ds ≤ 1048576)
def OpenSpec.upto (s : _root_.Go.ChangeSpec) : _root_.Go.OpenSpec := { _root_.Go.OpenSpec.ofChange s with cond := some uptoSmall }

/-- 'matchguardlaw22.BatchPrefix', WHERE WHAT IT READS IS OF BULK AT MOST 1048576: true; the input reads as it did. -/
def batchPrefixUptoRow : OpenClaim := { program := "ytmcjlfmeoehcmaagreat", sum := "d5f49cc80505b4e8652afea71a082c7ce7ee493162af90ce2a5d39fbe5dc7b90", func := "matchguard/matchguardlaw22.BatchPrefix", spec := "batchPrefix", inPlace := ["math/bits.Add64"], unfollowed := true, recurses := true, plainKeys := false, apart := false, narrowed := true }
def BatchPrefixUptoSaid : Prop := batchPrefixUptoRow.holds Tryz.pinned (OpenSpec.upto batchPrefixSpec)

/-- 'matchguardlaw22.BatchValid', WHERE WHAT IT READS IS OF BULK AT MOST 1048576: true; the input reads as it did. -/
def batchValidUptoRow : OpenClaim := { program := "ytmcjlfmeoehcmaagreat", sum := "d5f49cc80505b4e8652afea71a082c7ce7ee493162af90ce2a5d39fbe5dc7b90", func := "matchguard/matchguardlaw22.BatchValid", spec := "batchValid", inPlace := ["math/bits.Add64"], unfollowed := true, recurses := true, plainKeys := false, apart := false, narrowed := true }
def BatchValidUptoSaid : Prop := batchValidUptoRow.holds Tryz.pinned (OpenSpec.upto batchValidSpec)

/-- 'matchguardlaw22.BatchCommutes', WHERE WHAT IT READS IS OF BULK AT MOST 1048576: true; the input reads as it did. -/
def batchCommutesUptoRow : OpenClaim := { program := "ytmcjlfmeoehcmaagreat", sum := "d5f49cc80505b4e8652afea71a082c7ce7ee493162af90ce2a5d39fbe5dc7b90", func := "matchguard/matchguardlaw22.BatchCommutes", spec := "batchCommutes", inPlace := ["math/bits.Add64"], unfollowed := true, recurses := true, plainKeys := false, apart := false, narrowed := true }
def BatchCommutesUptoSaid : Prop := batchCommutesUptoRow.holds Tryz.pinned (OpenSpec.upto batchCommutesSpec)

/-- 'matchguardlaw22.BatchApplies', WHERE WHAT IT READS IS OF BULK AT MOST 1048576: true; the input reads as it did. -/
def batchAppliesUptoRow : OpenClaim := { program := "ytmcjlfmeoehcmaagreat", sum := "d5f49cc80505b4e8652afea71a082c7ce7ee493162af90ce2a5d39fbe5dc7b90", func := "matchguard/matchguardlaw22.BatchApplies", spec := "batchApplies", inPlace := ["math/bits.Add64"], unfollowed := true, recurses := true, plainKeys := false, apart := false, narrowed := true }
def BatchAppliesUptoSaid : Prop := batchAppliesUptoRow.holds Tryz.pinned (OpenSpec.upto batchAppliesSpec)

/-- 'matchguardlaw22.BatchAtomic', WHERE WHAT IT READS IS OF BULK AT MOST 1048576: true; the input reads as it did. -/
def batchAtomicUptoRow : OpenClaim := { program := "ytmcjlfmeoehcmaagreat", sum := "d5f49cc80505b4e8652afea71a082c7ce7ee493162af90ce2a5d39fbe5dc7b90", func := "matchguard/matchguardlaw22.BatchAtomic", spec := "batchAtomic", inPlace := ["math/bits.Add64"], unfollowed := true, recurses := true, plainKeys := false, apart := false, narrowed := true }
def BatchAtomicUptoSaid : Prop := batchAtomicUptoRow.holds Tryz.pinned (OpenSpec.upto batchAtomicSpec)

/-- 'matchguardlaw23.ReadEntries', WHERE WHAT IT READS IS OF BULK AT MOST 1048576: true; the input reads as it did. -/
def readEntriesUptoRow : OpenClaim := { program := "ytmcjlfmeoehcmaagreat", sum := "d5f49cc80505b4e8652afea71a082c7ce7ee493162af90ce2a5d39fbe5dc7b90", func := "matchguard/matchguardlaw23.ReadEntries", spec := "readEntries", inPlace := ["math/bits.Add64"], unfollowed := true, recurses := true, plainKeys := false, apart := false, narrowed := true }
def ReadEntriesUptoSaid : Prop := readEntriesUptoRow.holds Tryz.pinned (OpenSpec.upto readEntriesSpec)

/-- 'matchguardlaw23.ReadWhole', WHERE WHAT IT READS IS OF BULK AT MOST 1048576: true; the input reads as it did. -/
def readWholeUptoRow : OpenClaim := { program := "ytmcjlfmeoehcmaagreat", sum := "d5f49cc80505b4e8652afea71a082c7ce7ee493162af90ce2a5d39fbe5dc7b90", func := "matchguard/matchguardlaw23.ReadWhole", spec := "readWhole", inPlace := ["math/bits.Add64"], unfollowed := true, recurses := true, plainKeys := false, apart := false, narrowed := true }
def ReadWholeUptoSaid : Prop := readWholeUptoRow.holds Tryz.pinned (OpenSpec.upto readWholeSpec)

end Rows
end Go.Proofs.YtmcjlfmeoehcmaaGreat
