/-
  No cell of these rows narrows 'for every input' (looked for: loops, veiled, ifaces, maps, wideKeys, modest, calm, conditions, laid).
  DERIVED. THE GIVEN ROWS OF THIS SEAT. 4 by the template 'for every input the law returns true; each argument reads behind the call as it read before'; 0 by the template 'total and deterministic' (their statements: YthkfkliknjiecaaGreatTotals.lean).
  GIVEN WITH THE SEED: the statements are not yours to turn. If you find one false, say at which input.
  Laid BY PROGRAM, IN A SANDBOX (cutbox-rows.mjs): the forced cells as the released guide's own fill.sh prints them over the translation acd791572b2afef7… (all of the seat's roots in one cut). By AI agents, Wed Nov 11 2026. No macro, syntax, notation, axiom, sorry.
-/
import Derived.Test.YthkfkliknjiecaaGreatChecked
import GoSem.Claim
import GoSem.ClaimJoined
import GoSem.ClaimMapViews
import Derived.JoinedTies
import Derived.KernelRfl
namespace Go.Proofs.YthkfkliknjiecaaGreat
/- THE CELL 'sum', in the pinned program and in every row, IS THE sha256 OF THE DUMP (.gsa) THAT YthkfkliknjiecaaGreatProg.lean LOADS. Nothing in Lean hashes anything: it is a label: what it is worth is what the hold of that sum in a sandbox is worth. -/
noncomputable def Tryz.pinned : Pinned := { name := "ythkfkliknjiecaagreat", sum := "acd791572b2afef715dd3160d2be2e4772faef5afe7f1dde9b8f9499ab41b8dc", checked := Tryz.checked }
namespace Rows
def none {H : Type} : Left H := { results := [], args := [] }

/-- 'matchguardlaw14.IndexAgree': WHATEVER THE INPUT: true; the input reads as it did. -/
def indexAgreeSpec : ChangeSpec := { name := "indexAgree", fn := fun _ => fun
  | [d1, d2] => { results := [.lit (.bool true)], args := [d1, d2] }
  | _ => none }
def indexAgreeRow : OpenClaim := { program := "ythkfkliknjiecaagreat", sum := "acd791572b2afef715dd3160d2be2e4772faef5afe7f1dde9b8f9499ab41b8dc", func := "matchguard/matchguardlaw14.IndexAgree", spec := "indexAgree", unfollowed := true, recurses := true, plainKeys := false, apart := false }
def IndexAgreeSaid : Prop := indexAgreeRow.holds Tryz.pinned (OpenSpec.ofChange indexAgreeSpec)

/-- ITS FALSE NEIGHBOUR: 'it returns false'. Refute it at one input. -/
def indexAgreeWrong : ChangeSpec := { name := "indexAgree", fn := fun _ => fun
  | [d1, d2] => { results := [.lit (.bool false)], args := [d1, d2] }
  | _ => none }
def IndexAgreeWrongFalsely : Prop := indexAgreeRow.holds Tryz.pinned (OpenSpec.ofChange indexAgreeWrong)

/-- 'matchguardlaw27.ShadowRemoves': WHATEVER THE INPUT: true; the input reads as it did. -/
def shadowRemovesSpec : ChangeSpec := { name := "shadowRemoves", fn := fun _ => fun
  | [d1, d2, d3, d4] => { results := [.lit (.bool true)], args := [d1, d2, d3, d4] }
  | _ => none }
def shadowRemovesRow : OpenClaim := { program := "ythkfkliknjiecaagreat", sum := "acd791572b2afef715dd3160d2be2e4772faef5afe7f1dde9b8f9499ab41b8dc", func := "matchguard/matchguardlaw27.ShadowRemoves", spec := "shadowRemoves", unfollowed := true, recurses := true, plainKeys := false, apart := false }
def ShadowRemovesSaid : Prop := shadowRemovesRow.holds Tryz.pinned (OpenSpec.ofChange shadowRemovesSpec)

/-- ITS FALSE NEIGHBOUR: 'it returns false'. Refute it at one input. -/
def shadowRemovesWrong : ChangeSpec := { name := "shadowRemoves", fn := fun _ => fun
  | [d1, d2, d3, d4] => { results := [.lit (.bool false)], args := [d1, d2, d3, d4] }
  | _ => none }
def ShadowRemovesWrongFalsely : Prop := shadowRemovesRow.holds Tryz.pinned (OpenSpec.ofChange shadowRemovesWrong)

/-- 'matchguardlaw14.IndexCalls': WHATEVER THE INPUT: true; the input reads as it did. -/
def indexCallsSpec : ChangeSpec := { name := "indexCalls", fn := fun _ => fun
  | [d1, d2, d3] => { results := [.lit (.bool true)], args := [d1, d2, d3] }
  | _ => none }
def indexCallsRow : OpenClaim := { program := "ythkfkliknjiecaagreat", sum := "acd791572b2afef715dd3160d2be2e4772faef5afe7f1dde9b8f9499ab41b8dc", func := "matchguard/matchguardlaw14.IndexCalls", spec := "indexCalls", unfollowed := true, recurses := true, plainKeys := false, apart := false }
def IndexCallsSaid : Prop := indexCallsRow.holds Tryz.pinned (OpenSpec.ofChange indexCallsSpec)

/-- ITS FALSE NEIGHBOUR: 'it returns false'. Refute it at one input. -/
def indexCallsWrong : ChangeSpec := { name := "indexCalls", fn := fun _ => fun
  | [d1, d2, d3] => { results := [.lit (.bool false)], args := [d1, d2, d3] }
  | _ => none }
def IndexCallsWrongFalsely : Prop := indexCallsRow.holds Tryz.pinned (OpenSpec.ofChange indexCallsWrong)

/-- 'matchguardlaw15.StoreUndo': WHATEVER THE INPUT: true; the input reads as it did. -/
def storeUndoSpec : ChangeSpec := { name := "storeUndo", fn := fun _ => fun
  | [d1, d2, d3] => { results := [.lit (.bool true)], args := [d1, d2, d3] }
  | _ => none }
def storeUndoRow : OpenClaim := { program := "ythkfkliknjiecaagreat", sum := "acd791572b2afef715dd3160d2be2e4772faef5afe7f1dde9b8f9499ab41b8dc", func := "matchguard/matchguardlaw15.StoreUndo", spec := "storeUndo", unfollowed := true, recurses := true, plainKeys := false, apart := false }
def StoreUndoSaid : Prop := storeUndoRow.holds Tryz.pinned (OpenSpec.ofChange storeUndoSpec)

/-- ITS FALSE NEIGHBOUR: 'it returns false'. Refute it at one input. -/
def storeUndoWrong : ChangeSpec := { name := "storeUndo", fn := fun _ => fun
  | [d1, d2, d3] => { results := [.lit (.bool false)], args := [d1, d2, d3] }
  | _ => none }
def StoreUndoWrongFalsely : Prop := storeUndoRow.holds Tryz.pinned (OpenSpec.ofChange storeUndoWrong)

/- THE SECOND FORM. 'bulk': how many values and letters a reading holds, each counted each time it is reached (what is shared counts as often as it is met; a slice's spare places count too). A statement '..UptoSaid' is the law's where the arguments, and the package variables that the reading takes, are together of bulk at most 1048576: NARROWER than '..Said'. Prove '..Said' where nothing that the law and all that it calls make is longer than what came in: it says more and counts as full. Else prove '..UptoSaid'. A law counts once. -/
mutual
def uptoBulk {H : Type} : DataW H → Nat
  | .lit (.string bytes) => bytes.length + 1
  | .lit _ => 1
  | .nil => 1
  | .ptr d => uptoBulk d + 1
  | .slice elems spare => uptoBulkAll elems + uptoBulkAll spare + 1
  | .agg parts => uptoBulkAll parts + 1
  | .iface _ d => uptoBulk d + 1
  | .map entries => uptoBulkEntries entries + 1
  | .held _ => 1
def uptoBulkAll {H : Type} : List (DataW H) → Nat
  | [] => 0
  | d :: r => uptoBulk d + uptoBulkAll r
def uptoBulkEntries {H : Type} : List (Lit × DataW H) → Nat
  | [] => 0
  | x :: r => uptoBulkEntry x + uptoBulkEntries r
def uptoBulkEntry {H : Type} : Lit × DataW H → Nat
  | (.string bytes, d) => bytes.length + uptoBulk d + 1
  | (_, d) => uptoBulk d + 1
 end
def uptoSmall : (H : Type) → List (DataW H) → Bool := fun _ ds => decide (uptoBulkAll ds ≤ 1048576)
def OpenSpec.upto (s : _root_.Go.ChangeSpec) : _root_.Go.OpenSpec := { _root_.Go.OpenSpec.ofChange s with cond := some uptoSmall }

/-- 'matchguardlaw14.IndexAgree', WHERE WHAT IT READS IS OF BULK AT MOST 1048576: true; the input reads as it did. -/
def indexAgreeUptoRow : OpenClaim := { program := "ythkfkliknjiecaagreat", sum := "acd791572b2afef715dd3160d2be2e4772faef5afe7f1dde9b8f9499ab41b8dc", func := "matchguard/matchguardlaw14.IndexAgree", spec := "indexAgree", unfollowed := true, recurses := true, plainKeys := false, apart := false, narrowed := true }
def IndexAgreeUptoSaid : Prop := indexAgreeUptoRow.holds Tryz.pinned (OpenSpec.upto indexAgreeSpec)

/-- 'matchguardlaw27.ShadowRemoves', WHERE WHAT IT READS IS OF BULK AT MOST 1048576: true; the input reads as it did. -/
def shadowRemovesUptoRow : OpenClaim := { program := "ythkfkliknjiecaagreat", sum := "acd791572b2afef715dd3160d2be2e4772faef5afe7f1dde9b8f9499ab41b8dc", func := "matchguard/matchguardlaw27.ShadowRemoves", spec := "shadowRemoves", unfollowed := true, recurses := true, plainKeys := false, apart := false, narrowed := true }
def ShadowRemovesUptoSaid : Prop := shadowRemovesUptoRow.holds Tryz.pinned (OpenSpec.upto shadowRemovesSpec)

/-- 'matchguardlaw14.IndexCalls', WHERE WHAT IT READS IS OF BULK AT MOST 1048576: true; the input reads as it did. -/
def indexCallsUptoRow : OpenClaim := { program := "ythkfkliknjiecaagreat", sum := "acd791572b2afef715dd3160d2be2e4772faef5afe7f1dde9b8f9499ab41b8dc", func := "matchguard/matchguardlaw14.IndexCalls", spec := "indexCalls", unfollowed := true, recurses := true, plainKeys := false, apart := false, narrowed := true }
def IndexCallsUptoSaid : Prop := indexCallsUptoRow.holds Tryz.pinned (OpenSpec.upto indexCallsSpec)

/-- 'matchguardlaw15.StoreUndo', WHERE WHAT IT READS IS OF BULK AT MOST 1048576: true; the input reads as it did. -/
def storeUndoUptoRow : OpenClaim := { program := "ythkfkliknjiecaagreat", sum := "acd791572b2afef715dd3160d2be2e4772faef5afe7f1dde9b8f9499ab41b8dc", func := "matchguard/matchguardlaw15.StoreUndo", spec := "storeUndo", unfollowed := true, recurses := true, plainKeys := false, apart := false, narrowed := true }
def StoreUndoUptoSaid : Prop := storeUndoUptoRow.holds Tryz.pinned (OpenSpec.upto storeUndoSpec)

end Rows
end Go.Proofs.YthkfkliknjiecaaGreat
