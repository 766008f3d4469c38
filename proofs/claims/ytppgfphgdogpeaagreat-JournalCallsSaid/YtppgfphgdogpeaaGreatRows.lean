/-
  No cell of these rows narrows 'for every input' (looked for: loops, veiled, ifaces, maps, wideKeys, modest, calm, conditions, laid).
  DERIVED. THE GIVEN ROWS OF THIS SEAT. 4 by the template 'for every input the law returns true; each argument reads behind the call as it read before'; 0 by the template 'total and deterministic' (their statements: YtppgfphgdogpeaaGreatTotals.lean).
  GIVEN WITH THE SEED: the statements are not yours to turn. If you find one false, say at which input.
  Laid BY PROGRAM, IN A SANDBOX (cutbox-rows.mjs): the forced cells as the released guide's own fill.sh prints them over the translation 5eb5c124485cbaa8… (all of the seat's roots in one cut). By AI agents, Wed Nov 11 2026. No macro, syntax, notation, axiom, sorry.
-/
import Derived.Test.YtppgfphgdogpeaaGreatChecked
import GoSem.Claim
import GoSem.ClaimJoined
import GoSem.ClaimMapViews
import Derived.JoinedTies
import Derived.KernelRfl
namespace Go.Proofs.YtppgfphgdogpeaaGreat
/- THE CELL 'sum', in the pinned program and in every row, IS THE sha256 OF THE DUMP (.gsa) THAT YtppgfphgdogpeaaGreatProg.lean LOADS. Nothing in Lean hashes anything: it is a label: what it is worth is what the hold of that sum in a sandbox is worth. -/
noncomputable def Tryz.pinned : Pinned := { name := "ytppgfphgdogpeaagreat", sum := "5eb5c124485cbaa8b1cd6d154152c3b767d0b7340d553d78f032680ec04569a4", checked := Tryz.checked }
namespace Rows
def none {H : Type} : Left H := { results := [], args := [] }

/-- 'matchguardlaw18.JournalOwners': WHATEVER THE INPUT: true; the input reads as it did. -/
def journalOwnersSpec : ChangeSpec := { name := "journalOwners", fn := fun _ => fun
  | [d1, d2] => { results := [.lit (.bool true)], args := [d1, d2] }
  | _ => none }
def journalOwnersRow : OpenClaim := { program := "ytppgfphgdogpeaagreat", sum := "5eb5c124485cbaa8b1cd6d154152c3b767d0b7340d553d78f032680ec04569a4", func := "matchguard/matchguardlaw18.JournalOwners", spec := "journalOwners", unfollowed := true, recurses := true, plainKeys := false, apart := false }
def JournalOwnersSaid : Prop := journalOwnersRow.holds Tryz.pinned (OpenSpec.ofChange journalOwnersSpec)

/-- ITS FALSE NEIGHBOUR: 'it returns false'. Refute it at one input. -/
def journalOwnersWrong : ChangeSpec := { name := "journalOwners", fn := fun _ => fun
  | [d1, d2] => { results := [.lit (.bool false)], args := [d1, d2] }
  | _ => none }
def JournalOwnersWrongFalsely : Prop := journalOwnersRow.holds Tryz.pinned (OpenSpec.ofChange journalOwnersWrong)

/-- 'matchguardlaw18.JournalAgain': WHATEVER THE INPUT: true; the input reads as it did. -/
def journalAgainSpec : ChangeSpec := { name := "journalAgain", fn := fun _ => fun
  | [d1, d2] => { results := [.lit (.bool true)], args := [d1, d2] }
  | _ => none }
def journalAgainRow : OpenClaim := { program := "ytppgfphgdogpeaagreat", sum := "5eb5c124485cbaa8b1cd6d154152c3b767d0b7340d553d78f032680ec04569a4", func := "matchguard/matchguardlaw18.JournalAgain", spec := "journalAgain", unfollowed := true, recurses := true, plainKeys := false, apart := false }
def JournalAgainSaid : Prop := journalAgainRow.holds Tryz.pinned (OpenSpec.ofChange journalAgainSpec)

/-- ITS FALSE NEIGHBOUR: 'it returns false'. Refute it at one input. -/
def journalAgainWrong : ChangeSpec := { name := "journalAgain", fn := fun _ => fun
  | [d1, d2] => { results := [.lit (.bool false)], args := [d1, d2] }
  | _ => none }
def JournalAgainWrongFalsely : Prop := journalAgainRow.holds Tryz.pinned (OpenSpec.ofChange journalAgainWrong)

/-- 'matchguardlaw18.JournalCalls': WHATEVER THE INPUT: true; the input reads as it did. -/
def journalCallsSpec : ChangeSpec := { name := "journalCalls", fn := fun _ => fun
  | [d1, d2] => { results := [.lit (.bool true)], args := [d1, d2] }
  | _ => none }
def journalCallsRow : OpenClaim := { program := "ytppgfphgdogpeaagreat", sum := "5eb5c124485cbaa8b1cd6d154152c3b767d0b7340d553d78f032680ec04569a4", func := "matchguard/matchguardlaw18.JournalCalls", spec := "journalCalls", unfollowed := true, recurses := true, plainKeys := false, apart := false }
def JournalCallsSaid : Prop := journalCallsRow.holds Tryz.pinned (OpenSpec.ofChange journalCallsSpec)

/-- ITS FALSE NEIGHBOUR: 'it returns false'. Refute it at one input. -/
def journalCallsWrong : ChangeSpec := { name := "journalCalls", fn := fun _ => fun
  | [d1, d2] => { results := [.lit (.bool false)], args := [d1, d2] }
  | _ => none }
def JournalCallsWrongFalsely : Prop := journalCallsRow.holds Tryz.pinned (OpenSpec.ofChange journalCallsWrong)

/-- 'matchguardlaw18.JournalRollback': WHATEVER THE INPUT: true; the input reads as it did. -/
def journalRollbackSpec : ChangeSpec := { name := "journalRollback", fn := fun _ => fun
  | [d1, d2, d3] => { results := [.lit (.bool true)], args := [d1, d2, d3] }
  | _ => none }
def journalRollbackRow : OpenClaim := { program := "ytppgfphgdogpeaagreat", sum := "5eb5c124485cbaa8b1cd6d154152c3b767d0b7340d553d78f032680ec04569a4", func := "matchguard/matchguardlaw18.JournalRollback", spec := "journalRollback", unfollowed := true, recurses := true, plainKeys := false, apart := false }
def JournalRollbackSaid : Prop := journalRollbackRow.holds Tryz.pinned (OpenSpec.ofChange journalRollbackSpec)

/-- ITS FALSE NEIGHBOUR: 'it returns false'. Refute it at one input. -/
def journalRollbackWrong : ChangeSpec := { name := "journalRollback", fn := fun _ => fun
  | [d1, d2, d3] => { results := [.lit (.bool false)], args := [d1, d2, d3] }
  | _ => none }
def JournalRollbackWrongFalsely : Prop := journalRollbackRow.holds Tryz.pinned (OpenSpec.ofChange journalRollbackWrong)

/- THE SECOND FORM. 'bulk': how many values and letters a reading holds, each counted each time it is reached (what is shared counts as often as it is met; a slice's spare places count too). A statement '..UptoSaid' is the law's where the arguments, and the package variables that the reading takes, are together of bulk at most 1048576: NARROWER than '..Said'. Prove '..Said' where nothing that the law and all that it calls make is longer than what came in: it says more and counts as full. Else prove '..UptoSaid'. A law counts once. -/
mutual
def uptoBulk {H : Type} : DataW H → Nat
  | .lit (.string bytes) => bytes.length + 1
  | .lit _ => 1
  | .nil => 1
  | .ptr d => uptoBulk d + 1
  | .slice elems spare => uptoBulkAll elems + uptoBulkAll spare + 1
  | .agg parts => uptoBulkAll parts + 1
  | .iface _ d => uptoBulk d + 1
  | .map entries => uptoBulkEntries entries + 1
  | .held _ => 1
def uptoBulkAll {H : Type} : List (DataW H) → Nat
  | [] => 0
  | d :: r => uptoBulk d + uptoBulkAll r
def uptoBulkEntries {H : Type} : List (Lit × DataW H) → Nat
  | [] => 0
  | x :: r => uptoBulkEntry x + uptoBulkEntries r
def uptoBulkEntry {H : Type} : Lit × DataW H → Nat
  | (.string bytes, d) => bytes.length + uptoBulk d + 1
  | (_, d) => uptoBulk d + 1
 end
def uptoSmall : (H : Type) → List (DataW H) → Bool := fun _ ds => decide (uptoBulkAll ds ≤ 1048576)
def OpenSpec.upto (s : _root_.Go.ChangeSpec) : _root_.Go.OpenSpec := { _root_.Go.OpenSpec.ofChange s with cond := some uptoSmall }

/-- 'matchguardlaw18.JournalOwners', WHERE WHAT IT READS IS OF BULK AT MOST 1048576: true; the input reads as it did. -/
def journalOwnersUptoRow : OpenClaim := { program := "ytppgfphgdogpeaagreat", sum := "5eb5c124485cbaa8b1cd6d154152c3b767d0b7340d553d78f032680ec04569a4", func := "matchguard/matchguardlaw18.JournalOwners", spec := "journalOwners", unfollowed := true, recurses := true, plainKeys := false, apart := false, narrowed := true }
def JournalOwnersUptoSaid : Prop := journalOwnersUptoRow.holds Tryz.pinned (OpenSpec.upto journalOwnersSpec)

/-- 'matchguardlaw18.JournalAgain', WHERE WHAT IT READS IS OF BULK AT MOST 1048576: true; the input reads as it did. -/
def journalAgainUptoRow : OpenClaim := { program := "ytppgfphgdogpeaagreat", sum := "5eb5c124485cbaa8b1cd6d154152c3b767d0b7340d553d78f032680ec04569a4", func := "matchguard/matchguardlaw18.JournalAgain", spec := "journalAgain", unfollowed := true, recurses := true, plainKeys := false, apart := false, narrowed := true }
def JournalAgainUptoSaid : Prop := journalAgainUptoRow.holds Tryz.pinned (OpenSpec.upto journalAgainSpec)

/-- 'matchguardlaw18.JournalCalls', WHERE WHAT IT READS IS OF BULK AT MOST 1048576: true; the input reads as it did. -/
def journalCallsUptoRow : OpenClaim := { program := "ytppgfphgdogpeaagreat", sum := "5eb5c124485cbaa8b1cd6d154152c3b767d0b7340d553d78f032680ec04569a4", func := "matchguard/matchguardlaw18.JournalCalls", spec := "journalCalls", unfollowed := true, recurses := true, plainKeys := false, apart := false, narrowed := true }
def JournalCallsUptoSaid : Prop := journalCallsUptoRow.holds Tryz.pinned (OpenSpec.upto journalCallsSpec)

/-- 'matchguardlaw18.JournalRollback', WHERE WHAT IT READS IS OF BULK AT MOST 1048576: true; the input reads as it did. -/
def journalRollbackUptoRow : OpenClaim := { program := "ytppgfphgdogpeaagreat", sum := "5eb5c124485cbaa8b1cd6d154152c3b767d0b7340d553d78f032680ec04569a4", func := "matchguard/matchguardlaw18.JournalRollback", spec := "journalRollback", unfollowed := true, recurses := true, plainKeys := false, apart := false, narrowed := true }
def JournalRollbackUptoSaid : Prop := journalRollbackUptoRow.holds Tryz.pinned (OpenSpec.upto journalRollbackSpec)

end Rows
end Go.Proofs.YtppgfphgdogpeaaGreat
