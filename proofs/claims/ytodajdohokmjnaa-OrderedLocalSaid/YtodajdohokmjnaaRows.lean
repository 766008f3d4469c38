/-
  No cell of these rows narrows 'for every input' (looked for: loops, veiled, ifaces, maps, wideKeys, modest, calm, conditions, laid).
  DERIVED. THE GIVEN ROWS OF THIS SEAT. 9 by the template 'for every input the law returns true; each argument reads behind the call as it read before'; 0 by the template 'total and deterministic' (their statements: YtodajdohokmjnaaTotals.lean).
  GIVEN WITH THE SEED: the statements are not yours to turn. If you find one false, say at which input.
  Laid BY PROGRAM, IN A SANDBOX (cutbox-rows.mjs): the forced cells as the released guide's own fill.sh prints them over the translation 5f1b249bccbebe55… (all of the seat's roots in one cut). By AI agents, Wed Nov 11 2026. No macro, syntax, notation, axiom, sorry.
-/
import Derived.Test.YtodajdohokmjnaaChecked
import GoSem.Claim
import GoSem.ClaimJoined
import GoSem.ClaimMapViews
import Derived.JoinedTies
import Derived.KernelRfl
namespace Go.Proofs.Ytodajdohokmjnaa
/- THE CELL 'sum', in the pinned program and in every row, IS THE sha256 OF THE DUMP (.gsa) THAT YtodajdohokmjnaaProg.lean LOADS. Nothing in Lean hashes anything: it is a label: what it is worth is what the hold of that sum in a sandbox is worth. -/
noncomputable def Try.pinned : Pinned := { name := "ytodajdohokmjnaa", sum := "5f1b249bccbebe5573ed0bbd8a19228eb46846da7724b9d4516be4b42c6d165d", checked := Try.checked }
namespace Rows
def none {H : Type} : Left H := { results := [], args := [] }

/-- 'matchguardlaw20.SessionCalls': WHATEVER THE INPUT: true; the input reads as it did. -/
def sessionCallsSpec : ChangeSpec := { name := "sessionCalls", fn := fun _ => fun
  | [d1, d2] => { results := [.lit (.bool true)], args := [d1, d2] }
  | _ => none }
def sessionCallsRow : OpenClaim := { program := "ytodajdohokmjnaa", sum := "5f1b249bccbebe5573ed0bbd8a19228eb46846da7724b9d4516be4b42c6d165d", func := "matchguard/matchguardlaw20.SessionCalls", spec := "sessionCalls", inPlace := ["slices.overlaps[matchguard/session.Session]", "slices.overlaps[matchguard/session.Top]"], unfollowed := true, recurses := true, apart := false }
def SessionCallsSaid : Prop := sessionCallsRow.holds Try.pinned (OpenSpec.ofChange sessionCallsSpec)

/-- ITS FALSE NEIGHBOUR: 'it returns false'. Refute it at one input. -/
def sessionCallsWrong : ChangeSpec := { name := "sessionCalls", fn := fun _ => fun
  | [d1, d2] => { results := [.lit (.bool false)], args := [d1, d2] }
  | _ => none }
def SessionCallsWrongFalsely : Prop := sessionCallsRow.holds Try.pinned (OpenSpec.ofChange sessionCallsWrong)

/-- 'matchguardlaw20.SessionHighest': WHATEVER THE INPUT: true; the input reads as it did. -/
def sessionHighestSpec : ChangeSpec := { name := "sessionHighest", fn := fun _ => fun
  | [d1, d2, d3, d4, d5] => { results := [.lit (.bool true)], args := [d1, d2, d3, d4, d5] }
  | _ => none }
def sessionHighestRow : OpenClaim := { program := "ytodajdohokmjnaa", sum := "5f1b249bccbebe5573ed0bbd8a19228eb46846da7724b9d4516be4b42c6d165d", func := "matchguard/matchguardlaw20.SessionHighest", spec := "sessionHighest", inPlace := ["slices.overlaps[matchguard/session.Session]", "slices.overlaps[matchguard/session.Top]"], unfollowed := true, recurses := true, apart := false }
def SessionHighestSaid : Prop := sessionHighestRow.holds Try.pinned (OpenSpec.ofChange sessionHighestSpec)

/-- ITS FALSE NEIGHBOUR: 'it returns false'. Refute it at one input. -/
def sessionHighestWrong : ChangeSpec := { name := "sessionHighest", fn := fun _ => fun
  | [d1, d2, d3, d4, d5] => { results := [.lit (.bool false)], args := [d1, d2, d3, d4, d5] }
  | _ => none }
def SessionHighestWrongFalsely : Prop := sessionHighestRow.holds Try.pinned (OpenSpec.ofChange sessionHighestWrong)

/-- 'matchguardlaw20.SessionAllows': WHATEVER THE INPUT: true; the input reads as it did. -/
def sessionAllowsSpec : ChangeSpec := { name := "sessionAllows", fn := fun _ => fun
  | [d1, d2, d3, d4, d5] => { results := [.lit (.bool true)], args := [d1, d2, d3, d4, d5] }
  | _ => none }
def sessionAllowsRow : OpenClaim := { program := "ytodajdohokmjnaa", sum := "5f1b249bccbebe5573ed0bbd8a19228eb46846da7724b9d4516be4b42c6d165d", func := "matchguard/matchguardlaw20.SessionAllows", spec := "sessionAllows", inPlace := ["slices.overlaps[matchguard/session.Session]", "slices.overlaps[matchguard/session.Top]"], unfollowed := true, recurses := true, apart := false }
def SessionAllowsSaid : Prop := sessionAllowsRow.holds Try.pinned (OpenSpec.ofChange sessionAllowsSpec)

/-- ITS FALSE NEIGHBOUR: 'it returns false'. Refute it at one input. -/
def sessionAllowsWrong : ChangeSpec := { name := "sessionAllows", fn := fun _ => fun
  | [d1, d2, d3, d4, d5] => { results := [.lit (.bool false)], args := [d1, d2, d3, d4, d5] }
  | _ => none }
def SessionAllowsWrongFalsely : Prop := sessionAllowsRow.holds Try.pinned (OpenSpec.ofChange sessionAllowsWrong)

/-- 'matchguardlaw20.SessionOne': WHATEVER THE INPUT: true; the input reads as it did. -/
def sessionOneSpec : ChangeSpec := { name := "sessionOne", fn := fun _ => fun
  | [d1, d2, d3] => { results := [.lit (.bool true)], args := [d1, d2, d3] }
  | _ => none }
def sessionOneRow : OpenClaim := { program := "ytodajdohokmjnaa", sum := "5f1b249bccbebe5573ed0bbd8a19228eb46846da7724b9d4516be4b42c6d165d", func := "matchguard/matchguardlaw20.SessionOne", spec := "sessionOne", inPlace := ["slices.overlaps[matchguard/session.Session]", "slices.overlaps[matchguard/session.Top]"], unfollowed := true, recurses := true, apart := false }
def SessionOneSaid : Prop := sessionOneRow.holds Try.pinned (OpenSpec.ofChange sessionOneSpec)

/-- ITS FALSE NEIGHBOUR: 'it returns false'. Refute it at one input. -/
def sessionOneWrong : ChangeSpec := { name := "sessionOne", fn := fun _ => fun
  | [d1, d2, d3] => { results := [.lit (.bool false)], args := [d1, d2, d3] }
  | _ => none }
def SessionOneWrongFalsely : Prop := sessionOneRow.holds Try.pinned (OpenSpec.ofChange sessionOneWrong)

/-- 'matchguardlaw13.OrderedLocal': WHATEVER THE INPUT: true; the input reads as it did. -/
def orderedLocalSpec : ChangeSpec := { name := "orderedLocal", fn := fun _ => fun
  | [d1, d2, d3, d4] => { results := [.lit (.bool true)], args := [d1, d2, d3, d4] }
  | _ => none }
def orderedLocalRow : OpenClaim := { program := "ytodajdohokmjnaa", sum := "5f1b249bccbebe5573ed0bbd8a19228eb46846da7724b9d4516be4b42c6d165d", func := "matchguard/matchguardlaw13.OrderedLocal", spec := "orderedLocal", inPlace := ["slices.overlaps[matchguard/api.Installed]"], unfollowed := true, recurses := true, apart := false }
def OrderedLocalSaid : Prop := orderedLocalRow.holds Try.pinned (OpenSpec.ofChange orderedLocalSpec)

/-- ITS FALSE NEIGHBOUR: 'it returns false'. Refute it at one input. -/
def orderedLocalWrong : ChangeSpec := { name := "orderedLocal", fn := fun _ => fun
  | [d1, d2, d3, d4] => { results := [.lit (.bool false)], args := [d1, d2, d3, d4] }
  | _ => none }
def OrderedLocalWrongFalsely : Prop := orderedLocalRow.holds Try.pinned (OpenSpec.ofChange orderedLocalWrong)

/-- 'matchguardlaw27.ShadowBudget': WHATEVER THE INPUT: true; the input reads as it did. -/
def shadowBudgetSpec : ChangeSpec := { name := "shadowBudget", fn := fun _ => fun
  | [d1, d2] => { results := [.lit (.bool true)], args := [d1, d2] }
  | _ => none }
def shadowBudgetRow : OpenClaim := { program := "ytodajdohokmjnaa", sum := "5f1b249bccbebe5573ed0bbd8a19228eb46846da7724b9d4516be4b42c6d165d", func := "matchguard/matchguardlaw27.ShadowBudget", spec := "shadowBudget", unfollowed := true, recurses := true, apart := false }
def ShadowBudgetSaid : Prop := shadowBudgetRow.holds Try.pinned (OpenSpec.ofChange shadowBudgetSpec)

/-- ITS FALSE NEIGHBOUR: 'it returns false'. Refute it at one input. -/
def shadowBudgetWrong : ChangeSpec := { name := "shadowBudget", fn := fun _ => fun
  | [d1, d2] => { results := [.lit (.bool false)], args := [d1, d2] }
  | _ => none }
def ShadowBudgetWrongFalsely : Prop := shadowBudgetRow.holds Try.pinned (OpenSpec.ofChange shadowBudgetWrong)

/-- 'matchguardlaw13.OrderedLookup': WHATEVER THE INPUT: true; the input reads as it did. -/
def orderedLookupSpec : ChangeSpec := { name := "orderedLookup", fn := fun _ => fun
  | [d1, d2, d3, d4] => { results := [.lit (.bool true)], args := [d1, d2, d3, d4] }
  | _ => none }
def orderedLookupRow : OpenClaim := { program := "ytodajdohokmjnaa", sum := "5f1b249bccbebe5573ed0bbd8a19228eb46846da7724b9d4516be4b42c6d165d", func := "matchguard/matchguardlaw13.OrderedLookup", spec := "orderedLookup", inPlace := ["slices.overlaps[matchguard/api.Installed]"], unfollowed := true, recurses := true, apart := false }
def OrderedLookupSaid : Prop := orderedLookupRow.holds Try.pinned (OpenSpec.ofChange orderedLookupSpec)

/-- ITS FALSE NEIGHBOUR: 'it returns false'. Refute it at one input. -/
def orderedLookupWrong : ChangeSpec := { name := "orderedLookup", fn := fun _ => fun
  | [d1, d2, d3, d4] => { results := [.lit (.bool false)], args := [d1, d2, d3, d4] }
  | _ => none }
def OrderedLookupWrongFalsely : Prop := orderedLookupRow.holds Try.pinned (OpenSpec.ofChange orderedLookupWrong)

/-- 'matchguardlaw13.OrderedRemoves': WHATEVER THE INPUT: true; the input reads as it did. -/
def orderedRemovesSpec : ChangeSpec := { name := "orderedRemoves", fn := fun _ => fun
  | [d1, d2, d3, d4] => { results := [.lit (.bool true)], args := [d1, d2, d3, d4] }
  | _ => none }
def orderedRemovesRow : OpenClaim := { program := "ytodajdohokmjnaa", sum := "5f1b249bccbebe5573ed0bbd8a19228eb46846da7724b9d4516be4b42c6d165d", func := "matchguard/matchguardlaw13.OrderedRemoves", spec := "orderedRemoves", inPlace := ["slices.overlaps[matchguard/api.Installed]"], unfollowed := true, recurses := true, apart := false }
def OrderedRemovesSaid : Prop := orderedRemovesRow.holds Try.pinned (OpenSpec.ofChange orderedRemovesSpec)

/-- ITS FALSE NEIGHBOUR: 'it returns false'. Refute it at one input. -/
def orderedRemovesWrong : ChangeSpec := { name := "orderedRemoves", fn := fun _ => fun
  | [d1, d2, d3, d4] => { results := [.lit (.bool false)], args := [d1, d2, d3, d4] }
  | _ => none }
def OrderedRemovesWrongFalsely : Prop := orderedRemovesRow.holds Try.pinned (OpenSpec.ofChange orderedRemovesWrong)

/-- 'matchguardlaw13.OrderedOwn': WHATEVER THE INPUT: true; the input reads as it did. -/
def orderedOwnSpec : ChangeSpec := { name := "orderedOwn", fn := fun _ => fun
  | [d1, d2, d3] => { results := [.lit (.bool true)], args := [d1, d2, d3] }
  | _ => none }
def orderedOwnRow : OpenClaim := { program := "ytodajdohokmjnaa", sum := "5f1b249bccbebe5573ed0bbd8a19228eb46846da7724b9d4516be4b42c6d165d", func := "matchguard/matchguardlaw13.OrderedOwn", spec := "orderedOwn", inPlace := ["slices.overlaps[matchguard/api.Installed]"], unfollowed := true, recurses := true, apart := false }
def OrderedOwnSaid : Prop := orderedOwnRow.holds Try.pinned (OpenSpec.ofChange orderedOwnSpec)

/-- ITS FALSE NEIGHBOUR: 'it returns false'. Refute it at one input. -/
def orderedOwnWrong : ChangeSpec := { name := "orderedOwn", fn := fun _ => fun
  | [d1, d2, d3] => { results := [.lit (.bool false)], args := [d1, d2, d3] }
  | _ => none }
def OrderedOwnWrongFalsely : Prop := orderedOwnRow.holds Try.pinned (OpenSpec.ofChange orderedOwnWrong)

/- THE SECOND FORM. 'bulk': how many values and letters a reading holds, each counted each time it is reached (what is shared counts as often as it is met; a slice's spare places count too). A statement '..UptoSaid' is the law's where the arguments, and the package variables that the reading takes, are together of bulk at most 1048576: NARROWER than '..Said'. Prove '..Said' where nothing that the law and all that it calls make is longer than what came in: it says more and counts as full. Else prove '..UptoSaid'. A law counts once. -/
mutual
def uptoBulk {H : Type} : DataW H → Nat
  | .lit (.string bytes) => bytes.length + 1
  | .lit _ => 1
  | .nil => 1
  | .ptr d => uptoBulk d + 1
  | .slice elems spare => uptoBulkAll elems + uptoBulkAll spare + 1
  | .agg parts => uptoBulkAll parts + 1
  | .iface _ d => uptoBulk d + 1
  | .map entries => uptoBulkEntries entries + 1
  | .held _ => 1
def uptoBulkAll {H : Type} : List (DataW H) → Nat
  | [] => 0
  | d :: r => uptoBulk d + uptoBulkAll r
def uptoBulkEntries {H : Type} : List (Lit × DataW H) → Nat
  | [] => 0
  | x :: r => uptoBulkEntry x + uptoBulkEntries r
def uptoBulkEntry {H : Type} : Lit × DataW H → Nat
  | (.string bytes, d) => bytes.length + uptoBulk d + 1
  | (_, d) => uptoBulk d + 1
 end
def uptoSmall : (H : Type) → List (DataW H) → Bool := fun _ ds => decide (uptoBulkAll ds ≤ 1048576)
def OpenSpec.upto (s : _root_.Go.ChangeSpec) : _root_.Go.OpenSpec := { _root_.Go.OpenSpec.ofChange s with cond := some uptoSmall }

/-- 'matchguardlaw20.SessionCalls', WHERE WHAT IT READS IS OF BULK AT MOST 1048576: true; the input reads as it did. -/
def sessionCallsUptoRow : OpenClaim := { program := "ytodajdohokmjnaa", sum := "5f1b249bccbebe5573ed0bbd8a19228eb46846da7724b9d4516be4b42c6d165d", func := "matchguard/matchguardlaw20.SessionCalls", spec := "sessionCalls", inPlace := ["slices.overlaps[matchguard/session.Session]", "slices.overlaps[matchguard/session.Top]"], unfollowed := true, recurses := true, apart := false, narrowed := true }
def SessionCallsUptoSaid : Prop := sessionCallsUptoRow.holds Try.pinned (OpenSpec.upto sessionCallsSpec)

/-- 'matchguardlaw20.SessionHighest', WHERE WHAT IT READS IS OF BULK AT MOST 1048576: true; the input reads as it did. -/
def sessionHighestUptoRow : OpenClaim := { program := "ytodajdohokmjnaa", sum := "5f1b249bccbebe5573ed0bbd8a19228eb46846da7724b9d4516be4b42c6d165d", func := "matchguard/matchguardlaw20.SessionHighest", spec := "sessionHighest", inPlace := ["slices.overlaps[matchguard/session.Session]", "slices.overlaps[matchguard/session.Top]"], unfollowed := true, recurses := true, apart := false, narrowed := true }
def SessionHighestUptoSaid : Prop := sessionHighestUptoRow.holds Try.pinned (OpenSpec.upto sessionHighestSpec)

/-- 'matchguardlaw20.SessionAllows', WHERE WHAT IT READS IS OF BULK AT MOST 1048576: true; the input reads as it did. -/
def sessionAllowsUptoRow : OpenClaim := { program := "ytodajdohokmjnaa", sum := "5f1b249bccbebe5573ed0bbd8a19228eb46846da7724b9d4516be4b42c6d165d", func := "matchguard/matchguardlaw20.SessionAllows", spec := "sessionAllows", inPlace := ["slices.overlaps[matchguard/session.Session]", "slices.overlaps[matchguard/session.Top]"], unfollowed := true, recurses := true, apart := false, narrowed := true }
def SessionAllowsUptoSaid : Prop := sessionAllowsUptoRow.holds Try.pinned (OpenSpec.upto sessionAllowsSpec)

/-- 'matchguardlaw20.SessionOne', WHERE WHAT IT READS IS OF BULK AT MOST 1048576: true; the input reads as it did. -/
def sessionOneUptoRow : OpenClaim := { program := "ytodajdohokmjnaa", sum := "5f1b249bccbebe5573ed0bbd8a19228eb46846da7724b9d4516be4b42c6d165d", func := "matchguard/matchguardlaw20.SessionOne", spec := "sessionOne", inPlace := ["slices.overlaps[matchguard/session.Session]", "slices.overlaps[matchguard/session.Top]"], unfollowed := true, recurses := true, apart := false, narrowed := true }
def SessionOneUptoSaid : Prop := sessionOneUptoRow.holds Try.pinned (OpenSpec.upto sessionOneSpec)

/-- 'matchguardlaw13.OrderedLocal', WHERE WHAT IT READS IS OF BULK AT MOST 1048576: true; the input reads as it did. -/
def orderedLocalUptoRow : OpenClaim := { program := "ytodajdohokmjnaa", sum := "5f1b249bccbebe5573ed0bbd8a19228eb46846da7724b9d4516be4b42c6d165d", func := "matchguard/matchguardlaw13.OrderedLocal", spec := "orderedLocal", inPlace := ["slices.overlaps[matchguard/api.Installed]"], unfollowed := true, recurses := true, apart := false, narrowed := true }
def OrderedLocalUptoSaid : Prop := orderedLocalUptoRow.holds Try.pinned (OpenSpec.upto orderedLocalSpec)

/-- 'matchguardlaw27.ShadowBudget', WHERE WHAT IT READS IS OF BULK AT MOST 1048576: true; the input reads as it did. -/
def shadowBudgetUptoRow : OpenClaim := { program := "ytodajdohokmjnaa", sum := "5f1b249bccbebe5573ed0bbd8a19228eb46846da7724b9d4516be4b42c6d165d", func := "matchguard/matchguardlaw27.ShadowBudget", spec := "shadowBudget", unfollowed := true, recurses := true, apart := false, narrowed := true }
def ShadowBudgetUptoSaid : Prop := shadowBudgetUptoRow.holds Try.pinned (OpenSpec.upto shadowBudgetSpec)

/-- 'matchguardlaw13.OrderedLookup', WHERE WHAT IT READS IS OF BULK AT MOST 1048576: true; the input reads as it did. -/
def orderedLookupUptoRow : OpenClaim := { program := "ytodajdohokmjnaa", sum := "5f1b249bccbebe5573ed0bbd8a19228eb46846da7724b9d4516be4b42c6d165d", func := "matchguard/matchguardlaw13.OrderedLookup", spec := "orderedLookup", inPlace := ["slices.overlaps[matchguard/api.Installed]"], unfollowed := true, recurses := true, apart := false, narrowed := true }
def OrderedLookupUptoSaid : Prop := orderedLookupUptoRow.holds Try.pinned (OpenSpec.upto orderedLookupSpec)

/-- 'matchguardlaw13.OrderedRemoves', WHERE WHAT IT READS IS OF BULK AT MOST 1048576: true; the input reads as it did. -/
def orderedRemovesUptoRow : OpenClaim := { program := "ytodajdohokmjnaa", sum := "5f1b249bccbebe5573ed0bbd8a19228eb46846da7724b9d4516be4b42c6d165d", func := "matchguard/matchguardlaw13.OrderedRemoves", spec := "orderedRemoves", inPlace := ["slices.overlaps[matchguard/api.Installed]"], unfollowed := true, recurses := true, apart := false, narrowed := true }
def OrderedRemovesUptoSaid : Prop := orderedRemovesUptoRow.holds Try.pinned (OpenSpec.upto orderedRemovesSpec)

/-- 'matchguardlaw13.OrderedOwn', WHERE WHAT IT READS IS OF BULK AT MOST 1048576: true; the input reads as it did. -/
def orderedOwnUptoRow : OpenClaim := { program := "ytodajdohokmjnaa", sum := "5f1b249bccbebe5573ed0bbd8a19228eb46846da7724b9d4516be4b42c6d165d", func := "matchguard/matchguardlaw13.OrderedOwn", spec := "orderedOwn", inPlace := ["slices.overlaps[matchguard/api.Installed]"], unfollowed := true, recurses := true, apart := false, narrowed := true }
def OrderedOwnUptoSaid : Prop := orderedOwnUptoRow.holds Try.pinned (OpenSpec.upto orderedOwnSpec)

end Rows
end Go.Proofs.Ytodajdohokmjnaa
