/-
  The law CubeFixes, in plain Lean. Conditions: none.
-/
import Derived.Test.YtabodolbdalimaaVam
namespace Go.Proofs.Ytabodolbdalimaa
open Go Gv
set_option linter.unusedVariables false
set_option linter.unusedSimpArgs false
set_option maxRecDepth 100000

theorem begun_ok : L_law25_begun = some true := by kernel_rfl

theorem cell_eq_two {val mask : Vector T_api_Value 4} {i : Nat} : (cell val mask i == 2#8) = !cv mask i := by
  unfold cell
  cases cv mask i
  · simp
  · cases cv val i <;> simp

end Go.Proofs.Ytabodolbdalimaa
