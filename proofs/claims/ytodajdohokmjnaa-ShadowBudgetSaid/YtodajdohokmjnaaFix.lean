/-
  The law CubeFixes, in plain Lean. Conditions: none.
-/
import Derived.Test.YtodajdohokmjnaaVam
namespace Go.Proofs.Ytodajdohokmjnaa
open Go Gv
set_option linter.unusedVariables false
set_option linter.unusedSimpArgs false
set_option maxRecDepth 100000

theorem cell_eq_two {val mask : Vector T_api_Value 4} {i : Nat} : (cell val mask i == 2#8) = !cv mask i := by
  unfold cell
  cases cv mask i
  · simp
  · cases cv val i <;> simp

end Go.Proofs.Ytodajdohokmjnaa
