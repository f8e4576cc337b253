/- Runs of the law. -/
import Derived.Test.YtndgeimkifdifaaGreatMFC
set_option maxRecDepth 1000000
set_option linter.unusedVariables false
namespace Go.AM
open Go.Proofs
noncomputable section
theorem pr18 : yesB (F3h (nn 18) S0 fin) = true := by kernel_rfl
theorem pr25 : yesB (F3h (nn 25) S0 fin) = true := by kernel_rfl
theorem pr46 : yesB (F3h (nn 46) S0 fin) = true := by kernel_rfl
theorem pr47 : yesB (F3h (nn 47) S0 fin) = true := by kernel_rfl
theorem pr59 : yesB (F3h (nn 59) S0 fin) = true := by kernel_rfl
theorem pr68 : yesB (F3h (nn 68) S0 fin) = true := by kernel_rfl
theorem pr91 : yesB (F3h (nn 91) S0 fin) = true := by kernel_rfl
theorem pr103 : yesB (F3h (nn 103) S0 fin) = true := by kernel_rfl
theorem pr121 : yesB (F3h (nn 121) S0 fin) = true := by kernel_rfl
theorem pr145 : yesB (F3h (nn 145) S0 fin) = true := by kernel_rfl
theorem pr193 : yesB (F3h (nn 193) S0 fin) = true := by kernel_rfl
theorem pr200 : yesB (F3h (nn 200) S0 fin) = true := by kernel_rfl
theorem pr204 : yesB (F3h (nn 204) S0 fin) = true := by kernel_rfl
theorem pr207 : yesB (F3h (nn 207) S0 fin) = true := by kernel_rfl
theorem pr242 : yesB (F3h (nn 242) S0 fin) = true := by kernel_rfl
theorem pr254 : yesB (F3h (nn 254) S0 fin) = true := by kernel_rfl
end
end Go.AM
