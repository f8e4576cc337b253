/- Runs of the law. -/
import Derived.Test.YtndgeimkifdifaaGreatMFC
set_option maxRecDepth 1000000
set_option linter.unusedVariables false
namespace Go.AM
open Go.Proofs
noncomputable section
theorem pr3 : yesB (F3h (nn 3) S0 fin) = true := by kernel_rfl
theorem pr6 : yesB (F3h (nn 6) S0 fin) = true := by kernel_rfl
theorem pr30 : yesB (F3h (nn 30) S0 fin) = true := by kernel_rfl
theorem pr31 : yesB (F3h (nn 31) S0 fin) = true := by kernel_rfl
theorem pr57 : yesB (F3h (nn 57) S0 fin) = true := by kernel_rfl
theorem pr64 : yesB (F3h (nn 64) S0 fin) = true := by kernel_rfl
theorem pr78 : yesB (F3h (nn 78) S0 fin) = true := by kernel_rfl
theorem pr87 : yesB (F3h (nn 87) S0 fin) = true := by kernel_rfl
theorem pr92 : yesB (F3h (nn 92) S0 fin) = true := by kernel_rfl
theorem pr106 : yesB (F3h (nn 106) S0 fin) = true := by kernel_rfl
theorem pr109 : yesB (F3h (nn 109) S0 fin) = true := by kernel_rfl
theorem pr146 : yesB (F3h (nn 146) S0 fin) = true := by kernel_rfl
theorem pr184 : yesB (F3h (nn 184) S0 fin) = true := by kernel_rfl
theorem pr189 : yesB (F3h (nn 189) S0 fin) = true := by kernel_rfl
theorem pr208 : yesB (F3h (nn 208) S0 fin) = true := by kernel_rfl
theorem pr232 : yesB (F3h (nn 232) S0 fin) = true := by kernel_rfl
theorem pr249 : yesB (F3h (nn 249) S0 fin) = true := by kernel_rfl
end
end Go.AM
