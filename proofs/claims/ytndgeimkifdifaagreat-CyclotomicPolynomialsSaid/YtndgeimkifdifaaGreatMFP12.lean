/- Runs of the law. -/
import Derived.Test.YtndgeimkifdifaaGreatMFC
set_option maxRecDepth 1000000
set_option linter.unusedVariables false
namespace Go.AM
open Go.Proofs
noncomputable section
theorem pr12 : yesB (F3h (nn 12) S0 fin) = true := by kernel_rfl
theorem pr45 : yesB (F3h (nn 45) S0 fin) = true := by kernel_rfl
theorem pr58 : yesB (F3h (nn 58) S0 fin) = true := by kernel_rfl
theorem pr73 : yesB (F3h (nn 73) S0 fin) = true := by kernel_rfl
theorem pr74 : yesB (F3h (nn 74) S0 fin) = true := by kernel_rfl
theorem pr90 : yesB (F3h (nn 90) S0 fin) = true := by kernel_rfl
theorem pr116 : yesB (F3h (nn 116) S0 fin) = true := by kernel_rfl
theorem pr119 : yesB (F3h (nn 119) S0 fin) = true := by kernel_rfl
theorem pr120 : yesB (F3h (nn 120) S0 fin) = true := by kernel_rfl
theorem pr133 : yesB (F3h (nn 133) S0 fin) = true := by kernel_rfl
theorem pr149 : yesB (F3h (nn 149) S0 fin) = true := by kernel_rfl
theorem pr164 : yesB (F3h (nn 164) S0 fin) = true := by kernel_rfl
theorem pr228 : yesB (F3h (nn 228) S0 fin) = true := by kernel_rfl
theorem pr230 : yesB (F3h (nn 230) S0 fin) = true := by kernel_rfl
theorem pr240 : yesB (F3h (nn 240) S0 fin) = true := by kernel_rfl
theorem pr247 : yesB (F3h (nn 247) S0 fin) = true := by kernel_rfl
end
end Go.AM
