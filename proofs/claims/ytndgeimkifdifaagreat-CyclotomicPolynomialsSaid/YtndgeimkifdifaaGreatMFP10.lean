/- Runs of the law. -/
import Derived.Test.YtndgeimkifdifaaGreatMFC
set_option maxRecDepth 1000000
set_option linter.unusedVariables false
namespace Go.AM
open Go.Proofs
noncomputable section
theorem pr4 : yesB (F3h (nn 4) S0 fin) = true := by kernel_rfl
theorem pr8 : yesB (F3h (nn 8) S0 fin) = true := by kernel_rfl
theorem pr33 : yesB (F3h (nn 33) S0 fin) = true := by kernel_rfl
theorem pr70 : yesB (F3h (nn 70) S0 fin) = true := by kernel_rfl
theorem pr71 : yesB (F3h (nn 71) S0 fin) = true := by kernel_rfl
theorem pr85 : yesB (F3h (nn 85) S0 fin) = true := by kernel_rfl
theorem pr88 : yesB (F3h (nn 88) S0 fin) = true := by kernel_rfl
theorem pr123 : yesB (F3h (nn 123) S0 fin) = true := by kernel_rfl
theorem pr152 : yesB (F3h (nn 152) S0 fin) = true := by kernel_rfl
theorem pr158 : yesB (F3h (nn 158) S0 fin) = true := by kernel_rfl
theorem pr169 : yesB (F3h (nn 169) S0 fin) = true := by kernel_rfl
theorem pr178 : yesB (F3h (nn 178) S0 fin) = true := by kernel_rfl
theorem pr192 : yesB (F3h (nn 192) S0 fin) = true := by kernel_rfl
theorem pr198 : yesB (F3h (nn 198) S0 fin) = true := by kernel_rfl
theorem pr209 : yesB (F3h (nn 209) S0 fin) = true := by kernel_rfl
theorem pr229 : yesB (F3h (nn 229) S0 fin) = true := by kernel_rfl
theorem pr237 : yesB (F3h (nn 237) S0 fin) = true := by kernel_rfl
end
end Go.AM
