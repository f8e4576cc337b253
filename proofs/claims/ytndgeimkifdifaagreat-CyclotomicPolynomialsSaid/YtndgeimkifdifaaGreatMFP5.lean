/- Runs of the law. -/
import Derived.Test.YtndgeimkifdifaaGreatMFC
set_option maxRecDepth 1000000
set_option linter.unusedVariables false
namespace Go.AM
open Go.Proofs
noncomputable section
theorem pr1 : yesB (F3h (nn 1) S0 fin) = true := by kernel_rfl
theorem pr9 : yesB (F3h (nn 9) S0 fin) = true := by kernel_rfl
theorem pr21 : yesB (F3h (nn 21) S0 fin) = true := by kernel_rfl
theorem pr54 : yesB (F3h (nn 54) S0 fin) = true := by kernel_rfl
theorem pr62 : yesB (F3h (nn 62) S0 fin) = true := by kernel_rfl
theorem pr69 : yesB (F3h (nn 69) S0 fin) = true := by kernel_rfl
theorem pr82 : yesB (F3h (nn 82) S0 fin) = true := by kernel_rfl
theorem pr100 : yesB (F3h (nn 100) S0 fin) = true := by kernel_rfl
theorem pr117 : yesB (F3h (nn 117) S0 fin) = true := by kernel_rfl
theorem pr118 : yesB (F3h (nn 118) S0 fin) = true := by kernel_rfl
theorem pr125 : yesB (F3h (nn 125) S0 fin) = true := by kernel_rfl
theorem pr131 : yesB (F3h (nn 131) S0 fin) = true := by kernel_rfl
theorem pr172 : yesB (F3h (nn 172) S0 fin) = true := by kernel_rfl
theorem pr185 : yesB (F3h (nn 185) S0 fin) = true := by kernel_rfl
theorem pr217 : yesB (F3h (nn 217) S0 fin) = true := by kernel_rfl
theorem pr234 : yesB (F3h (nn 234) S0 fin) = true := by kernel_rfl
theorem pr238 : yesB (F3h (nn 238) S0 fin) = true := by kernel_rfl
end
end Go.AM
