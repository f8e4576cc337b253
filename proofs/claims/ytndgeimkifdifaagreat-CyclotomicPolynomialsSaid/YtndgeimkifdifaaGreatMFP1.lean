/- Runs of the law. -/
import Derived.Test.YtndgeimkifdifaaGreatMFC
set_option maxRecDepth 1000000
set_option linter.unusedVariables false
namespace Go.AM
open Go.Proofs
noncomputable section
theorem pr24 : yesB (F3h (nn 24) S0 fin) = true := by kernel_rfl
theorem pr28 : yesB (F3h (nn 28) S0 fin) = true := by kernel_rfl
theorem pr35 : yesB (F3h (nn 35) S0 fin) = true := by kernel_rfl
theorem pr42 : yesB (F3h (nn 42) S0 fin) = true := by kernel_rfl
theorem pr43 : yesB (F3h (nn 43) S0 fin) = true := by kernel_rfl
theorem pr65 : yesB (F3h (nn 65) S0 fin) = true := by kernel_rfl
theorem pr132 : yesB (F3h (nn 132) S0 fin) = true := by kernel_rfl
theorem pr147 : yesB (F3h (nn 147) S0 fin) = true := by kernel_rfl
theorem pr153 : yesB (F3h (nn 153) S0 fin) = true := by kernel_rfl
theorem pr175 : yesB (F3h (nn 175) S0 fin) = true := by kernel_rfl
theorem pr183 : yesB (F3h (nn 183) S0 fin) = true := by kernel_rfl
theorem pr186 : yesB (F3h (nn 186) S0 fin) = true := by kernel_rfl
theorem pr206 : yesB (F3h (nn 206) S0 fin) = true := by kernel_rfl
theorem pr215 : yesB (F3h (nn 215) S0 fin) = true := by kernel_rfl
theorem pr218 : yesB (F3h (nn 218) S0 fin) = true := by kernel_rfl
end
end Go.AM
