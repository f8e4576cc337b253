/- Runs of the law. -/
import Derived.Test.YtndgeimkifdifaaGreatMFC
set_option maxRecDepth 1000000
set_option linter.unusedVariables false
namespace Go.AM
open Go.Proofs
noncomputable section
theorem pr11 : yesB (F3h (nn 11) S0 fin) = true := by kernel_rfl
theorem pr17 : yesB (F3h (nn 17) S0 fin) = true := by kernel_rfl
theorem pr51 : yesB (F3h (nn 51) S0 fin) = true := by kernel_rfl
theorem pr97 : yesB (F3h (nn 97) S0 fin) = true := by kernel_rfl
theorem pr107 : yesB (F3h (nn 107) S0 fin) = true := by kernel_rfl
theorem pr114 : yesB (F3h (nn 114) S0 fin) = true := by kernel_rfl
theorem pr137 : yesB (F3h (nn 137) S0 fin) = true := by kernel_rfl
theorem pr138 : yesB (F3h (nn 138) S0 fin) = true := by kernel_rfl
theorem pr148 : yesB (F3h (nn 148) S0 fin) = true := by kernel_rfl
theorem pr150 : yesB (F3h (nn 150) S0 fin) = true := by kernel_rfl
theorem pr151 : yesB (F3h (nn 151) S0 fin) = true := by kernel_rfl
theorem pr202 : yesB (F3h (nn 202) S0 fin) = true := by kernel_rfl
theorem pr214 : yesB (F3h (nn 214) S0 fin) = true := by kernel_rfl
theorem pr223 : yesB (F3h (nn 223) S0 fin) = true := by kernel_rfl
theorem pr246 : yesB (F3h (nn 246) S0 fin) = true := by kernel_rfl
theorem pr248 : yesB (F3h (nn 248) S0 fin) = true := by kernel_rfl
end
end Go.AM
