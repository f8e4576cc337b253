/- Runs of the law. -/
import Derived.Test.YtndgeimkifdifaaGreatMFC
set_option maxRecDepth 1000000
set_option linter.unusedVariables false
namespace Go.AM
open Go.Proofs
noncomputable section
theorem pr14 : yesB (F3h (nn 14) S0 fin) = true := by kernel_rfl
theorem pr23 : yesB (F3h (nn 23) S0 fin) = true := by kernel_rfl
theorem pr67 : yesB (F3h (nn 67) S0 fin) = true := by kernel_rfl
theorem pr72 : yesB (F3h (nn 72) S0 fin) = true := by kernel_rfl
theorem pr77 : yesB (F3h (nn 77) S0 fin) = true := by kernel_rfl
theorem pr93 : yesB (F3h (nn 93) S0 fin) = true := by kernel_rfl
theorem pr108 : yesB (F3h (nn 108) S0 fin) = true := by kernel_rfl
theorem pr124 : yesB (F3h (nn 124) S0 fin) = true := by kernel_rfl
theorem pr126 : yesB (F3h (nn 126) S0 fin) = true := by kernel_rfl
theorem pr141 : yesB (F3h (nn 141) S0 fin) = true := by kernel_rfl
theorem pr143 : yesB (F3h (nn 143) S0 fin) = true := by kernel_rfl
theorem pr163 : yesB (F3h (nn 163) S0 fin) = true := by kernel_rfl
theorem pr187 : yesB (F3h (nn 187) S0 fin) = true := by kernel_rfl
theorem pr199 : yesB (F3h (nn 199) S0 fin) = true := by kernel_rfl
theorem pr203 : yesB (F3h (nn 203) S0 fin) = true := by kernel_rfl
theorem pr256 : yesB (F3h (nn 256) S0 fin) = true := by kernel_rfl
end
end Go.AM
