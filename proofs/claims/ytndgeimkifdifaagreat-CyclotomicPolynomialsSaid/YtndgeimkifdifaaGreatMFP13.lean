/- Runs of the law. -/
import Derived.Test.YtndgeimkifdifaaGreatMFC
set_option maxRecDepth 1000000
set_option linter.unusedVariables false
namespace Go.AM
open Go.Proofs
noncomputable section
theorem pr20 : yesB (F3h (nn 20) S0 fin) = true := by kernel_rfl
theorem pr36 : yesB (F3h (nn 36) S0 fin) = true := by kernel_rfl
theorem pr53 : yesB (F3h (nn 53) S0 fin) = true := by kernel_rfl
theorem pr55 : yesB (F3h (nn 55) S0 fin) = true := by kernel_rfl
theorem pr61 : yesB (F3h (nn 61) S0 fin) = true := by kernel_rfl
theorem pr75 : yesB (F3h (nn 75) S0 fin) = true := by kernel_rfl
theorem pr81 : yesB (F3h (nn 81) S0 fin) = true := by kernel_rfl
theorem pr94 : yesB (F3h (nn 94) S0 fin) = true := by kernel_rfl
theorem pr111 : yesB (F3h (nn 111) S0 fin) = true := by kernel_rfl
theorem pr115 : yesB (F3h (nn 115) S0 fin) = true := by kernel_rfl
theorem pr194 : yesB (F3h (nn 194) S0 fin) = true := by kernel_rfl
theorem pr197 : yesB (F3h (nn 197) S0 fin) = true := by kernel_rfl
theorem pr221 : yesB (F3h (nn 221) S0 fin) = true := by kernel_rfl
theorem pr222 : yesB (F3h (nn 222) S0 fin) = true := by kernel_rfl
theorem pr225 : yesB (F3h (nn 225) S0 fin) = true := by kernel_rfl
theorem pr233 : yesB (F3h (nn 233) S0 fin) = true := by kernel_rfl
end
end Go.AM
