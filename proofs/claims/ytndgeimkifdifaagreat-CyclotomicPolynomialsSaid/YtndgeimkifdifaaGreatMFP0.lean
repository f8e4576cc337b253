/- Runs of the law. -/
import Derived.Test.YtndgeimkifdifaaGreatMFC
set_option maxRecDepth 1000000
set_option linter.unusedVariables false
namespace Go.AM
open Go.Proofs
noncomputable section
theorem pr15 : yesB (F3h (nn 15) S0 fin) = true := by kernel_rfl
theorem pr22 : yesB (F3h (nn 22) S0 fin) = true := by kernel_rfl
theorem pr29 : yesB (F3h (nn 29) S0 fin) = true := by kernel_rfl
theorem pr34 : yesB (F3h (nn 34) S0 fin) = true := by kernel_rfl
theorem pr37 : yesB (F3h (nn 37) S0 fin) = true := by kernel_rfl
theorem pr56 : yesB (F3h (nn 56) S0 fin) = true := by kernel_rfl
theorem pr165 : yesB (F3h (nn 165) S0 fin) = true := by kernel_rfl
theorem pr190 : yesB (F3h (nn 190) S0 fin) = true := by kernel_rfl
theorem pr196 : yesB (F3h (nn 196) S0 fin) = true := by kernel_rfl
theorem pr210 : yesB (F3h (nn 210) S0 fin) = true := by kernel_rfl
theorem pr224 : yesB (F3h (nn 224) S0 fin) = true := by kernel_rfl
theorem pr226 : yesB (F3h (nn 226) S0 fin) = true := by kernel_rfl
theorem pr244 : yesB (F3h (nn 244) S0 fin) = true := by kernel_rfl
theorem pr245 : yesB (F3h (nn 245) S0 fin) = true := by kernel_rfl
theorem pr251 : yesB (F3h (nn 251) S0 fin) = true := by kernel_rfl
end
end Go.AM
