/- Runs of the law. -/
import Derived.Test.YtndgeimkifdifaaGreatMFC
set_option maxRecDepth 1000000
set_option linter.unusedVariables false
namespace Go.AM
open Go.Proofs
noncomputable section
theorem pr7 : yesB (F3h (nn 7) S0 fin) = true := by kernel_rfl
theorem pr26 : yesB (F3h (nn 26) S0 fin) = true := by kernel_rfl
theorem pr60 : yesB (F3h (nn 60) S0 fin) = true := by kernel_rfl
theorem pr89 : yesB (F3h (nn 89) S0 fin) = true := by kernel_rfl
theorem pr102 : yesB (F3h (nn 102) S0 fin) = true := by kernel_rfl
theorem pr105 : yesB (F3h (nn 105) S0 fin) = true := by kernel_rfl
theorem pr112 : yesB (F3h (nn 112) S0 fin) = true := by kernel_rfl
theorem pr128 : yesB (F3h (nn 128) S0 fin) = true := by kernel_rfl
theorem pr135 : yesB (F3h (nn 135) S0 fin) = true := by kernel_rfl
theorem pr139 : yesB (F3h (nn 139) S0 fin) = true := by kernel_rfl
theorem pr156 : yesB (F3h (nn 156) S0 fin) = true := by kernel_rfl
theorem pr171 : yesB (F3h (nn 171) S0 fin) = true := by kernel_rfl
theorem pr216 : yesB (F3h (nn 216) S0 fin) = true := by kernel_rfl
theorem pr219 : yesB (F3h (nn 219) S0 fin) = true := by kernel_rfl
theorem pr227 : yesB (F3h (nn 227) S0 fin) = true := by kernel_rfl
theorem pr255 : yesB (F3h (nn 255) S0 fin) = true := by kernel_rfl
end
end Go.AM
