/- Runs of the law. -/
import Derived.Test.YtndgeimkifdifaaGreatMFC
set_option maxRecDepth 1000000
set_option linter.unusedVariables false
namespace Go.AM
open Go.Proofs
noncomputable section
theorem pr27 : yesB (F3h (nn 27) S0 fin) = true := by kernel_rfl
theorem pr38 : yesB (F3h (nn 38) S0 fin) = true := by kernel_rfl
theorem pr41 : yesB (F3h (nn 41) S0 fin) = true := by kernel_rfl
theorem pr44 : yesB (F3h (nn 44) S0 fin) = true := by kernel_rfl
theorem pr63 : yesB (F3h (nn 63) S0 fin) = true := by kernel_rfl
theorem pr79 : yesB (F3h (nn 79) S0 fin) = true := by kernel_rfl
theorem pr98 : yesB (F3h (nn 98) S0 fin) = true := by kernel_rfl
theorem pr104 : yesB (F3h (nn 104) S0 fin) = true := by kernel_rfl
theorem pr166 : yesB (F3h (nn 166) S0 fin) = true := by kernel_rfl
theorem pr170 : yesB (F3h (nn 170) S0 fin) = true := by kernel_rfl
theorem pr177 : yesB (F3h (nn 177) S0 fin) = true := by kernel_rfl
theorem pr180 : yesB (F3h (nn 180) S0 fin) = true := by kernel_rfl
theorem pr201 : yesB (F3h (nn 201) S0 fin) = true := by kernel_rfl
theorem pr239 : yesB (F3h (nn 239) S0 fin) = true := by kernel_rfl
theorem pr252 : yesB (F3h (nn 252) S0 fin) = true := by kernel_rfl
end
end Go.AM
