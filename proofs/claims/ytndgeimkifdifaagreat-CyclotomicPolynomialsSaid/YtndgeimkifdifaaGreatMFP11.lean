/- Runs of the law. -/
import Derived.Test.YtndgeimkifdifaaGreatMFC
set_option maxRecDepth 1000000
set_option linter.unusedVariables false
namespace Go.AM
open Go.Proofs
noncomputable section
theorem pr10 : yesB (F3h (nn 10) S0 fin) = true := by kernel_rfl
theorem pr19 : yesB (F3h (nn 19) S0 fin) = true := by kernel_rfl
theorem pr76 : yesB (F3h (nn 76) S0 fin) = true := by kernel_rfl
theorem pr86 : yesB (F3h (nn 86) S0 fin) = true := by kernel_rfl
theorem pr95 : yesB (F3h (nn 95) S0 fin) = true := by kernel_rfl
theorem pr99 : yesB (F3h (nn 99) S0 fin) = true := by kernel_rfl
theorem pr110 : yesB (F3h (nn 110) S0 fin) = true := by kernel_rfl
theorem pr113 : yesB (F3h (nn 113) S0 fin) = true := by kernel_rfl
theorem pr130 : yesB (F3h (nn 130) S0 fin) = true := by kernel_rfl
theorem pr142 : yesB (F3h (nn 142) S0 fin) = true := by kernel_rfl
theorem pr159 : yesB (F3h (nn 159) S0 fin) = true := by kernel_rfl
theorem pr167 : yesB (F3h (nn 167) S0 fin) = true := by kernel_rfl
theorem pr182 : yesB (F3h (nn 182) S0 fin) = true := by kernel_rfl
theorem pr205 : yesB (F3h (nn 205) S0 fin) = true := by kernel_rfl
theorem pr211 : yesB (F3h (nn 211) S0 fin) = true := by kernel_rfl
theorem pr220 : yesB (F3h (nn 220) S0 fin) = true := by kernel_rfl
end
end Go.AM
