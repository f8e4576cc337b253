/- Runs of the law. -/
import Derived.Test.YtndgeimkifdifaaGreatMFC
set_option maxRecDepth 1000000
set_option linter.unusedVariables false
namespace Go.AM
open Go.Proofs
noncomputable section
theorem pr2 : yesB (F3h (nn 2) S0 fin) = true := by kernel_rfl
theorem pr5 : yesB (F3h (nn 5) S0 fin) = true := by kernel_rfl
theorem pr32 : yesB (F3h (nn 32) S0 fin) = true := by kernel_rfl
theorem pr80 : yesB (F3h (nn 80) S0 fin) = true := by kernel_rfl
theorem pr83 : yesB (F3h (nn 83) S0 fin) = true := by kernel_rfl
theorem pr84 : yesB (F3h (nn 84) S0 fin) = true := by kernel_rfl
theorem pr101 : yesB (F3h (nn 101) S0 fin) = true := by kernel_rfl
theorem pr122 : yesB (F3h (nn 122) S0 fin) = true := by kernel_rfl
theorem pr134 : yesB (F3h (nn 134) S0 fin) = true := by kernel_rfl
theorem pr144 : yesB (F3h (nn 144) S0 fin) = true := by kernel_rfl
theorem pr168 : yesB (F3h (nn 168) S0 fin) = true := by kernel_rfl
theorem pr176 : yesB (F3h (nn 176) S0 fin) = true := by kernel_rfl
theorem pr179 : yesB (F3h (nn 179) S0 fin) = true := by kernel_rfl
theorem pr188 : yesB (F3h (nn 188) S0 fin) = true := by kernel_rfl
theorem pr191 : yesB (F3h (nn 191) S0 fin) = true := by kernel_rfl
theorem pr235 : yesB (F3h (nn 235) S0 fin) = true := by kernel_rfl
theorem pr241 : yesB (F3h (nn 241) S0 fin) = true := by kernel_rfl
end
end Go.AM
