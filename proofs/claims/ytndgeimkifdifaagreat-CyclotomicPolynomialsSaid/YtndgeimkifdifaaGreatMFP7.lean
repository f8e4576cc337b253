/- Runs of the law. -/
import Derived.Test.YtndgeimkifdifaaGreatMFC
set_option maxRecDepth 1000000
set_option linter.unusedVariables false
namespace Go.AM
open Go.Proofs
noncomputable section
theorem pr16 : yesB (F3h (nn 16) S0 fin) = true := by kernel_rfl
theorem pr39 : yesB (F3h (nn 39) S0 fin) = true := by kernel_rfl
theorem pr40 : yesB (F3h (nn 40) S0 fin) = true := by kernel_rfl
theorem pr50 : yesB (F3h (nn 50) S0 fin) = true := by kernel_rfl
theorem pr52 : yesB (F3h (nn 52) S0 fin) = true := by kernel_rfl
theorem pr96 : yesB (F3h (nn 96) S0 fin) = true := by kernel_rfl
theorem pr140 : yesB (F3h (nn 140) S0 fin) = true := by kernel_rfl
theorem pr154 : yesB (F3h (nn 154) S0 fin) = true := by kernel_rfl
theorem pr160 : yesB (F3h (nn 160) S0 fin) = true := by kernel_rfl
theorem pr161 : yesB (F3h (nn 161) S0 fin) = true := by kernel_rfl
theorem pr162 : yesB (F3h (nn 162) S0 fin) = true := by kernel_rfl
theorem pr173 : yesB (F3h (nn 173) S0 fin) = true := by kernel_rfl
theorem pr181 : yesB (F3h (nn 181) S0 fin) = true := by kernel_rfl
theorem pr195 : yesB (F3h (nn 195) S0 fin) = true := by kernel_rfl
theorem pr231 : yesB (F3h (nn 231) S0 fin) = true := by kernel_rfl
theorem pr250 : yesB (F3h (nn 250) S0 fin) = true := by kernel_rfl
end
end Go.AM
