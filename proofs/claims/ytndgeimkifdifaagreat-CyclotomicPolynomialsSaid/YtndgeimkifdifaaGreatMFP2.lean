/- Runs of the law. -/
import Derived.Test.YtndgeimkifdifaaGreatMFC
set_option maxRecDepth 1000000
set_option linter.unusedVariables false
namespace Go.AM
open Go.Proofs
noncomputable section
theorem pr13 : yesB (F3h (nn 13) S0 fin) = true := by kernel_rfl
theorem pr48 : yesB (F3h (nn 48) S0 fin) = true := by kernel_rfl
theorem pr49 : yesB (F3h (nn 49) S0 fin) = true := by kernel_rfl
theorem pr66 : yesB (F3h (nn 66) S0 fin) = true := by kernel_rfl
theorem pr127 : yesB (F3h (nn 127) S0 fin) = true := by kernel_rfl
theorem pr129 : yesB (F3h (nn 129) S0 fin) = true := by kernel_rfl
theorem pr136 : yesB (F3h (nn 136) S0 fin) = true := by kernel_rfl
theorem pr155 : yesB (F3h (nn 155) S0 fin) = true := by kernel_rfl
theorem pr157 : yesB (F3h (nn 157) S0 fin) = true := by kernel_rfl
theorem pr174 : yesB (F3h (nn 174) S0 fin) = true := by kernel_rfl
theorem pr212 : yesB (F3h (nn 212) S0 fin) = true := by kernel_rfl
theorem pr213 : yesB (F3h (nn 213) S0 fin) = true := by kernel_rfl
theorem pr236 : yesB (F3h (nn 236) S0 fin) = true := by kernel_rfl
theorem pr243 : yesB (F3h (nn 243) S0 fin) = true := by kernel_rfl
theorem pr253 : yesB (F3h (nn 253) S0 fin) = true := by kernel_rfl
end
end Go.AM
