/- Runs of the law. -/
import Derived.Test.YtndgeimkifdifaaGreatMPC
set_option maxRecDepth 1000000
set_option linter.unusedVariables false
namespace Go.AM
open Go.Proofs
noncomputable section
theorem prun9 (v0 : V) : yesB (L6h v0 (.i .i64 9)) = true := by kernel_rfl
theorem prun19 (v0 : V) : yesB (L6h v0 (.i .i64 19)) = true := by kernel_rfl
theorem prun24 (v0 : V) : yesB (L6h v0 (.i .i64 24)) = true := by kernel_rfl
theorem prun43 (v0 : V) : yesB (L6h v0 (.i .i64 43)) = true := by kernel_rfl
theorem prun51 (v0 : V) : yesB (L6h v0 (.i .i64 51)) = true := by kernel_rfl
theorem prun57 (v0 : V) : yesB (L6h v0 (.i .i64 57)) = true := by kernel_rfl
end
end Go.AM
