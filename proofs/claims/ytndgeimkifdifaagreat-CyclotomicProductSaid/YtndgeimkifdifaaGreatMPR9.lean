/- Runs of the law. -/
import Derived.Test.YtndgeimkifdifaaGreatMPC
set_option maxRecDepth 1000000
set_option linter.unusedVariables false
namespace Go.AM
open Go.Proofs
noncomputable section
theorem prun2 (v0 : V) : yesB (L6h v0 (.i .i64 2)) = true := by kernel_rfl
theorem prun20 (v0 : V) : yesB (L6h v0 (.i .i64 20)) = true := by kernel_rfl
theorem prun21 (v0 : V) : yesB (L6h v0 (.i .i64 21)) = true := by kernel_rfl
theorem prun36 (v0 : V) : yesB (L6h v0 (.i .i64 36)) = true := by kernel_rfl
theorem prun40 (v0 : V) : yesB (L6h v0 (.i .i64 40)) = true := by kernel_rfl
theorem prun53 (v0 : V) : yesB (L6h v0 (.i .i64 53)) = true := by kernel_rfl
end
end Go.AM
