/- Runs of the law. -/
import Derived.Test.YtndgeimkifdifaaGreatMPC
set_option maxRecDepth 1000000
set_option linter.unusedVariables false
namespace Go.AM
open Go.Proofs
noncomputable section
theorem prun8 (v0 : V) : yesB (L6h v0 (.i .i64 8)) = true := by kernel_rfl
theorem prun14 (v0 : V) : yesB (L6h v0 (.i .i64 14)) = true := by kernel_rfl
theorem prun26 (v0 : V) : yesB (L6h v0 (.i .i64 26)) = true := by kernel_rfl
theorem prun46 (v0 : V) : yesB (L6h v0 (.i .i64 46)) = true := by kernel_rfl
theorem prun49 (v0 : V) : yesB (L6h v0 (.i .i64 49)) = true := by kernel_rfl
theorem prun52 (v0 : V) : yesB (L6h v0 (.i .i64 52)) = true := by kernel_rfl
end
end Go.AM
