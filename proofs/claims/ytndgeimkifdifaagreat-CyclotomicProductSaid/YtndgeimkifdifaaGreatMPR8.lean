/- Runs of the law. -/
import Derived.Test.YtndgeimkifdifaaGreatMPC
set_option maxRecDepth 1000000
set_option linter.unusedVariables false
namespace Go.AM
open Go.Proofs
noncomputable section
theorem prun5 (v0 : V) : yesB (L6h v0 (.i .i64 5)) = true := by kernel_rfl
theorem prun22 (v0 : V) : yesB (L6h v0 (.i .i64 22)) = true := by kernel_rfl
theorem prun29 (v0 : V) : yesB (L6h v0 (.i .i64 29)) = true := by kernel_rfl
theorem prun39 (v0 : V) : yesB (L6h v0 (.i .i64 39)) = true := by kernel_rfl
theorem prun44 (v0 : V) : yesB (L6h v0 (.i .i64 44)) = true := by kernel_rfl
theorem prun50 (v0 : V) : yesB (L6h v0 (.i .i64 50)) = true := by kernel_rfl
end
end Go.AM
