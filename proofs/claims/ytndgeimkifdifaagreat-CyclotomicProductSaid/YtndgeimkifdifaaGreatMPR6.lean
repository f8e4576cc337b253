/- Runs of the law. -/
import Derived.Test.YtndgeimkifdifaaGreatMPC
set_option maxRecDepth 1000000
set_option linter.unusedVariables false
namespace Go.AM
open Go.Proofs
noncomputable section
theorem prun13 (v0 : V) : yesB (L6h v0 (.i .i64 13)) = true := by kernel_rfl
theorem prun17 (v0 : V) : yesB (L6h v0 (.i .i64 17)) = true := by kernel_rfl
theorem prun34 (v0 : V) : yesB (L6h v0 (.i .i64 34)) = true := by kernel_rfl
theorem prun41 (v0 : V) : yesB (L6h v0 (.i .i64 41)) = true := by kernel_rfl
theorem prun42 (v0 : V) : yesB (L6h v0 (.i .i64 42)) = true := by kernel_rfl
theorem prun45 (v0 : V) : yesB (L6h v0 (.i .i64 45)) = true := by kernel_rfl
end
end Go.AM
