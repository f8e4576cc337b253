/- Runs of the law. -/
import Derived.Test.YtndgeimkifdifaaGreatMPC
set_option maxRecDepth 1000000
set_option linter.unusedVariables false
namespace Go.AM
open Go.Proofs
noncomputable section
theorem prun1 (v0 : V) : yesB (L6h v0 (.i .i64 1)) = true := by kernel_rfl
theorem prun4 (v0 : V) : yesB (L6h v0 (.i .i64 4)) = true := by kernel_rfl
theorem prun18 (v0 : V) : yesB (L6h v0 (.i .i64 18)) = true := by kernel_rfl
theorem prun23 (v0 : V) : yesB (L6h v0 (.i .i64 23)) = true := by kernel_rfl
theorem prun38 (v0 : V) : yesB (L6h v0 (.i .i64 38)) = true := by kernel_rfl
theorem prun47 (v0 : V) : yesB (L6h v0 (.i .i64 47)) = true := by kernel_rfl
theorem prun48 (v0 : V) : yesB (L6h v0 (.i .i64 48)) = true := by kernel_rfl
end
end Go.AM
