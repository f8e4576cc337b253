/- Runs of the law. -/
import Derived.Test.YtndgeimkifdifaaGreatMPC
set_option maxRecDepth 1000000
set_option linter.unusedVariables false
namespace Go.AM
open Go.Proofs
noncomputable section
theorem prun6 (v0 : V) : yesB (L6h v0 (.i .i64 6)) = true := by kernel_rfl
theorem prun15 (v0 : V) : yesB (L6h v0 (.i .i64 15)) = true := by kernel_rfl
theorem prun28 (v0 : V) : yesB (L6h v0 (.i .i64 28)) = true := by kernel_rfl
theorem prun37 (v0 : V) : yesB (L6h v0 (.i .i64 37)) = true := by kernel_rfl
theorem prun55 (v0 : V) : yesB (L6h v0 (.i .i64 55)) = true := by kernel_rfl
theorem prun58 (v0 : V) : yesB (L6h v0 (.i .i64 58)) = true := by kernel_rfl
end
end Go.AM
