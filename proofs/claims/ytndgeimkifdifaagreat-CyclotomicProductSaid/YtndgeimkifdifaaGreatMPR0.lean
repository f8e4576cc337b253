/- Runs of the law. -/
import Derived.Test.YtndgeimkifdifaaGreatMPC
set_option maxRecDepth 1000000
set_option linter.unusedVariables false
namespace Go.AM
open Go.Proofs
noncomputable section
theorem prun3 (v0 : V) : yesB (L6h v0 (.i .i64 3)) = true := by kernel_rfl
theorem prun10 (v0 : V) : yesB (L6h v0 (.i .i64 10)) = true := by kernel_rfl
theorem prun12 (v0 : V) : yesB (L6h v0 (.i .i64 12)) = true := by kernel_rfl
theorem prun33 (v0 : V) : yesB (L6h v0 (.i .i64 33)) = true := by kernel_rfl
theorem prun60 (v0 : V) : yesB (L6h v0 (.i .i64 60)) = true := by kernel_rfl
end
end Go.AM
