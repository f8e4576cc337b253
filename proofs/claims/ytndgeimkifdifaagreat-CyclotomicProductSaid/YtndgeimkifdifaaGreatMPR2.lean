/- Runs of the law. -/
import Derived.Test.YtndgeimkifdifaaGreatMPC
set_option maxRecDepth 1000000
set_option linter.unusedVariables false
namespace Go.AM
open Go.Proofs
noncomputable section
theorem prun11 (v0 : V) : yesB (L6h v0 (.i .i64 11)) = true := by kernel_rfl
theorem prun16 (v0 : V) : yesB (L6h v0 (.i .i64 16)) = true := by kernel_rfl
theorem prun31 (v0 : V) : yesB (L6h v0 (.i .i64 31)) = true := by kernel_rfl
theorem prun35 (v0 : V) : yesB (L6h v0 (.i .i64 35)) = true := by kernel_rfl
theorem prun56 (v0 : V) : yesB (L6h v0 (.i .i64 56)) = true := by kernel_rfl
theorem prun59 (v0 : V) : yesB (L6h v0 (.i .i64 59)) = true := by kernel_rfl
end
end Go.AM
