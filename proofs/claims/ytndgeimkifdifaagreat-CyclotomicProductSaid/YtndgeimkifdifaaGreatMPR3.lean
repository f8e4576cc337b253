/- Runs of the law. -/
import Derived.Test.YtndgeimkifdifaaGreatMPC
set_option maxRecDepth 1000000
set_option linter.unusedVariables false
namespace Go.AM
open Go.Proofs
noncomputable section
theorem prun7 (v0 : V) : yesB (L6h v0 (.i .i64 7)) = true := by kernel_rfl
theorem prun25 (v0 : V) : yesB (L6h v0 (.i .i64 25)) = true := by kernel_rfl
theorem prun27 (v0 : V) : yesB (L6h v0 (.i .i64 27)) = true := by kernel_rfl
theorem prun30 (v0 : V) : yesB (L6h v0 (.i .i64 30)) = true := by kernel_rfl
theorem prun32 (v0 : V) : yesB (L6h v0 (.i .i64 32)) = true := by kernel_rfl
theorem prun54 (v0 : V) : yesB (L6h v0 (.i .i64 54)) = true := by kernel_rfl
end
end Go.AM
