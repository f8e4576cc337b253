/- Runs of the law. -/
import Derived.Test.YtohmfjmgeecfkaaMFB
set_option maxRecDepth 1000000
set_option linter.unusedVariables false
namespace Go.AM
open Go.Proofs
noncomputable section
theorem frun3x2 (v0 v1 : V) : yesB (L3h v0 v1 (.i .i64 3) (.i .i64 2)) = true := by kernel_rfl
theorem frun19x1 (v0 v1 : V) : yesB (L3h v0 v1 (.i .i64 19) (.i .i64 1)) = true := by kernel_rfl
theorem frun23x1 (v0 v1 : V) : yesB (L3h v0 v1 (.i .i64 23) (.i .i64 1)) = true := by kernel_rfl
theorem frun37x1 (v0 v1 : V) : yesB (L3h v0 v1 (.i .i64 37) (.i .i64 1)) = true := by kernel_rfl
end
end Go.AM
