/- Runs of the law. -/
import Derived.Test.YtohmfjmgeecfkaaMFB
set_option maxRecDepth 1000000
set_option linter.unusedVariables false
namespace Go.AM
open Go.Proofs
noncomputable section
theorem frun5x1 (v0 v1 : V) : yesB (L3h v0 v1 (.i .i64 5) (.i .i64 1)) = true := by kernel_rfl
theorem frun17x1 (v0 v1 : V) : yesB (L3h v0 v1 (.i .i64 17) (.i .i64 1)) = true := by kernel_rfl
theorem frun31x1 (v0 v1 : V) : yesB (L3h v0 v1 (.i .i64 31) (.i .i64 1)) = true := by kernel_rfl
theorem frun41x1 (v0 v1 : V) : yesB (L3h v0 v1 (.i .i64 41) (.i .i64 1)) = true := by kernel_rfl
end
end Go.AM
