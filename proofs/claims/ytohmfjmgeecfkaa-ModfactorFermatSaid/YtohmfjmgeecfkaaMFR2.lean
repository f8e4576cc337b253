/- Runs of the law. -/
import Derived.Test.YtohmfjmgeecfkaaMFB
set_option maxRecDepth 1000000
set_option linter.unusedVariables false
namespace Go.AM
open Go.Proofs
noncomputable section
theorem frun2x3 (v0 v1 : V) : yesB (L3h v0 v1 (.i .i64 2) (.i .i64 3)) = true := by kernel_rfl
theorem frun2x5 (v0 v1 : V) : yesB (L3h v0 v1 (.i .i64 2) (.i .i64 5)) = true := by kernel_rfl
theorem frun53x1 (v0 v1 : V) : yesB (L3h v0 v1 (.i .i64 53) (.i .i64 1)) = true := by kernel_rfl
end
end Go.AM
