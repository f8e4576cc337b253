/- Runs of the law. -/
import Derived.Test.YtohmfjmgeecfkaaMFB
set_option maxRecDepth 1000000
set_option linter.unusedVariables false
namespace Go.AM
open Go.Proofs
noncomputable section
theorem frun7x1 (v0 v1 : V) : yesB (L3h v0 v1 (.i .i64 7) (.i .i64 1)) = true := by kernel_rfl
theorem frun59x1 (v0 v1 : V) : yesB (L3h v0 v1 (.i .i64 59) (.i .i64 1)) = true := by kernel_rfl
end
end Go.AM
