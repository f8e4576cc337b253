/- Runs of the law. -/
import Derived.Test.YtohmfjmgeecfkaaMFB
set_option maxRecDepth 1000000
set_option linter.unusedVariables false
namespace Go.AM
open Go.Proofs
noncomputable section
theorem frun2x1 (v0 v1 : V) : yesB (L3h v0 v1 (.i .i64 2) (.i .i64 1)) = true := by kernel_rfl
theorem frun5x2 (v0 v1 : V) : yesB (L3h v0 v1 (.i .i64 5) (.i .i64 2)) = true := by kernel_rfl
theorem frun29x1 (v0 v1 : V) : yesB (L3h v0 v1 (.i .i64 29) (.i .i64 1)) = true := by kernel_rfl
theorem frun43x1 (v0 v1 : V) : yesB (L3h v0 v1 (.i .i64 43) (.i .i64 1)) = true := by kernel_rfl
end
end Go.AM
