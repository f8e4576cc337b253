/- Runs of the law. -/
import Derived.Test.YtpendgpnikmohaaGreatMGB
set_option maxRecDepth 1000000
set_option linter.unusedVariables false
namespace Go.AM
open Go.Proofs
noncomputable section
theorem grun2x8 (v0 v1 : V) : yesB (L10h v0 v1 (.i .i64 7) (.i .i64 29)) = true := by kernel_rfl
theorem grun6x8 (v0 v1 : V) : yesB (L10h v0 v1 (.i .i64 19) (.i .i64 29)) = true := by kernel_rfl
theorem grun7x8 (v0 v1 : V) : yesB (L10h v0 v1 (.i .i64 23) (.i .i64 29)) = true := by kernel_rfl
end
end Go.AM
