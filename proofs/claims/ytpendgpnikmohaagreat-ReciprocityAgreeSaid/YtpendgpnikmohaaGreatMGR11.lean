/- Runs of the law. -/
import Derived.Test.YtpendgpnikmohaaGreatMGB
set_option maxRecDepth 1000000
set_option linter.unusedVariables false
namespace Go.AM
open Go.Proofs
noncomputable section
theorem grun4x9 (v0 v1 : V) : yesB (L10h v0 v1 (.i .i64 13) (.i .i64 31)) = true := by kernel_rfl
theorem grun6x7 (v0 v1 : V) : yesB (L10h v0 v1 (.i .i64 19) (.i .i64 23)) = true := by kernel_rfl
theorem grun7x0 (v0 v1 : V) : yesB (L10h v0 v1 (.i .i64 23) (.i .i64 3)) = true := by kernel_rfl
theorem grun8x3 (v0 v1 : V) : yesB (L10h v0 v1 (.i .i64 29) (.i .i64 11)) = true := by kernel_rfl
theorem grun9x6 (v0 v1 : V) : yesB (L10h v0 v1 (.i .i64 31) (.i .i64 19)) = true := by kernel_rfl
end
end Go.AM
