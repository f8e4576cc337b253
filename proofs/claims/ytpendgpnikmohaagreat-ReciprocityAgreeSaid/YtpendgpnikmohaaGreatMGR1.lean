/- Runs of the law. -/
import Derived.Test.YtpendgpnikmohaaGreatMGB
set_option maxRecDepth 1000000
set_option linter.unusedVariables false
namespace Go.AM
open Go.Proofs
noncomputable section
theorem grun0x7 (v0 v1 : V) : yesB (L10h v0 v1 (.i .i64 3) (.i .i64 23)) = true := by kernel_rfl
theorem grun2x6 (v0 v1 : V) : yesB (L10h v0 v1 (.i .i64 7) (.i .i64 19)) = true := by kernel_rfl
theorem grun5x4 (v0 v1 : V) : yesB (L10h v0 v1 (.i .i64 17) (.i .i64 13)) = true := by kernel_rfl
theorem grun6x3 (v0 v1 : V) : yesB (L10h v0 v1 (.i .i64 19) (.i .i64 11)) = true := by kernel_rfl
theorem grun9x7 (v0 v1 : V) : yesB (L10h v0 v1 (.i .i64 31) (.i .i64 23)) = true := by kernel_rfl
end
end Go.AM
