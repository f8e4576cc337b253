/- Runs of the law. -/
import Derived.Test.YtpendgpnikmohaaGreatMGB
set_option maxRecDepth 1000000
set_option linter.unusedVariables false
namespace Go.AM
open Go.Proofs
noncomputable section
theorem grun1x8 (v0 v1 : V) : yesB (L10h v0 v1 (.i .i64 5) (.i .i64 29)) = true := by kernel_rfl
theorem grun2x0 (v0 v1 : V) : yesB (L10h v0 v1 (.i .i64 7) (.i .i64 3)) = true := by kernel_rfl
theorem grun3x2 (v0 v1 : V) : yesB (L10h v0 v1 (.i .i64 11) (.i .i64 7)) = true := by kernel_rfl
theorem grun3x6 (v0 v1 : V) : yesB (L10h v0 v1 (.i .i64 11) (.i .i64 19)) = true := by kernel_rfl
theorem grun4x1 (v0 v1 : V) : yesB (L10h v0 v1 (.i .i64 13) (.i .i64 5)) = true := by kernel_rfl
theorem grun9x2 (v0 v1 : V) : yesB (L10h v0 v1 (.i .i64 31) (.i .i64 7)) = true := by kernel_rfl
end
end Go.AM
