/- Runs of the law. -/
import Derived.Test.YtpendgpnikmohaaGreatMGB
set_option maxRecDepth 1000000
set_option linter.unusedVariables false
namespace Go.AM
open Go.Proofs
noncomputable section
theorem grun2x3 (v0 v1 : V) : yesB (L10h v0 v1 (.i .i64 7) (.i .i64 11)) = true := by kernel_rfl
theorem grun3x4 (v0 v1 : V) : yesB (L10h v0 v1 (.i .i64 11) (.i .i64 13)) = true := by kernel_rfl
theorem grun3x5 (v0 v1 : V) : yesB (L10h v0 v1 (.i .i64 11) (.i .i64 17)) = true := by kernel_rfl
theorem grun5x3 (v0 v1 : V) : yesB (L10h v0 v1 (.i .i64 17) (.i .i64 11)) = true := by kernel_rfl
theorem grun7x6 (v0 v1 : V) : yesB (L10h v0 v1 (.i .i64 23) (.i .i64 19)) = true := by kernel_rfl
end
end Go.AM
