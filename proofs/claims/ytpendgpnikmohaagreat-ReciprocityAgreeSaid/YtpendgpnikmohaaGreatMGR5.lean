/- Runs of the law. -/
import Derived.Test.YtpendgpnikmohaaGreatMGB
set_option maxRecDepth 1000000
set_option linter.unusedVariables false
namespace Go.AM
open Go.Proofs
noncomputable section
theorem grun2x1 (v0 v1 : V) : yesB (L10h v0 v1 (.i .i64 7) (.i .i64 5)) = true := by kernel_rfl
theorem grun4x8 (v0 v1 : V) : yesB (L10h v0 v1 (.i .i64 13) (.i .i64 29)) = true := by kernel_rfl
theorem grun5x6 (v0 v1 : V) : yesB (L10h v0 v1 (.i .i64 17) (.i .i64 19)) = true := by kernel_rfl
theorem grun5x9 (v0 v1 : V) : yesB (L10h v0 v1 (.i .i64 17) (.i .i64 31)) = true := by kernel_rfl
theorem grun8x6 (v0 v1 : V) : yesB (L10h v0 v1 (.i .i64 29) (.i .i64 19)) = true := by kernel_rfl
end
end Go.AM
