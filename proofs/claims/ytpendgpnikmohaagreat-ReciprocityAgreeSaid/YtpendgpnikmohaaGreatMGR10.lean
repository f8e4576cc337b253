/- Runs of the law. -/
import Derived.Test.YtpendgpnikmohaaGreatMGB
set_option maxRecDepth 1000000
set_option linter.unusedVariables false
namespace Go.AM
open Go.Proofs
noncomputable section
theorem grun0x0 (v0 v1 : V) : yesB (L10h v0 v1 (.i .i64 3) (.i .i64 3)) = true := by kernel_rfl
theorem grun0x1 (v0 v1 : V) : yesB (L10h v0 v1 (.i .i64 3) (.i .i64 5)) = true := by kernel_rfl
theorem grun0x2 (v0 v1 : V) : yesB (L10h v0 v1 (.i .i64 3) (.i .i64 7)) = true := by kernel_rfl
theorem grun0x3 (v0 v1 : V) : yesB (L10h v0 v1 (.i .i64 3) (.i .i64 11)) = true := by kernel_rfl
theorem grun0x4 (v0 v1 : V) : yesB (L10h v0 v1 (.i .i64 3) (.i .i64 13)) = true := by kernel_rfl
theorem grun0x5 (v0 v1 : V) : yesB (L10h v0 v1 (.i .i64 3) (.i .i64 17)) = true := by kernel_rfl
theorem grun0x6 (v0 v1 : V) : yesB (L10h v0 v1 (.i .i64 3) (.i .i64 19)) = true := by kernel_rfl
theorem grun1x0 (v0 v1 : V) : yesB (L10h v0 v1 (.i .i64 5) (.i .i64 3)) = true := by kernel_rfl
theorem grun1x1 (v0 v1 : V) : yesB (L10h v0 v1 (.i .i64 5) (.i .i64 5)) = true := by kernel_rfl
theorem grun1x3 (v0 v1 : V) : yesB (L10h v0 v1 (.i .i64 5) (.i .i64 11)) = true := by kernel_rfl
theorem grun1x6 (v0 v1 : V) : yesB (L10h v0 v1 (.i .i64 5) (.i .i64 19)) = true := by kernel_rfl
theorem grun2x2 (v0 v1 : V) : yesB (L10h v0 v1 (.i .i64 7) (.i .i64 7)) = true := by kernel_rfl
theorem grun3x0 (v0 v1 : V) : yesB (L10h v0 v1 (.i .i64 11) (.i .i64 3)) = true := by kernel_rfl
theorem grun3x1 (v0 v1 : V) : yesB (L10h v0 v1 (.i .i64 11) (.i .i64 5)) = true := by kernel_rfl
theorem grun3x3 (v0 v1 : V) : yesB (L10h v0 v1 (.i .i64 11) (.i .i64 11)) = true := by kernel_rfl
theorem grun3x7 (v0 v1 : V) : yesB (L10h v0 v1 (.i .i64 11) (.i .i64 23)) = true := by kernel_rfl
theorem grun4x0 (v0 v1 : V) : yesB (L10h v0 v1 (.i .i64 13) (.i .i64 3)) = true := by kernel_rfl
theorem grun4x3 (v0 v1 : V) : yesB (L10h v0 v1 (.i .i64 13) (.i .i64 11)) = true := by kernel_rfl
theorem grun4x4 (v0 v1 : V) : yesB (L10h v0 v1 (.i .i64 13) (.i .i64 13)) = true := by kernel_rfl
theorem grun4x5 (v0 v1 : V) : yesB (L10h v0 v1 (.i .i64 13) (.i .i64 17)) = true := by kernel_rfl
theorem grun5x0 (v0 v1 : V) : yesB (L10h v0 v1 (.i .i64 17) (.i .i64 3)) = true := by kernel_rfl
theorem grun5x5 (v0 v1 : V) : yesB (L10h v0 v1 (.i .i64 17) (.i .i64 17)) = true := by kernel_rfl
theorem grun6x0 (v0 v1 : V) : yesB (L10h v0 v1 (.i .i64 19) (.i .i64 3)) = true := by kernel_rfl
theorem grun6x4 (v0 v1 : V) : yesB (L10h v0 v1 (.i .i64 19) (.i .i64 13)) = true := by kernel_rfl
theorem grun6x6 (v0 v1 : V) : yesB (L10h v0 v1 (.i .i64 19) (.i .i64 19)) = true := by kernel_rfl
theorem grun7x1 (v0 v1 : V) : yesB (L10h v0 v1 (.i .i64 23) (.i .i64 5)) = true := by kernel_rfl
theorem grun7x3 (v0 v1 : V) : yesB (L10h v0 v1 (.i .i64 23) (.i .i64 11)) = true := by kernel_rfl
theorem grun7x7 (v0 v1 : V) : yesB (L10h v0 v1 (.i .i64 23) (.i .i64 23)) = true := by kernel_rfl
theorem grun7x9 (v0 v1 : V) : yesB (L10h v0 v1 (.i .i64 23) (.i .i64 31)) = true := by kernel_rfl
theorem grun8x0 (v0 v1 : V) : yesB (L10h v0 v1 (.i .i64 29) (.i .i64 3)) = true := by kernel_rfl
theorem grun8x8 (v0 v1 : V) : yesB (L10h v0 v1 (.i .i64 29) (.i .i64 29)) = true := by kernel_rfl
theorem grun9x0 (v0 v1 : V) : yesB (L10h v0 v1 (.i .i64 31) (.i .i64 3)) = true := by kernel_rfl
theorem grun9x9 (v0 v1 : V) : yesB (L10h v0 v1 (.i .i64 31) (.i .i64 31)) = true := by kernel_rfl
end
end Go.AM
