/- Runs of the law. -/
import Derived.Test.YtndgeimkifdifaaGreatMQC
set_option maxRecDepth 1000000
set_option linter.unusedVariables false
namespace Go.AM
open Go.Proofs
noncomputable section
theorem qrun1x73 (v0 : V) : yesB (L11h v0 (.i .u8 73) (.i .i64 1)) = true := by kernel_rfl
theorem qrun2x97 (v0 : V) : yesB (L11h v0 (.i .u8 97) (.i .i64 2)) = true := by kernel_rfl
theorem qrun4x61 (v0 : V) : yesB (L11h v0 (.i .u8 61) (.i .i64 4)) = true := by kernel_rfl
theorem qrun8x23 (v0 : V) : yesB (L11h v0 (.i .u8 23) (.i .i64 8)) = true := by kernel_rfl
theorem qrun9x19 (v0 : V) : yesB (L11h v0 (.i .u8 19) (.i .i64 9)) = true := by kernel_rfl
theorem qrun10x29 (v0 : V) : yesB (L11h v0 (.i .u8 29) (.i .i64 10)) = true := by kernel_rfl
theorem qrun11x29 (v0 : V) : yesB (L11h v0 (.i .u8 29) (.i .i64 11)) = true := by kernel_rfl
theorem qrun13x2 (v0 : V) : yesB (L11h v0 (.i .u8 2) (.i .i64 13)) = true := by kernel_rfl
theorem qrun14x53 (v0 : V) : yesB (L11h v0 (.i .u8 53) (.i .i64 14)) = true := by kernel_rfl
theorem qrun14x83 (v0 : V) : yesB (L11h v0 (.i .u8 83) (.i .i64 14)) = true := by kernel_rfl
theorem qrun15x23 (v0 : V) : yesB (L11h v0 (.i .u8 23) (.i .i64 15)) = true := by kernel_rfl
theorem qrun17x29 (v0 : V) : yesB (L11h v0 (.i .u8 29) (.i .i64 17)) = true := by kernel_rfl
theorem qrun18x89 (v0 : V) : yesB (L11h v0 (.i .u8 89) (.i .i64 18)) = true := by kernel_rfl
theorem qrun21x5 (v0 : V) : yesB (L11h v0 (.i .u8 5) (.i .i64 21)) = true := by kernel_rfl
theorem qrun23x61 (v0 : V) : yesB (L11h v0 (.i .u8 61) (.i .i64 23)) = true := by kernel_rfl
theorem qrun24x67 (v0 : V) : yesB (L11h v0 (.i .u8 67) (.i .i64 24)) = true := by kernel_rfl
theorem qrun25x59 (v0 : V) : yesB (L11h v0 (.i .u8 59) (.i .i64 25)) = true := by kernel_rfl
theorem qrun26x97 (v0 : V) : yesB (L11h v0 (.i .u8 97) (.i .i64 26)) = true := by kernel_rfl
end
end Go.AM
