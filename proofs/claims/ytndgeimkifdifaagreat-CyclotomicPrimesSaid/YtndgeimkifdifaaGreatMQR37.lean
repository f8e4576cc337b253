/- Runs of the law. -/
import Derived.Test.YtndgeimkifdifaaGreatMQC
set_option maxRecDepth 1000000
set_option linter.unusedVariables false
namespace Go.AM
open Go.Proofs
noncomputable section
theorem qrun1x7 (v0 : V) : yesB (L11h v0 (.i .u8 7) (.i .i64 1)) = true := by kernel_rfl
theorem qrun1x67 (v0 : V) : yesB (L11h v0 (.i .u8 67) (.i .i64 1)) = true := by kernel_rfl
theorem qrun4x53 (v0 : V) : yesB (L11h v0 (.i .u8 53) (.i .i64 4)) = true := by kernel_rfl
theorem qrun5x17 (v0 : V) : yesB (L11h v0 (.i .u8 17) (.i .i64 5)) = true := by kernel_rfl
theorem qrun5x79 (v0 : V) : yesB (L11h v0 (.i .u8 79) (.i .i64 5)) = true := by kernel_rfl
theorem qrun8x53 (v0 : V) : yesB (L11h v0 (.i .u8 53) (.i .i64 8)) = true := by kernel_rfl
theorem qrun9x43 (v0 : V) : yesB (L11h v0 (.i .u8 43) (.i .i64 9)) = true := by kernel_rfl
theorem qrun11x3 (v0 : V) : yesB (L11h v0 (.i .u8 3) (.i .i64 11)) = true := by kernel_rfl
theorem qrun14x13 (v0 : V) : yesB (L11h v0 (.i .u8 13) (.i .i64 14)) = true := by kernel_rfl
theorem qrun15x79 (v0 : V) : yesB (L11h v0 (.i .u8 79) (.i .i64 15)) = true := by kernel_rfl
theorem qrun15x83 (v0 : V) : yesB (L11h v0 (.i .u8 83) (.i .i64 15)) = true := by kernel_rfl
theorem qrun17x23 (v0 : V) : yesB (L11h v0 (.i .u8 23) (.i .i64 17)) = true := by kernel_rfl
theorem qrun23x73 (v0 : V) : yesB (L11h v0 (.i .u8 73) (.i .i64 23)) = true := by kernel_rfl
theorem qrun24x29 (v0 : V) : yesB (L11h v0 (.i .u8 29) (.i .i64 24)) = true := by kernel_rfl
theorem qrun25x31 (v0 : V) : yesB (L11h v0 (.i .u8 31) (.i .i64 25)) = true := by kernel_rfl
theorem qrun25x43 (v0 : V) : yesB (L11h v0 (.i .u8 43) (.i .i64 25)) = true := by kernel_rfl
theorem qrun26x29 (v0 : V) : yesB (L11h v0 (.i .u8 29) (.i .i64 26)) = true := by kernel_rfl
theorem qrun29x41 (v0 : V) : yesB (L11h v0 (.i .u8 41) (.i .i64 29)) = true := by kernel_rfl
end
end Go.AM
