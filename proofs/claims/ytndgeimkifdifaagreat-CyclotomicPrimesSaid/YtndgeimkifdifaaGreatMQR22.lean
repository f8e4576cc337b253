/- Runs of the law. -/
import Derived.Test.YtndgeimkifdifaaGreatMQC
set_option maxRecDepth 1000000
set_option linter.unusedVariables false
namespace Go.AM
open Go.Proofs
noncomputable section
theorem qrun1x71 (v0 : V) : yesB (L11h v0 (.i .u8 71) (.i .i64 1)) = true := by kernel_rfl
theorem qrun2x89 (v0 : V) : yesB (L11h v0 (.i .u8 89) (.i .i64 2)) = true := by kernel_rfl
theorem qrun4x89 (v0 : V) : yesB (L11h v0 (.i .u8 89) (.i .i64 4)) = true := by kernel_rfl
theorem qrun5x83 (v0 : V) : yesB (L11h v0 (.i .u8 83) (.i .i64 5)) = true := by kernel_rfl
theorem qrun8x11 (v0 : V) : yesB (L11h v0 (.i .u8 11) (.i .i64 8)) = true := by kernel_rfl
theorem qrun9x61 (v0 : V) : yesB (L11h v0 (.i .u8 61) (.i .i64 9)) = true := by kernel_rfl
theorem qrun10x41 (v0 : V) : yesB (L11h v0 (.i .u8 41) (.i .i64 10)) = true := by kernel_rfl
theorem qrun14x41 (v0 : V) : yesB (L11h v0 (.i .u8 41) (.i .i64 14)) = true := by kernel_rfl
theorem qrun19x23 (v0 : V) : yesB (L11h v0 (.i .u8 23) (.i .i64 19)) = true := by kernel_rfl
theorem qrun19x31 (v0 : V) : yesB (L11h v0 (.i .u8 31) (.i .i64 19)) = true := by kernel_rfl
theorem qrun22x29 (v0 : V) : yesB (L11h v0 (.i .u8 29) (.i .i64 22)) = true := by kernel_rfl
theorem qrun24x7 (v0 : V) : yesB (L11h v0 (.i .u8 7) (.i .i64 24)) = true := by kernel_rfl
theorem qrun26x23 (v0 : V) : yesB (L11h v0 (.i .u8 23) (.i .i64 26)) = true := by kernel_rfl
theorem qrun28x37 (v0 : V) : yesB (L11h v0 (.i .u8 37) (.i .i64 28)) = true := by kernel_rfl
theorem qrun28x61 (v0 : V) : yesB (L11h v0 (.i .u8 61) (.i .i64 28)) = true := by kernel_rfl
theorem qrun29x23 (v0 : V) : yesB (L11h v0 (.i .u8 23) (.i .i64 29)) = true := by kernel_rfl
theorem qrun30x13 (v0 : V) : yesB (L11h v0 (.i .u8 13) (.i .i64 30)) = true := by kernel_rfl
theorem qrun30x19 (v0 : V) : yesB (L11h v0 (.i .u8 19) (.i .i64 30)) = true := by kernel_rfl
end
end Go.AM
