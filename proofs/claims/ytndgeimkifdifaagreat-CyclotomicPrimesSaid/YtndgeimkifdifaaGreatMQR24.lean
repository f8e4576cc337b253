/- Runs of the law. -/
import Derived.Test.YtndgeimkifdifaaGreatMQC
set_option maxRecDepth 1000000
set_option linter.unusedVariables false
namespace Go.AM
open Go.Proofs
noncomputable section
theorem qrun1x37 (v0 : V) : yesB (L11h v0 (.i .u8 37) (.i .i64 1)) = true := by kernel_rfl
theorem qrun2x53 (v0 : V) : yesB (L11h v0 (.i .u8 53) (.i .i64 2)) = true := by kernel_rfl
theorem qrun3x67 (v0 : V) : yesB (L11h v0 (.i .u8 67) (.i .i64 3)) = true := by kernel_rfl
theorem qrun5x31 (v0 : V) : yesB (L11h v0 (.i .u8 31) (.i .i64 5)) = true := by kernel_rfl
theorem qrun7x19 (v0 : V) : yesB (L11h v0 (.i .u8 19) (.i .i64 7)) = true := by kernel_rfl
theorem qrun8x71 (v0 : V) : yesB (L11h v0 (.i .u8 71) (.i .i64 8)) = true := by kernel_rfl
theorem qrun9x2 (v0 : V) : yesB (L11h v0 (.i .u8 2) (.i .i64 9)) = true := by kernel_rfl
theorem qrun9x7 (v0 : V) : yesB (L11h v0 (.i .u8 7) (.i .i64 9)) = true := by kernel_rfl
theorem qrun15x67 (v0 : V) : yesB (L11h v0 (.i .u8 67) (.i .i64 15)) = true := by kernel_rfl
theorem qrun17x71 (v0 : V) : yesB (L11h v0 (.i .u8 71) (.i .i64 17)) = true := by kernel_rfl
theorem qrun19x73 (v0 : V) : yesB (L11h v0 (.i .u8 73) (.i .i64 19)) = true := by kernel_rfl
theorem qrun20x3 (v0 : V) : yesB (L11h v0 (.i .u8 3) (.i .i64 20)) = true := by kernel_rfl
theorem qrun20x41 (v0 : V) : yesB (L11h v0 (.i .u8 41) (.i .i64 20)) = true := by kernel_rfl
theorem qrun22x43 (v0 : V) : yesB (L11h v0 (.i .u8 43) (.i .i64 22)) = true := by kernel_rfl
theorem qrun22x53 (v0 : V) : yesB (L11h v0 (.i .u8 53) (.i .i64 22)) = true := by kernel_rfl
theorem qrun23x43 (v0 : V) : yesB (L11h v0 (.i .u8 43) (.i .i64 23)) = true := by kernel_rfl
theorem qrun26x67 (v0 : V) : yesB (L11h v0 (.i .u8 67) (.i .i64 26)) = true := by kernel_rfl
theorem qrun28x79 (v0 : V) : yesB (L11h v0 (.i .u8 79) (.i .i64 28)) = true := by kernel_rfl
end
end Go.AM
