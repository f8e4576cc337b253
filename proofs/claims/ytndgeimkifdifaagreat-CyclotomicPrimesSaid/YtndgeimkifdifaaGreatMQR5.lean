/- Runs of the law. -/
import Derived.Test.YtndgeimkifdifaaGreatMQC
set_option maxRecDepth 1000000
set_option linter.unusedVariables false
namespace Go.AM
open Go.Proofs
noncomputable section
theorem qrun4x7 (v0 : V) : yesB (L11h v0 (.i .u8 7) (.i .i64 4)) = true := by kernel_rfl
theorem qrun5x37 (v0 : V) : yesB (L11h v0 (.i .u8 37) (.i .i64 5)) = true := by kernel_rfl
theorem qrun5x59 (v0 : V) : yesB (L11h v0 (.i .u8 59) (.i .i64 5)) = true := by kernel_rfl
theorem qrun6x23 (v0 : V) : yesB (L11h v0 (.i .u8 23) (.i .i64 6)) = true := by kernel_rfl
theorem qrun6x83 (v0 : V) : yesB (L11h v0 (.i .u8 83) (.i .i64 6)) = true := by kernel_rfl
theorem qrun7x67 (v0 : V) : yesB (L11h v0 (.i .u8 67) (.i .i64 7)) = true := by kernel_rfl
theorem qrun9x41 (v0 : V) : yesB (L11h v0 (.i .u8 41) (.i .i64 9)) = true := by kernel_rfl
theorem qrun11x59 (v0 : V) : yesB (L11h v0 (.i .u8 59) (.i .i64 11)) = true := by kernel_rfl
theorem qrun15x2 (v0 : V) : yesB (L11h v0 (.i .u8 2) (.i .i64 15)) = true := by kernel_rfl
theorem qrun18x41 (v0 : V) : yesB (L11h v0 (.i .u8 41) (.i .i64 18)) = true := by kernel_rfl
theorem qrun20x59 (v0 : V) : yesB (L11h v0 (.i .u8 59) (.i .i64 20)) = true := by kernel_rfl
theorem qrun25x3 (v0 : V) : yesB (L11h v0 (.i .u8 3) (.i .i64 25)) = true := by kernel_rfl
theorem qrun25x19 (v0 : V) : yesB (L11h v0 (.i .u8 19) (.i .i64 25)) = true := by kernel_rfl
theorem qrun26x47 (v0 : V) : yesB (L11h v0 (.i .u8 47) (.i .i64 26)) = true := by kernel_rfl
theorem qrun26x61 (v0 : V) : yesB (L11h v0 (.i .u8 61) (.i .i64 26)) = true := by kernel_rfl
theorem qrun28x97 (v0 : V) : yesB (L11h v0 (.i .u8 97) (.i .i64 28)) = true := by kernel_rfl
theorem qrun29x97 (v0 : V) : yesB (L11h v0 (.i .u8 97) (.i .i64 29)) = true := by kernel_rfl
end
end Go.AM
