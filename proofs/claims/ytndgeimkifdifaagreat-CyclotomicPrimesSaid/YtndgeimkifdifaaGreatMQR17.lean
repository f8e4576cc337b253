/- Runs of the law. -/
import Derived.Test.YtndgeimkifdifaaGreatMQC
set_option maxRecDepth 1000000
set_option linter.unusedVariables false
namespace Go.AM
open Go.Proofs
noncomputable section
theorem qrun1x79 (v0 : V) : yesB (L11h v0 (.i .u8 79) (.i .i64 1)) = true := by kernel_rfl
theorem qrun2x71 (v0 : V) : yesB (L11h v0 (.i .u8 71) (.i .i64 2)) = true := by kernel_rfl
theorem qrun3x31 (v0 : V) : yesB (L11h v0 (.i .u8 31) (.i .i64 3)) = true := by kernel_rfl
theorem qrun8x31 (v0 : V) : yesB (L11h v0 (.i .u8 31) (.i .i64 8)) = true := by kernel_rfl
theorem qrun8x79 (v0 : V) : yesB (L11h v0 (.i .u8 79) (.i .i64 8)) = true := by kernel_rfl
theorem qrun10x97 (v0 : V) : yesB (L11h v0 (.i .u8 97) (.i .i64 10)) = true := by kernel_rfl
theorem qrun13x97 (v0 : V) : yesB (L11h v0 (.i .u8 97) (.i .i64 13)) = true := by kernel_rfl
theorem qrun14x79 (v0 : V) : yesB (L11h v0 (.i .u8 79) (.i .i64 14)) = true := by kernel_rfl
theorem qrun18x53 (v0 : V) : yesB (L11h v0 (.i .u8 53) (.i .i64 18)) = true := by kernel_rfl
theorem qrun19x67 (v0 : V) : yesB (L11h v0 (.i .u8 67) (.i .i64 19)) = true := by kernel_rfl
theorem qrun20x29 (v0 : V) : yesB (L11h v0 (.i .u8 29) (.i .i64 20)) = true := by kernel_rfl
theorem qrun20x61 (v0 : V) : yesB (L11h v0 (.i .u8 61) (.i .i64 20)) = true := by kernel_rfl
theorem qrun22x7 (v0 : V) : yesB (L11h v0 (.i .u8 7) (.i .i64 22)) = true := by kernel_rfl
theorem qrun22x67 (v0 : V) : yesB (L11h v0 (.i .u8 67) (.i .i64 22)) = true := by kernel_rfl
theorem qrun26x11 (v0 : V) : yesB (L11h v0 (.i .u8 11) (.i .i64 26)) = true := by kernel_rfl
theorem qrun27x37 (v0 : V) : yesB (L11h v0 (.i .u8 37) (.i .i64 27)) = true := by kernel_rfl
theorem qrun27x61 (v0 : V) : yesB (L11h v0 (.i .u8 61) (.i .i64 27)) = true := by kernel_rfl
theorem qrun29x83 (v0 : V) : yesB (L11h v0 (.i .u8 83) (.i .i64 29)) = true := by kernel_rfl
end
end Go.AM
