/- Runs of the law. -/
import Derived.Test.YtndgeimkifdifaaGreatMQC
set_option maxRecDepth 1000000
set_option linter.unusedVariables false
namespace Go.AM
open Go.Proofs
noncomputable section
theorem qrun1x53 (v0 : V) : yesB (L11h v0 (.i .u8 53) (.i .i64 1)) = true := by kernel_rfl
theorem qrun2x67 (v0 : V) : yesB (L11h v0 (.i .u8 67) (.i .i64 2)) = true := by kernel_rfl
theorem qrun3x97 (v0 : V) : yesB (L11h v0 (.i .u8 97) (.i .i64 3)) = true := by kernel_rfl
theorem qrun8x47 (v0 : V) : yesB (L11h v0 (.i .u8 47) (.i .i64 8)) = true := by kernel_rfl
theorem qrun8x59 (v0 : V) : yesB (L11h v0 (.i .u8 59) (.i .i64 8)) = true := by kernel_rfl
theorem qrun10x43 (v0 : V) : yesB (L11h v0 (.i .u8 43) (.i .i64 10)) = true := by kernel_rfl
theorem qrun11x17 (v0 : V) : yesB (L11h v0 (.i .u8 17) (.i .i64 11)) = true := by kernel_rfl
theorem qrun14x97 (v0 : V) : yesB (L11h v0 (.i .u8 97) (.i .i64 14)) = true := by kernel_rfl
theorem qrun15x19 (v0 : V) : yesB (L11h v0 (.i .u8 19) (.i .i64 15)) = true := by kernel_rfl
theorem qrun16x7 (v0 : V) : yesB (L11h v0 (.i .u8 7) (.i .i64 16)) = true := by kernel_rfl
theorem qrun17x83 (v0 : V) : yesB (L11h v0 (.i .u8 83) (.i .i64 17)) = true := by kernel_rfl
theorem qrun18x59 (v0 : V) : yesB (L11h v0 (.i .u8 59) (.i .i64 18)) = true := by kernel_rfl
theorem qrun19x61 (v0 : V) : yesB (L11h v0 (.i .u8 61) (.i .i64 19)) = true := by kernel_rfl
theorem qrun22x89 (v0 : V) : yesB (L11h v0 (.i .u8 89) (.i .i64 22)) = true := by kernel_rfl
theorem qrun26x71 (v0 : V) : yesB (L11h v0 (.i .u8 71) (.i .i64 26)) = true := by kernel_rfl
theorem qrun28x3 (v0 : V) : yesB (L11h v0 (.i .u8 3) (.i .i64 28)) = true := by kernel_rfl
theorem qrun28x59 (v0 : V) : yesB (L11h v0 (.i .u8 59) (.i .i64 28)) = true := by kernel_rfl
theorem qrun29x7 (v0 : V) : yesB (L11h v0 (.i .u8 7) (.i .i64 29)) = true := by kernel_rfl
end
end Go.AM
