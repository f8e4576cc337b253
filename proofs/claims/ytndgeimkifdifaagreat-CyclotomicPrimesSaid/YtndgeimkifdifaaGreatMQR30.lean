/- Runs of the law. -/
import Derived.Test.YtndgeimkifdifaaGreatMQC
set_option maxRecDepth 1000000
set_option linter.unusedVariables false
namespace Go.AM
open Go.Proofs
noncomputable section
theorem qrun1x29 (v0 : V) : yesB (L11h v0 (.i .u8 29) (.i .i64 1)) = true := by kernel_rfl
theorem qrun2x41 (v0 : V) : yesB (L11h v0 (.i .u8 41) (.i .i64 2)) = true := by kernel_rfl
theorem qrun3x41 (v0 : V) : yesB (L11h v0 (.i .u8 41) (.i .i64 3)) = true := by kernel_rfl
theorem qrun5x3 (v0 : V) : yesB (L11h v0 (.i .u8 3) (.i .i64 5)) = true := by kernel_rfl
theorem qrun8x5 (v0 : V) : yesB (L11h v0 (.i .u8 5) (.i .i64 8)) = true := by kernel_rfl
theorem qrun13x61 (v0 : V) : yesB (L11h v0 (.i .u8 61) (.i .i64 13)) = true := by kernel_rfl
theorem qrun13x83 (v0 : V) : yesB (L11h v0 (.i .u8 83) (.i .i64 13)) = true := by kernel_rfl
theorem qrun14x89 (v0 : V) : yesB (L11h v0 (.i .u8 89) (.i .i64 14)) = true := by kernel_rfl
theorem qrun15x13 (v0 : V) : yesB (L11h v0 (.i .u8 13) (.i .i64 15)) = true := by kernel_rfl
theorem qrun17x59 (v0 : V) : yesB (L11h v0 (.i .u8 59) (.i .i64 17)) = true := by kernel_rfl
theorem qrun18x11 (v0 : V) : yesB (L11h v0 (.i .u8 11) (.i .i64 18)) = true := by kernel_rfl
theorem qrun18x73 (v0 : V) : yesB (L11h v0 (.i .u8 73) (.i .i64 18)) = true := by kernel_rfl
theorem qrun19x59 (v0 : V) : yesB (L11h v0 (.i .u8 59) (.i .i64 19)) = true := by kernel_rfl
theorem qrun20x19 (v0 : V) : yesB (L11h v0 (.i .u8 19) (.i .i64 20)) = true := by kernel_rfl
theorem qrun23x97 (v0 : V) : yesB (L11h v0 (.i .u8 97) (.i .i64 23)) = true := by kernel_rfl
theorem qrun24x11 (v0 : V) : yesB (L11h v0 (.i .u8 11) (.i .i64 24)) = true := by kernel_rfl
theorem qrun26x43 (v0 : V) : yesB (L11h v0 (.i .u8 43) (.i .i64 26)) = true := by kernel_rfl
theorem qrun28x89 (v0 : V) : yesB (L11h v0 (.i .u8 89) (.i .i64 28)) = true := by kernel_rfl
end
end Go.AM
