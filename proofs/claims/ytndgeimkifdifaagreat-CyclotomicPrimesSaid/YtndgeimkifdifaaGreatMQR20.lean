/- Runs of the law. -/
import Derived.Test.YtndgeimkifdifaaGreatMQC
set_option maxRecDepth 1000000
set_option linter.unusedVariables false
namespace Go.AM
open Go.Proofs
noncomputable section
theorem qrun1x59 (v0 : V) : yesB (L11h v0 (.i .u8 59) (.i .i64 1)) = true := by kernel_rfl
theorem qrun2x73 (v0 : V) : yesB (L11h v0 (.i .u8 73) (.i .i64 2)) = true := by kernel_rfl
theorem qrun3x29 (v0 : V) : yesB (L11h v0 (.i .u8 29) (.i .i64 3)) = true := by kernel_rfl
theorem qrun5x11 (v0 : V) : yesB (L11h v0 (.i .u8 11) (.i .i64 5)) = true := by kernel_rfl
theorem qrun8x83 (v0 : V) : yesB (L11h v0 (.i .u8 83) (.i .i64 8)) = true := by kernel_rfl
theorem qrun13x19 (v0 : V) : yesB (L11h v0 (.i .u8 19) (.i .i64 13)) = true := by kernel_rfl
theorem qrun17x41 (v0 : V) : yesB (L11h v0 (.i .u8 41) (.i .i64 17)) = true := by kernel_rfl
theorem qrun18x17 (v0 : V) : yesB (L11h v0 (.i .u8 17) (.i .i64 18)) = true := by kernel_rfl
theorem qrun18x71 (v0 : V) : yesB (L11h v0 (.i .u8 71) (.i .i64 18)) = true := by kernel_rfl
theorem qrun19x79 (v0 : V) : yesB (L11h v0 (.i .u8 79) (.i .i64 19)) = true := by kernel_rfl
theorem qrun20x11 (v0 : V) : yesB (L11h v0 (.i .u8 11) (.i .i64 20)) = true := by kernel_rfl
theorem qrun21x13 (v0 : V) : yesB (L11h v0 (.i .u8 13) (.i .i64 21)) = true := by kernel_rfl
theorem qrun22x47 (v0 : V) : yesB (L11h v0 (.i .u8 47) (.i .i64 22)) = true := by kernel_rfl
theorem qrun23x89 (v0 : V) : yesB (L11h v0 (.i .u8 89) (.i .i64 23)) = true := by kernel_rfl
theorem qrun24x89 (v0 : V) : yesB (L11h v0 (.i .u8 89) (.i .i64 24)) = true := by kernel_rfl
theorem qrun26x37 (v0 : V) : yesB (L11h v0 (.i .u8 37) (.i .i64 26)) = true := by kernel_rfl
theorem qrun28x41 (v0 : V) : yesB (L11h v0 (.i .u8 41) (.i .i64 28)) = true := by kernel_rfl
theorem qrun30x41 (v0 : V) : yesB (L11h v0 (.i .u8 41) (.i .i64 30)) = true := by kernel_rfl
end
end Go.AM
