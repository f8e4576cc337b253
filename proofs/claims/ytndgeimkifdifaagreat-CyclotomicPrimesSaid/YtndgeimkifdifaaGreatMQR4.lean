/- Runs of the law. -/
import Derived.Test.YtndgeimkifdifaaGreatMQC
set_option maxRecDepth 1000000
set_option linter.unusedVariables false
namespace Go.AM
open Go.Proofs
noncomputable section
theorem qrun2x3 (v0 : V) : yesB (L11h v0 (.i .u8 3) (.i .i64 2)) = true := by kernel_rfl
theorem qrun3x47 (v0 : V) : yesB (L11h v0 (.i .u8 47) (.i .i64 3)) = true := by kernel_rfl
theorem qrun4x37 (v0 : V) : yesB (L11h v0 (.i .u8 37) (.i .i64 4)) = true := by kernel_rfl
theorem qrun5x23 (v0 : V) : yesB (L11h v0 (.i .u8 23) (.i .i64 5)) = true := by kernel_rfl
theorem qrun7x41 (v0 : V) : yesB (L11h v0 (.i .u8 41) (.i .i64 7)) = true := by kernel_rfl
theorem qrun8x73 (v0 : V) : yesB (L11h v0 (.i .u8 73) (.i .i64 8)) = true := by kernel_rfl
theorem qrun11x83 (v0 : V) : yesB (L11h v0 (.i .u8 83) (.i .i64 11)) = true := by kernel_rfl
theorem qrun12x71 (v0 : V) : yesB (L11h v0 (.i .u8 71) (.i .i64 12)) = true := by kernel_rfl
theorem qrun16x67 (v0 : V) : yesB (L11h v0 (.i .u8 67) (.i .i64 16)) = true := by kernel_rfl
theorem qrun18x13 (v0 : V) : yesB (L11h v0 (.i .u8 13) (.i .i64 18)) = true := by kernel_rfl
theorem qrun19x5 (v0 : V) : yesB (L11h v0 (.i .u8 5) (.i .i64 19)) = true := by kernel_rfl
theorem qrun20x83 (v0 : V) : yesB (L11h v0 (.i .u8 83) (.i .i64 20)) = true := by kernel_rfl
theorem qrun21x89 (v0 : V) : yesB (L11h v0 (.i .u8 89) (.i .i64 21)) = true := by kernel_rfl
theorem qrun22x71 (v0 : V) : yesB (L11h v0 (.i .u8 71) (.i .i64 22)) = true := by kernel_rfl
theorem qrun27x29 (v0 : V) : yesB (L11h v0 (.i .u8 29) (.i .i64 27)) = true := by kernel_rfl
theorem qrun28x83 (v0 : V) : yesB (L11h v0 (.i .u8 83) (.i .i64 28)) = true := by kernel_rfl
theorem qrun29x73 (v0 : V) : yesB (L11h v0 (.i .u8 73) (.i .i64 29)) = true := by kernel_rfl
theorem qrun30x31 (v0 : V) : yesB (L11h v0 (.i .u8 31) (.i .i64 30)) = true := by kernel_rfl
end
end Go.AM
