/- Runs of the law. -/
import Derived.Test.YtndgeimkifdifaaGreatMQC
set_option maxRecDepth 1000000
set_option linter.unusedVariables false
namespace Go.AM
open Go.Proofs
noncomputable section
theorem qrun1x61 (v0 : V) : yesB (L11h v0 (.i .u8 61) (.i .i64 1)) = true := by kernel_rfl
theorem qrun2x79 (v0 : V) : yesB (L11h v0 (.i .u8 79) (.i .i64 2)) = true := by kernel_rfl
theorem qrun3x43 (v0 : V) : yesB (L11h v0 (.i .u8 43) (.i .i64 3)) = true := by kernel_rfl
theorem qrun5x41 (v0 : V) : yesB (L11h v0 (.i .u8 41) (.i .i64 5)) = true := by kernel_rfl
theorem qrun7x2 (v0 : V) : yesB (L11h v0 (.i .u8 2) (.i .i64 7)) = true := by kernel_rfl
theorem qrun8x61 (v0 : V) : yesB (L11h v0 (.i .u8 61) (.i .i64 8)) = true := by kernel_rfl
theorem qrun10x67 (v0 : V) : yesB (L11h v0 (.i .u8 67) (.i .i64 10)) = true := by kernel_rfl
theorem qrun13x73 (v0 : V) : yesB (L11h v0 (.i .u8 73) (.i .i64 13)) = true := by kernel_rfl
theorem qrun14x19 (v0 : V) : yesB (L11h v0 (.i .u8 19) (.i .i64 14)) = true := by kernel_rfl
theorem qrun15x31 (v0 : V) : yesB (L11h v0 (.i .u8 31) (.i .i64 15)) = true := by kernel_rfl
theorem qrun16x89 (v0 : V) : yesB (L11h v0 (.i .u8 89) (.i .i64 16)) = true := by kernel_rfl
theorem qrun17x11 (v0 : V) : yesB (L11h v0 (.i .u8 11) (.i .i64 17)) = true := by kernel_rfl
theorem qrun19x13 (v0 : V) : yesB (L11h v0 (.i .u8 13) (.i .i64 19)) = true := by kernel_rfl
theorem qrun21x29 (v0 : V) : yesB (L11h v0 (.i .u8 29) (.i .i64 21)) = true := by kernel_rfl
theorem qrun26x5 (v0 : V) : yesB (L11h v0 (.i .u8 5) (.i .i64 26)) = true := by kernel_rfl
theorem qrun27x71 (v0 : V) : yesB (L11h v0 (.i .u8 71) (.i .i64 27)) = true := by kernel_rfl
theorem qrun28x29 (v0 : V) : yesB (L11h v0 (.i .u8 29) (.i .i64 28)) = true := by kernel_rfl
theorem qrun29x3 (v0 : V) : yesB (L11h v0 (.i .u8 3) (.i .i64 29)) = true := by kernel_rfl
end
end Go.AM
