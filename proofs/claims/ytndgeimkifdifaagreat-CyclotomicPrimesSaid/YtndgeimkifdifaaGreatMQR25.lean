/- Runs of the law. -/
import Derived.Test.YtndgeimkifdifaaGreatMQC
set_option maxRecDepth 1000000
set_option linter.unusedVariables false
namespace Go.AM
open Go.Proofs
noncomputable section
theorem qrun1x41 (v0 : V) : yesB (L11h v0 (.i .u8 41) (.i .i64 1)) = true := by kernel_rfl
theorem qrun2x59 (v0 : V) : yesB (L11h v0 (.i .u8 59) (.i .i64 2)) = true := by kernel_rfl
theorem qrun3x73 (v0 : V) : yesB (L11h v0 (.i .u8 73) (.i .i64 3)) = true := by kernel_rfl
theorem qrun5x61 (v0 : V) : yesB (L11h v0 (.i .u8 61) (.i .i64 5)) = true := by kernel_rfl
theorem qrun7x3 (v0 : V) : yesB (L11h v0 (.i .u8 3) (.i .i64 7)) = true := by kernel_rfl
theorem qrun7x59 (v0 : V) : yesB (L11h v0 (.i .u8 59) (.i .i64 7)) = true := by kernel_rfl
theorem qrun10x59 (v0 : V) : yesB (L11h v0 (.i .u8 59) (.i .i64 10)) = true := by kernel_rfl
theorem qrun10x89 (v0 : V) : yesB (L11h v0 (.i .u8 89) (.i .i64 10)) = true := by kernel_rfl
theorem qrun11x7 (v0 : V) : yesB (L11h v0 (.i .u8 7) (.i .i64 11)) = true := by kernel_rfl
theorem qrun12x61 (v0 : V) : yesB (L11h v0 (.i .u8 61) (.i .i64 12)) = true := by kernel_rfl
theorem qrun13x43 (v0 : V) : yesB (L11h v0 (.i .u8 43) (.i .i64 13)) = true := by kernel_rfl
theorem qrun17x97 (v0 : V) : yesB (L11h v0 (.i .u8 97) (.i .i64 17)) = true := by kernel_rfl
theorem qrun19x29 (v0 : V) : yesB (L11h v0 (.i .u8 29) (.i .i64 19)) = true := by kernel_rfl
theorem qrun21x2 (v0 : V) : yesB (L11h v0 (.i .u8 2) (.i .i64 21)) = true := by kernel_rfl
theorem qrun23x67 (v0 : V) : yesB (L11h v0 (.i .u8 67) (.i .i64 23)) = true := by kernel_rfl
theorem qrun26x41 (v0 : V) : yesB (L11h v0 (.i .u8 41) (.i .i64 26)) = true := by kernel_rfl
theorem qrun28x71 (v0 : V) : yesB (L11h v0 (.i .u8 71) (.i .i64 28)) = true := by kernel_rfl
theorem qrun30x11 (v0 : V) : yesB (L11h v0 (.i .u8 11) (.i .i64 30)) = true := by kernel_rfl
end
end Go.AM
