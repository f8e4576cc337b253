/- Runs of the law. -/
import Derived.Test.YtndgeimkifdifaaGreatMQC
set_option maxRecDepth 1000000
set_option linter.unusedVariables false
namespace Go.AM
open Go.Proofs
noncomputable section
theorem qrun1x43 (v0 : V) : yesB (L11h v0 (.i .u8 43) (.i .i64 1)) = true := by kernel_rfl
theorem qrun2x61 (v0 : V) : yesB (L11h v0 (.i .u8 61) (.i .i64 2)) = true := by kernel_rfl
theorem qrun3x23 (v0 : V) : yesB (L11h v0 (.i .u8 23) (.i .i64 3)) = true := by kernel_rfl
theorem qrun5x71 (v0 : V) : yesB (L11h v0 (.i .u8 71) (.i .i64 5)) = true := by kernel_rfl
theorem qrun8x43 (v0 : V) : yesB (L11h v0 (.i .u8 43) (.i .i64 8)) = true := by kernel_rfl
theorem qrun10x37 (v0 : V) : yesB (L11h v0 (.i .u8 37) (.i .i64 10)) = true := by kernel_rfl
theorem qrun11x37 (v0 : V) : yesB (L11h v0 (.i .u8 37) (.i .i64 11)) = true := by kernel_rfl
theorem qrun13x37 (v0 : V) : yesB (L11h v0 (.i .u8 37) (.i .i64 13)) = true := by kernel_rfl
theorem qrun13x47 (v0 : V) : yesB (L11h v0 (.i .u8 47) (.i .i64 13)) = true := by kernel_rfl
theorem qrun15x7 (v0 : V) : yesB (L11h v0 (.i .u8 7) (.i .i64 15)) = true := by kernel_rfl
theorem qrun16x37 (v0 : V) : yesB (L11h v0 (.i .u8 37) (.i .i64 16)) = true := by kernel_rfl
theorem qrun19x3 (v0 : V) : yesB (L11h v0 (.i .u8 3) (.i .i64 19)) = true := by kernel_rfl
theorem qrun19x71 (v0 : V) : yesB (L11h v0 (.i .u8 71) (.i .i64 19)) = true := by kernel_rfl
theorem qrun23x59 (v0 : V) : yesB (L11h v0 (.i .u8 59) (.i .i64 23)) = true := by kernel_rfl
theorem qrun24x23 (v0 : V) : yesB (L11h v0 (.i .u8 23) (.i .i64 24)) = true := by kernel_rfl
theorem qrun24x97 (v0 : V) : yesB (L11h v0 (.i .u8 97) (.i .i64 24)) = true := by kernel_rfl
theorem qrun26x89 (v0 : V) : yesB (L11h v0 (.i .u8 89) (.i .i64 26)) = true := by kernel_rfl
theorem qrun30x29 (v0 : V) : yesB (L11h v0 (.i .u8 29) (.i .i64 30)) = true := by kernel_rfl
end
end Go.AM
