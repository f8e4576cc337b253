/- Runs of the law. -/
import Derived.Test.YtndgeimkifdifaaGreatMQC
set_option maxRecDepth 1000000
set_option linter.unusedVariables false
namespace Go.AM
open Go.Proofs
noncomputable section
theorem qrun3x53 (v0 : V) : yesB (L11h v0 (.i .u8 53) (.i .i64 3)) = true := by kernel_rfl
theorem qrun4x43 (v0 : V) : yesB (L11h v0 (.i .u8 43) (.i .i64 4)) = true := by kernel_rfl
theorem qrun8x89 (v0 : V) : yesB (L11h v0 (.i .u8 89) (.i .i64 8)) = true := by kernel_rfl
theorem qrun10x83 (v0 : V) : yesB (L11h v0 (.i .u8 83) (.i .i64 10)) = true := by kernel_rfl
theorem qrun11x43 (v0 : V) : yesB (L11h v0 (.i .u8 43) (.i .i64 11)) = true := by kernel_rfl
theorem qrun12x7 (v0 : V) : yesB (L11h v0 (.i .u8 7) (.i .i64 12)) = true := by kernel_rfl
theorem qrun13x31 (v0 : V) : yesB (L11h v0 (.i .u8 31) (.i .i64 13)) = true := by kernel_rfl
theorem qrun16x41 (v0 : V) : yesB (L11h v0 (.i .u8 41) (.i .i64 16)) = true := by kernel_rfl
theorem qrun16x59 (v0 : V) : yesB (L11h v0 (.i .u8 59) (.i .i64 16)) = true := by kernel_rfl
theorem qrun17x53 (v0 : V) : yesB (L11h v0 (.i .u8 53) (.i .i64 17)) = true := by kernel_rfl
theorem qrun19x47 (v0 : V) : yesB (L11h v0 (.i .u8 47) (.i .i64 19)) = true := by kernel_rfl
theorem qrun23x31 (v0 : V) : yesB (L11h v0 (.i .u8 31) (.i .i64 23)) = true := by kernel_rfl
theorem qrun24x71 (v0 : V) : yesB (L11h v0 (.i .u8 71) (.i .i64 24)) = true := by kernel_rfl
theorem qrun26x59 (v0 : V) : yesB (L11h v0 (.i .u8 59) (.i .i64 26)) = true := by kernel_rfl
theorem qrun26x79 (v0 : V) : yesB (L11h v0 (.i .u8 79) (.i .i64 26)) = true := by kernel_rfl
theorem qrun28x31 (v0 : V) : yesB (L11h v0 (.i .u8 31) (.i .i64 28)) = true := by kernel_rfl
theorem qrun30x59 (v0 : V) : yesB (L11h v0 (.i .u8 59) (.i .i64 30)) = true := by kernel_rfl
end
end Go.AM
