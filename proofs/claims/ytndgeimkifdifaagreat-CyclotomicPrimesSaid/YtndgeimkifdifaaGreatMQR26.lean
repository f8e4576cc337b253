/- Runs of the law. -/
import Derived.Test.YtndgeimkifdifaaGreatMQC
set_option maxRecDepth 1000000
set_option linter.unusedVariables false
namespace Go.AM
open Go.Proofs
noncomputable section
theorem qrun4x11 (v0 : V) : yesB (L11h v0 (.i .u8 11) (.i .i64 4)) = true := by kernel_rfl
theorem qrun5x97 (v0 : V) : yesB (L11h v0 (.i .u8 97) (.i .i64 5)) = true := by kernel_rfl
theorem qrun6x41 (v0 : V) : yesB (L11h v0 (.i .u8 41) (.i .i64 6)) = true := by kernel_rfl
theorem qrun6x79 (v0 : V) : yesB (L11h v0 (.i .u8 79) (.i .i64 6)) = true := by kernel_rfl
theorem qrun9x47 (v0 : V) : yesB (L11h v0 (.i .u8 47) (.i .i64 9)) = true := by kernel_rfl
theorem qrun10x71 (v0 : V) : yesB (L11h v0 (.i .u8 71) (.i .i64 10)) = true := by kernel_rfl
theorem qrun11x23 (v0 : V) : yesB (L11h v0 (.i .u8 23) (.i .i64 11)) = true := by kernel_rfl
theorem qrun13x53 (v0 : V) : yesB (L11h v0 (.i .u8 53) (.i .i64 13)) = true := by kernel_rfl
theorem qrun16x83 (v0 : V) : yesB (L11h v0 (.i .u8 83) (.i .i64 16)) = true := by kernel_rfl
theorem qrun17x43 (v0 : V) : yesB (L11h v0 (.i .u8 43) (.i .i64 17)) = true := by kernel_rfl
theorem qrun18x79 (v0 : V) : yesB (L11h v0 (.i .u8 79) (.i .i64 18)) = true := by kernel_rfl
theorem qrun19x11 (v0 : V) : yesB (L11h v0 (.i .u8 11) (.i .i64 19)) = true := by kernel_rfl
theorem qrun19x43 (v0 : V) : yesB (L11h v0 (.i .u8 43) (.i .i64 19)) = true := by kernel_rfl
theorem qrun23x53 (v0 : V) : yesB (L11h v0 (.i .u8 53) (.i .i64 23)) = true := by kernel_rfl
theorem qrun26x3 (v0 : V) : yesB (L11h v0 (.i .u8 3) (.i .i64 26)) = true := by kernel_rfl
theorem qrun26x31 (v0 : V) : yesB (L11h v0 (.i .u8 31) (.i .i64 26)) = true := by kernel_rfl
theorem qrun27x73 (v0 : V) : yesB (L11h v0 (.i .u8 73) (.i .i64 27)) = true := by kernel_rfl
end
end Go.AM
