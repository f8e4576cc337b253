/- Runs of the law. -/
import Derived.Test.YtndgeimkifdifaaGreatMQC
set_option maxRecDepth 1000000
set_option linter.unusedVariables false
namespace Go.AM
open Go.Proofs
noncomputable section
theorem qrun2x11 (v0 : V) : yesB (L11h v0 (.i .u8 11) (.i .i64 2)) = true := by kernel_rfl
theorem qrun3x83 (v0 : V) : yesB (L11h v0 (.i .u8 83) (.i .i64 3)) = true := by kernel_rfl
theorem qrun4x83 (v0 : V) : yesB (L11h v0 (.i .u8 83) (.i .i64 4)) = true := by kernel_rfl
theorem qrun6x67 (v0 : V) : yesB (L11h v0 (.i .u8 67) (.i .i64 6)) = true := by kernel_rfl
theorem qrun9x53 (v0 : V) : yesB (L11h v0 (.i .u8 53) (.i .i64 9)) = true := by kernel_rfl
theorem qrun12x29 (v0 : V) : yesB (L11h v0 (.i .u8 29) (.i .i64 12)) = true := by kernel_rfl
theorem qrun13x67 (v0 : V) : yesB (L11h v0 (.i .u8 67) (.i .i64 13)) = true := by kernel_rfl
theorem qrun14x47 (v0 : V) : yesB (L11h v0 (.i .u8 47) (.i .i64 14)) = true := by kernel_rfl
theorem qrun15x53 (v0 : V) : yesB (L11h v0 (.i .u8 53) (.i .i64 15)) = true := by kernel_rfl
theorem qrun16x47 (v0 : V) : yesB (L11h v0 (.i .u8 47) (.i .i64 16)) = true := by kernel_rfl
theorem qrun16x53 (v0 : V) : yesB (L11h v0 (.i .u8 53) (.i .i64 16)) = true := by kernel_rfl
theorem qrun17x61 (v0 : V) : yesB (L11h v0 (.i .u8 61) (.i .i64 17)) = true := by kernel_rfl
theorem qrun19x53 (v0 : V) : yesB (L11h v0 (.i .u8 53) (.i .i64 19)) = true := by kernel_rfl
theorem qrun21x83 (v0 : V) : yesB (L11h v0 (.i .u8 83) (.i .i64 21)) = true := by kernel_rfl
theorem qrun22x31 (v0 : V) : yesB (L11h v0 (.i .u8 31) (.i .i64 22)) = true := by kernel_rfl
theorem qrun23x71 (v0 : V) : yesB (L11h v0 (.i .u8 71) (.i .i64 23)) = true := by kernel_rfl
theorem qrun24x53 (v0 : V) : yesB (L11h v0 (.i .u8 53) (.i .i64 24)) = true := by kernel_rfl
theorem qrun26x19 (v0 : V) : yesB (L11h v0 (.i .u8 19) (.i .i64 26)) = true := by kernel_rfl
end
end Go.AM
