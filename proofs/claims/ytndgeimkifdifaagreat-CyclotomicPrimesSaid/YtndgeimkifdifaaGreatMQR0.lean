/- Runs of the law. -/
import Derived.Test.YtndgeimkifdifaaGreatMQC
set_option maxRecDepth 1000000
set_option linter.unusedVariables false
namespace Go.AM
open Go.Proofs
noncomputable section
theorem qrun4x13 (v0 : V) : yesB (L11h v0 (.i .u8 13) (.i .i64 4)) = true := by kernel_rfl
theorem qrun6x11 (v0 : V) : yesB (L11h v0 (.i .u8 11) (.i .i64 6)) = true := by kernel_rfl
theorem qrun6x71 (v0 : V) : yesB (L11h v0 (.i .u8 71) (.i .i64 6)) = true := by kernel_rfl
theorem qrun7x31 (v0 : V) : yesB (L11h v0 (.i .u8 31) (.i .i64 7)) = true := by kernel_rfl
theorem qrun10x3 (v0 : V) : yesB (L11h v0 (.i .u8 3) (.i .i64 10)) = true := by kernel_rfl
theorem qrun12x43 (v0 : V) : yesB (L11h v0 (.i .u8 43) (.i .i64 12)) = true := by kernel_rfl
theorem qrun13x5 (v0 : V) : yesB (L11h v0 (.i .u8 5) (.i .i64 13)) = true := by kernel_rfl
theorem qrun15x97 (v0 : V) : yesB (L11h v0 (.i .u8 97) (.i .i64 15)) = true := by kernel_rfl
theorem qrun16x61 (v0 : V) : yesB (L11h v0 (.i .u8 61) (.i .i64 16)) = true := by kernel_rfl
theorem qrun16x71 (v0 : V) : yesB (L11h v0 (.i .u8 71) (.i .i64 16)) = true := by kernel_rfl
theorem qrun17x31 (v0 : V) : yesB (L11h v0 (.i .u8 31) (.i .i64 17)) = true := by kernel_rfl
theorem qrun18x31 (v0 : V) : yesB (L11h v0 (.i .u8 31) (.i .i64 18)) = true := by kernel_rfl
theorem qrun20x97 (v0 : V) : yesB (L11h v0 (.i .u8 97) (.i .i64 20)) = true := by kernel_rfl
theorem qrun22x59 (v0 : V) : yesB (L11h v0 (.i .u8 59) (.i .i64 22)) = true := by kernel_rfl
theorem qrun23x47 (v0 : V) : yesB (L11h v0 (.i .u8 47) (.i .i64 23)) = true := by kernel_rfl
theorem qrun26x83 (v0 : V) : yesB (L11h v0 (.i .u8 83) (.i .i64 26)) = true := by kernel_rfl
theorem qrun29x47 (v0 : V) : yesB (L11h v0 (.i .u8 47) (.i .i64 29)) = true := by kernel_rfl
end
end Go.AM
