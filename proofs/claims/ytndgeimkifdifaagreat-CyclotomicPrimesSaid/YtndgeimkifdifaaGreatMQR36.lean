/- Runs of the law. -/
import Derived.Test.YtndgeimkifdifaaGreatMQC
set_option maxRecDepth 1000000
set_option linter.unusedVariables false
namespace Go.AM
open Go.Proofs
noncomputable section
theorem qrun1x47 (v0 : V) : yesB (L11h v0 (.i .u8 47) (.i .i64 1)) = true := by kernel_rfl
theorem qrun2x37 (v0 : V) : yesB (L11h v0 (.i .u8 37) (.i .i64 2)) = true := by kernel_rfl
theorem qrun3x2 (v0 : V) : yesB (L11h v0 (.i .u8 2) (.i .i64 3)) = true := by kernel_rfl
theorem qrun7x71 (v0 : V) : yesB (L11h v0 (.i .u8 71) (.i .i64 7)) = true := by kernel_rfl
theorem qrun9x73 (v0 : V) : yesB (L11h v0 (.i .u8 73) (.i .i64 9)) = true := by kernel_rfl
theorem qrun10x53 (v0 : V) : yesB (L11h v0 (.i .u8 53) (.i .i64 10)) = true := by kernel_rfl
theorem qrun11x67 (v0 : V) : yesB (L11h v0 (.i .u8 67) (.i .i64 11)) = true := by kernel_rfl
theorem qrun12x73 (v0 : V) : yesB (L11h v0 (.i .u8 73) (.i .i64 12)) = true := by kernel_rfl
theorem qrun16x13 (v0 : V) : yesB (L11h v0 (.i .u8 13) (.i .i64 16)) = true := by kernel_rfl
theorem qrun17x89 (v0 : V) : yesB (L11h v0 (.i .u8 89) (.i .i64 17)) = true := by kernel_rfl
theorem qrun21x17 (v0 : V) : yesB (L11h v0 (.i .u8 17) (.i .i64 21)) = true := by kernel_rfl
theorem qrun21x41 (v0 : V) : yesB (L11h v0 (.i .u8 41) (.i .i64 21)) = true := by kernel_rfl
theorem qrun21x43 (v0 : V) : yesB (L11h v0 (.i .u8 43) (.i .i64 21)) = true := by kernel_rfl
theorem qrun22x73 (v0 : V) : yesB (L11h v0 (.i .u8 73) (.i .i64 22)) = true := by kernel_rfl
theorem qrun23x3 (v0 : V) : yesB (L11h v0 (.i .u8 3) (.i .i64 23)) = true := by kernel_rfl
theorem qrun23x19 (v0 : V) : yesB (L11h v0 (.i .u8 19) (.i .i64 23)) = true := by kernel_rfl
theorem qrun24x47 (v0 : V) : yesB (L11h v0 (.i .u8 47) (.i .i64 24)) = true := by kernel_rfl
theorem qrun27x59 (v0 : V) : yesB (L11h v0 (.i .u8 59) (.i .i64 27)) = true := by kernel_rfl
end
end Go.AM
