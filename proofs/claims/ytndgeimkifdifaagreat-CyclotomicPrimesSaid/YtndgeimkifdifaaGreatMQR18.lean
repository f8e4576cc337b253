/- Runs of the law. -/
import Derived.Test.YtndgeimkifdifaaGreatMQC
set_option maxRecDepth 1000000
set_option linter.unusedVariables false
namespace Go.AM
open Go.Proofs
noncomputable section
theorem qrun1x97 (v0 : V) : yesB (L11h v0 (.i .u8 97) (.i .i64 1)) = true := by kernel_rfl
theorem qrun2x83 (v0 : V) : yesB (L11h v0 (.i .u8 83) (.i .i64 2)) = true := by kernel_rfl
theorem qrun4x97 (v0 : V) : yesB (L11h v0 (.i .u8 97) (.i .i64 4)) = true := by kernel_rfl
theorem qrun5x47 (v0 : V) : yesB (L11h v0 (.i .u8 47) (.i .i64 5)) = true := by kernel_rfl
theorem qrun8x19 (v0 : V) : yesB (L11h v0 (.i .u8 19) (.i .i64 8)) = true := by kernel_rfl
theorem qrun9x59 (v0 : V) : yesB (L11h v0 (.i .u8 59) (.i .i64 9)) = true := by kernel_rfl
theorem qrun12x83 (v0 : V) : yesB (L11h v0 (.i .u8 83) (.i .i64 12)) = true := by kernel_rfl
theorem qrun15x59 (v0 : V) : yesB (L11h v0 (.i .u8 59) (.i .i64 15)) = true := by kernel_rfl
theorem qrun16x43 (v0 : V) : yesB (L11h v0 (.i .u8 43) (.i .i64 16)) = true := by kernel_rfl
theorem qrun18x47 (v0 : V) : yesB (L11h v0 (.i .u8 47) (.i .i64 18)) = true := by kernel_rfl
theorem qrun22x37 (v0 : V) : yesB (L11h v0 (.i .u8 37) (.i .i64 22)) = true := by kernel_rfl
theorem qrun23x79 (v0 : V) : yesB (L11h v0 (.i .u8 79) (.i .i64 23)) = true := by kernel_rfl
theorem qrun25x47 (v0 : V) : yesB (L11h v0 (.i .u8 47) (.i .i64 25)) = true := by kernel_rfl
theorem qrun25x71 (v0 : V) : yesB (L11h v0 (.i .u8 71) (.i .i64 25)) = true := by kernel_rfl
theorem qrun26x73 (v0 : V) : yesB (L11h v0 (.i .u8 73) (.i .i64 26)) = true := by kernel_rfl
theorem qrun27x47 (v0 : V) : yesB (L11h v0 (.i .u8 47) (.i .i64 27)) = true := by kernel_rfl
theorem qrun28x43 (v0 : V) : yesB (L11h v0 (.i .u8 43) (.i .i64 28)) = true := by kernel_rfl
theorem qrun28x53 (v0 : V) : yesB (L11h v0 (.i .u8 53) (.i .i64 28)) = true := by kernel_rfl
end
end Go.AM
