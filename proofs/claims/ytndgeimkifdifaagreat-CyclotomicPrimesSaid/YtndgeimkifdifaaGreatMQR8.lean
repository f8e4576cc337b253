/- Runs of the law. -/
import Derived.Test.YtndgeimkifdifaaGreatMQC
set_option maxRecDepth 1000000
set_option linter.unusedVariables false
namespace Go.AM
open Go.Proofs
noncomputable section
theorem qrun2x5 (v0 : V) : yesB (L11h v0 (.i .u8 5) (.i .i64 2)) = true := by kernel_rfl
theorem qrun3x79 (v0 : V) : yesB (L11h v0 (.i .u8 79) (.i .i64 3)) = true := by kernel_rfl
theorem qrun4x59 (v0 : V) : yesB (L11h v0 (.i .u8 59) (.i .i64 4)) = true := by kernel_rfl
theorem qrun6x31 (v0 : V) : yesB (L11h v0 (.i .u8 31) (.i .i64 6)) = true := by kernel_rfl
theorem qrun7x83 (v0 : V) : yesB (L11h v0 (.i .u8 83) (.i .i64 7)) = true := by kernel_rfl
theorem qrun9x71 (v0 : V) : yesB (L11h v0 (.i .u8 71) (.i .i64 9)) = true := by kernel_rfl
theorem qrun9x97 (v0 : V) : yesB (L11h v0 (.i .u8 97) (.i .i64 9)) = true := by kernel_rfl
theorem qrun11x31 (v0 : V) : yesB (L11h v0 (.i .u8 31) (.i .i64 11)) = true := by kernel_rfl
theorem qrun12x41 (v0 : V) : yesB (L11h v0 (.i .u8 41) (.i .i64 12)) = true := by kernel_rfl
theorem qrun16x11 (v0 : V) : yesB (L11h v0 (.i .u8 11) (.i .i64 16)) = true := by kernel_rfl
theorem qrun20x53 (v0 : V) : yesB (L11h v0 (.i .u8 53) (.i .i64 20)) = true := by kernel_rfl
theorem qrun20x79 (v0 : V) : yesB (L11h v0 (.i .u8 79) (.i .i64 20)) = true := by kernel_rfl
theorem qrun25x11 (v0 : V) : yesB (L11h v0 (.i .u8 11) (.i .i64 25)) = true := by kernel_rfl
theorem qrun25x29 (v0 : V) : yesB (L11h v0 (.i .u8 29) (.i .i64 25)) = true := by kernel_rfl
theorem qrun27x41 (v0 : V) : yesB (L11h v0 (.i .u8 41) (.i .i64 27)) = true := by kernel_rfl
theorem qrun28x73 (v0 : V) : yesB (L11h v0 (.i .u8 73) (.i .i64 28)) = true := by kernel_rfl
theorem qrun29x19 (v0 : V) : yesB (L11h v0 (.i .u8 19) (.i .i64 29)) = true := by kernel_rfl
theorem qrun30x47 (v0 : V) : yesB (L11h v0 (.i .u8 47) (.i .i64 30)) = true := by kernel_rfl
end
end Go.AM
