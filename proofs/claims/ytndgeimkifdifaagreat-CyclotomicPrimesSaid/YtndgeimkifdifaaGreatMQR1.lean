/- Runs of the law. -/
import Derived.Test.YtndgeimkifdifaaGreatMQC
set_option maxRecDepth 1000000
set_option linter.unusedVariables false
namespace Go.AM
open Go.Proofs
noncomputable section
theorem qrun1x5 (v0 : V) : yesB (L11h v0 (.i .u8 5) (.i .i64 1)) = true := by kernel_rfl
theorem qrun2x29 (v0 : V) : yesB (L11h v0 (.i .u8 29) (.i .i64 2)) = true := by kernel_rfl
theorem qrun3x7 (v0 : V) : yesB (L11h v0 (.i .u8 7) (.i .i64 3)) = true := by kernel_rfl
theorem qrun5x73 (v0 : V) : yesB (L11h v0 (.i .u8 73) (.i .i64 5)) = true := by kernel_rfl
theorem qrun7x73 (v0 : V) : yesB (L11h v0 (.i .u8 73) (.i .i64 7)) = true := by kernel_rfl
theorem qrun7x97 (v0 : V) : yesB (L11h v0 (.i .u8 97) (.i .i64 7)) = true := by kernel_rfl
theorem qrun9x23 (v0 : V) : yesB (L11h v0 (.i .u8 23) (.i .i64 9)) = true := by kernel_rfl
theorem qrun10x31 (v0 : V) : yesB (L11h v0 (.i .u8 31) (.i .i64 10)) = true := by kernel_rfl
theorem qrun11x2 (v0 : V) : yesB (L11h v0 (.i .u8 2) (.i .i64 11)) = true := by kernel_rfl
theorem qrun11x19 (v0 : V) : yesB (L11h v0 (.i .u8 19) (.i .i64 11)) = true := by kernel_rfl
theorem qrun12x13 (v0 : V) : yesB (L11h v0 (.i .u8 13) (.i .i64 12)) = true := by kernel_rfl
theorem qrun15x61 (v0 : V) : yesB (L11h v0 (.i .u8 61) (.i .i64 15)) = true := by kernel_rfl
theorem qrun21x53 (v0 : V) : yesB (L11h v0 (.i .u8 53) (.i .i64 21)) = true := by kernel_rfl
theorem qrun25x53 (v0 : V) : yesB (L11h v0 (.i .u8 53) (.i .i64 25)) = true := by kernel_rfl
theorem qrun27x7 (v0 : V) : yesB (L11h v0 (.i .u8 7) (.i .i64 27)) = true := by kernel_rfl
theorem qrun28x23 (v0 : V) : yesB (L11h v0 (.i .u8 23) (.i .i64 28)) = true := by kernel_rfl
theorem qrun29x79 (v0 : V) : yesB (L11h v0 (.i .u8 79) (.i .i64 29)) = true := by kernel_rfl
theorem qrun30x79 (v0 : V) : yesB (L11h v0 (.i .u8 79) (.i .i64 30)) = true := by kernel_rfl
end
end Go.AM
