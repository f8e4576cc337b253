/- Runs of the law. -/
import Derived.Test.YtndgeimkifdifaaGreatMQC
set_option maxRecDepth 1000000
set_option linter.unusedVariables false
namespace Go.AM
open Go.Proofs
noncomputable section
theorem qrun1x23 (v0 : V) : yesB (L11h v0 (.i .u8 23) (.i .i64 1)) = true := by kernel_rfl
theorem qrun2x23 (v0 : V) : yesB (L11h v0 (.i .u8 23) (.i .i64 2)) = true := by kernel_rfl
theorem qrun3x19 (v0 : V) : yesB (L11h v0 (.i .u8 19) (.i .i64 3)) = true := by kernel_rfl
theorem qrun5x19 (v0 : V) : yesB (L11h v0 (.i .u8 19) (.i .i64 5)) = true := by kernel_rfl
theorem qrun5x89 (v0 : V) : yesB (L11h v0 (.i .u8 89) (.i .i64 5)) = true := by kernel_rfl
theorem qrun7x5 (v0 : V) : yesB (L11h v0 (.i .u8 5) (.i .i64 7)) = true := by kernel_rfl
theorem qrun8x13 (v0 : V) : yesB (L11h v0 (.i .u8 13) (.i .i64 8)) = true := by kernel_rfl
theorem qrun9x31 (v0 : V) : yesB (L11h v0 (.i .u8 31) (.i .i64 9)) = true := by kernel_rfl
theorem qrun11x53 (v0 : V) : yesB (L11h v0 (.i .u8 53) (.i .i64 11)) = true := by kernel_rfl
theorem qrun13x59 (v0 : V) : yesB (L11h v0 (.i .u8 59) (.i .i64 13)) = true := by kernel_rfl
theorem qrun14x23 (v0 : V) : yesB (L11h v0 (.i .u8 23) (.i .i64 14)) = true := by kernel_rfl
theorem qrun18x97 (v0 : V) : yesB (L11h v0 (.i .u8 97) (.i .i64 18)) = true := by kernel_rfl
theorem qrun20x17 (v0 : V) : yesB (L11h v0 (.i .u8 17) (.i .i64 20)) = true := by kernel_rfl
theorem qrun25x37 (v0 : V) : yesB (L11h v0 (.i .u8 37) (.i .i64 25)) = true := by kernel_rfl
theorem qrun27x11 (v0 : V) : yesB (L11h v0 (.i .u8 11) (.i .i64 27)) = true := by kernel_rfl
theorem qrun28x67 (v0 : V) : yesB (L11h v0 (.i .u8 67) (.i .i64 28)) = true := by kernel_rfl
theorem qrun29x71 (v0 : V) : yesB (L11h v0 (.i .u8 71) (.i .i64 29)) = true := by kernel_rfl
theorem qrun30x73 (v0 : V) : yesB (L11h v0 (.i .u8 73) (.i .i64 30)) = true := by kernel_rfl
end
end Go.AM
