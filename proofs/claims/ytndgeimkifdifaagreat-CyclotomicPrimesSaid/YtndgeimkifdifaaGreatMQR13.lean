/- Runs of the law. -/
import Derived.Test.YtndgeimkifdifaaGreatMQC
set_option maxRecDepth 1000000
set_option linter.unusedVariables false
namespace Go.AM
open Go.Proofs
noncomputable section
theorem qrun1x13 (v0 : V) : yesB (L11h v0 (.i .u8 13) (.i .i64 1)) = true := by kernel_rfl
theorem qrun2x19 (v0 : V) : yesB (L11h v0 (.i .u8 19) (.i .i64 2)) = true := by kernel_rfl
theorem qrun3x11 (v0 : V) : yesB (L11h v0 (.i .u8 11) (.i .i64 3)) = true := by kernel_rfl
theorem qrun5x7 (v0 : V) : yesB (L11h v0 (.i .u8 7) (.i .i64 5)) = true := by kernel_rfl
theorem qrun8x7 (v0 : V) : yesB (L11h v0 (.i .u8 7) (.i .i64 8)) = true := by kernel_rfl
theorem qrun9x67 (v0 : V) : yesB (L11h v0 (.i .u8 67) (.i .i64 9)) = true := by kernel_rfl
theorem qrun11x71 (v0 : V) : yesB (L11h v0 (.i .u8 71) (.i .i64 11)) = true := by kernel_rfl
theorem qrun13x41 (v0 : V) : yesB (L11h v0 (.i .u8 41) (.i .i64 13)) = true := by kernel_rfl
theorem qrun14x17 (v0 : V) : yesB (L11h v0 (.i .u8 17) (.i .i64 14)) = true := by kernel_rfl
theorem qrun16x3 (v0 : V) : yesB (L11h v0 (.i .u8 3) (.i .i64 16)) = true := by kernel_rfl
theorem qrun16x97 (v0 : V) : yesB (L11h v0 (.i .u8 97) (.i .i64 16)) = true := by kernel_rfl
theorem qrun17x13 (v0 : V) : yesB (L11h v0 (.i .u8 13) (.i .i64 17)) = true := by kernel_rfl
theorem qrun18x23 (v0 : V) : yesB (L11h v0 (.i .u8 23) (.i .i64 18)) = true := by kernel_rfl
theorem qrun20x43 (v0 : V) : yesB (L11h v0 (.i .u8 43) (.i .i64 20)) = true := by kernel_rfl
theorem qrun25x73 (v0 : V) : yesB (L11h v0 (.i .u8 73) (.i .i64 25)) = true := by kernel_rfl
theorem qrun27x97 (v0 : V) : yesB (L11h v0 (.i .u8 97) (.i .i64 27)) = true := by kernel_rfl
theorem qrun29x13 (v0 : V) : yesB (L11h v0 (.i .u8 13) (.i .i64 29)) = true := by kernel_rfl
theorem qrun30x37 (v0 : V) : yesB (L11h v0 (.i .u8 37) (.i .i64 30)) = true := by kernel_rfl
end
end Go.AM
