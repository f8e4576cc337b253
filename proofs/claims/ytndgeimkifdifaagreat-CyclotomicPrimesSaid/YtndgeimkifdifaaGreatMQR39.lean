/- Runs of the law. -/
import Derived.Test.YtndgeimkifdifaaGreatMQC
set_option maxRecDepth 1000000
set_option linter.unusedVariables false
namespace Go.AM
open Go.Proofs
noncomputable section
theorem qrun1x17 (v0 : V) : yesB (L11h v0 (.i .u8 17) (.i .i64 1)) = true := by kernel_rfl
theorem qrun2x47 (v0 : V) : yesB (L11h v0 (.i .u8 47) (.i .i64 2)) = true := by kernel_rfl
theorem qrun3x13 (v0 : V) : yesB (L11h v0 (.i .u8 13) (.i .i64 3)) = true := by kernel_rfl
theorem qrun8x37 (v0 : V) : yesB (L11h v0 (.i .u8 37) (.i .i64 8)) = true := by kernel_rfl
theorem qrun9x17 (v0 : V) : yesB (L11h v0 (.i .u8 17) (.i .i64 9)) = true := by kernel_rfl
theorem qrun9x29 (v0 : V) : yesB (L11h v0 (.i .u8 29) (.i .i64 9)) = true := by kernel_rfl
theorem qrun11x5 (v0 : V) : yesB (L11h v0 (.i .u8 5) (.i .i64 11)) = true := by kernel_rfl
theorem qrun12x59 (v0 : V) : yesB (L11h v0 (.i .u8 59) (.i .i64 12)) = true := by kernel_rfl
theorem qrun13x23 (v0 : V) : yesB (L11h v0 (.i .u8 23) (.i .i64 13)) = true := by kernel_rfl
theorem qrun14x59 (v0 : V) : yesB (L11h v0 (.i .u8 59) (.i .i64 14)) = true := by kernel_rfl
theorem qrun15x47 (v0 : V) : yesB (L11h v0 (.i .u8 47) (.i .i64 15)) = true := by kernel_rfl
theorem qrun17x7 (v0 : V) : yesB (L11h v0 (.i .u8 7) (.i .i64 17)) = true := by kernel_rfl
theorem qrun20x89 (v0 : V) : yesB (L11h v0 (.i .u8 89) (.i .i64 20)) = true := by kernel_rfl
theorem qrun23x7 (v0 : V) : yesB (L11h v0 (.i .u8 7) (.i .i64 23)) = true := by kernel_rfl
theorem qrun23x13 (v0 : V) : yesB (L11h v0 (.i .u8 13) (.i .i64 23)) = true := by kernel_rfl
theorem qrun24x19 (v0 : V) : yesB (L11h v0 (.i .u8 19) (.i .i64 24)) = true := by kernel_rfl
theorem qrun26x7 (v0 : V) : yesB (L11h v0 (.i .u8 7) (.i .i64 26)) = true := by kernel_rfl
theorem qrun28x17 (v0 : V) : yesB (L11h v0 (.i .u8 17) (.i .i64 28)) = true := by kernel_rfl
end
end Go.AM
