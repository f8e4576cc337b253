/- Runs of the law. -/
import Derived.Test.YtndgeimkifdifaaGreatMQC
set_option maxRecDepth 1000000
set_option linter.unusedVariables false
namespace Go.AM
open Go.Proofs
noncomputable section
theorem qrun1x31 (v0 : V) : yesB (L11h v0 (.i .u8 31) (.i .i64 1)) = true := by kernel_rfl
theorem qrun2x43 (v0 : V) : yesB (L11h v0 (.i .u8 43) (.i .i64 2)) = true := by kernel_rfl
theorem qrun3x5 (v0 : V) : yesB (L11h v0 (.i .u8 5) (.i .i64 3)) = true := by kernel_rfl
theorem qrun7x23 (v0 : V) : yesB (L11h v0 (.i .u8 23) (.i .i64 7)) = true := by kernel_rfl
theorem qrun8x67 (v0 : V) : yesB (L11h v0 (.i .u8 67) (.i .i64 8)) = true := by kernel_rfl
theorem qrun9x5 (v0 : V) : yesB (L11h v0 (.i .u8 5) (.i .i64 9)) = true := by kernel_rfl
theorem qrun9x37 (v0 : V) : yesB (L11h v0 (.i .u8 37) (.i .i64 9)) = true := by kernel_rfl
theorem qrun10x23 (v0 : V) : yesB (L11h v0 (.i .u8 23) (.i .i64 10)) = true := by kernel_rfl
theorem qrun11x47 (v0 : V) : yesB (L11h v0 (.i .u8 47) (.i .i64 11)) = true := by kernel_rfl
theorem qrun14x3 (v0 : V) : yesB (L11h v0 (.i .u8 3) (.i .i64 14)) = true := by kernel_rfl
theorem qrun17x3 (v0 : V) : yesB (L11h v0 (.i .u8 3) (.i .i64 17)) = true := by kernel_rfl
theorem qrun17x67 (v0 : V) : yesB (L11h v0 (.i .u8 67) (.i .i64 17)) = true := by kernel_rfl
theorem qrun18x43 (v0 : V) : yesB (L11h v0 (.i .u8 43) (.i .i64 18)) = true := by kernel_rfl
theorem qrun19x17 (v0 : V) : yesB (L11h v0 (.i .u8 17) (.i .i64 19)) = true := by kernel_rfl
theorem qrun20x73 (v0 : V) : yesB (L11h v0 (.i .u8 73) (.i .i64 20)) = true := by kernel_rfl
theorem qrun21x19 (v0 : V) : yesB (L11h v0 (.i .u8 19) (.i .i64 21)) = true := by kernel_rfl
theorem qrun29x37 (v0 : V) : yesB (L11h v0 (.i .u8 37) (.i .i64 29)) = true := by kernel_rfl
theorem qrun30x83 (v0 : V) : yesB (L11h v0 (.i .u8 83) (.i .i64 30)) = true := by kernel_rfl
end
end Go.AM
