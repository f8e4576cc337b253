/- Runs of the law. -/
import Derived.Test.YtndgeimkifdifaaGreatMQC
set_option maxRecDepth 1000000
set_option linter.unusedVariables false
namespace Go.AM
open Go.Proofs
noncomputable section
theorem qrun4x71 (v0 : V) : yesB (L11h v0 (.i .u8 71) (.i .i64 4)) = true := by kernel_rfl
theorem qrun6x5 (v0 : V) : yesB (L11h v0 (.i .u8 5) (.i .i64 6)) = true := by kernel_rfl
theorem qrun6x43 (v0 : V) : yesB (L11h v0 (.i .u8 43) (.i .i64 6)) = true := by kernel_rfl
theorem qrun7x17 (v0 : V) : yesB (L11h v0 (.i .u8 17) (.i .i64 7)) = true := by kernel_rfl
theorem qrun9x13 (v0 : V) : yesB (L11h v0 (.i .u8 13) (.i .i64 9)) = true := by kernel_rfl
theorem qrun10x17 (v0 : V) : yesB (L11h v0 (.i .u8 17) (.i .i64 10)) = true := by kernel_rfl
theorem qrun11x73 (v0 : V) : yesB (L11h v0 (.i .u8 73) (.i .i64 11)) = true := by kernel_rfl
theorem qrun12x23 (v0 : V) : yesB (L11h v0 (.i .u8 23) (.i .i64 12)) = true := by kernel_rfl
theorem qrun14x67 (v0 : V) : yesB (L11h v0 (.i .u8 67) (.i .i64 14)) = true := by kernel_rfl
theorem qrun17x5 (v0 : V) : yesB (L11h v0 (.i .u8 5) (.i .i64 17)) = true := by kernel_rfl
theorem qrun18x67 (v0 : V) : yesB (L11h v0 (.i .u8 67) (.i .i64 18)) = true := by kernel_rfl
theorem qrun20x7 (v0 : V) : yesB (L11h v0 (.i .u8 7) (.i .i64 20)) = true := by kernel_rfl
theorem qrun21x73 (v0 : V) : yesB (L11h v0 (.i .u8 73) (.i .i64 21)) = true := by kernel_rfl
theorem qrun22x61 (v0 : V) : yesB (L11h v0 (.i .u8 61) (.i .i64 22)) = true := by kernel_rfl
theorem qrun25x23 (v0 : V) : yesB (L11h v0 (.i .u8 23) (.i .i64 25)) = true := by kernel_rfl
theorem qrun29x11 (v0 : V) : yesB (L11h v0 (.i .u8 11) (.i .i64 29)) = true := by kernel_rfl
theorem qrun30x43 (v0 : V) : yesB (L11h v0 (.i .u8 43) (.i .i64 30)) = true := by kernel_rfl
end
end Go.AM
