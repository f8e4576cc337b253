/- Runs of the law. -/
import Derived.Test.YtndgeimkifdifaaGreatMQC
set_option maxRecDepth 1000000
set_option linter.unusedVariables false
namespace Go.AM
open Go.Proofs
noncomputable section
theorem qrun4x23 (v0 : V) : yesB (L11h v0 (.i .u8 23) (.i .i64 4)) = true := by kernel_rfl
theorem qrun6x7 (v0 : V) : yesB (L11h v0 (.i .u8 7) (.i .i64 6)) = true := by kernel_rfl
theorem qrun6x53 (v0 : V) : yesB (L11h v0 (.i .u8 53) (.i .i64 6)) = true := by kernel_rfl
theorem qrun7x47 (v0 : V) : yesB (L11h v0 (.i .u8 47) (.i .i64 7)) = true := by kernel_rfl
theorem qrun10x19 (v0 : V) : yesB (L11h v0 (.i .u8 19) (.i .i64 10)) = true := by kernel_rfl
theorem qrun11x13 (v0 : V) : yesB (L11h v0 (.i .u8 13) (.i .i64 11)) = true := by kernel_rfl
theorem qrun12x11 (v0 : V) : yesB (L11h v0 (.i .u8 11) (.i .i64 12)) = true := by kernel_rfl
theorem qrun14x61 (v0 : V) : yesB (L11h v0 (.i .u8 61) (.i .i64 14)) = true := by kernel_rfl
theorem qrun14x71 (v0 : V) : yesB (L11h v0 (.i .u8 71) (.i .i64 14)) = true := by kernel_rfl
theorem qrun21x23 (v0 : V) : yesB (L11h v0 (.i .u8 23) (.i .i64 21)) = true := by kernel_rfl
theorem qrun22x13 (v0 : V) : yesB (L11h v0 (.i .u8 13) (.i .i64 22)) = true := by kernel_rfl
theorem qrun22x23 (v0 : V) : yesB (L11h v0 (.i .u8 23) (.i .i64 22)) = true := by kernel_rfl
theorem qrun23x29 (v0 : V) : yesB (L11h v0 (.i .u8 29) (.i .i64 23)) = true := by kernel_rfl
theorem qrun24x73 (v0 : V) : yesB (L11h v0 (.i .u8 73) (.i .i64 24)) = true := by kernel_rfl
theorem qrun25x61 (v0 : V) : yesB (L11h v0 (.i .u8 61) (.i .i64 25)) = true := by kernel_rfl
theorem qrun27x79 (v0 : V) : yesB (L11h v0 (.i .u8 79) (.i .i64 27)) = true := by kernel_rfl
theorem qrun29x17 (v0 : V) : yesB (L11h v0 (.i .u8 17) (.i .i64 29)) = true := by kernel_rfl
end
end Go.AM
