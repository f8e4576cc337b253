/- Runs of the law. -/
import Derived.Test.YtndgeimkifdifaaGreatMQC
set_option maxRecDepth 1000000
set_option linter.unusedVariables false
namespace Go.AM
open Go.Proofs
noncomputable section
theorem qrun3x61 (v0 : V) : yesB (L11h v0 (.i .u8 61) (.i .i64 3)) = true := by kernel_rfl
theorem qrun4x41 (v0 : V) : yesB (L11h v0 (.i .u8 41) (.i .i64 4)) = true := by kernel_rfl
theorem qrun8x41 (v0 : V) : yesB (L11h v0 (.i .u8 41) (.i .i64 8)) = true := by kernel_rfl
theorem qrun11x61 (v0 : V) : yesB (L11h v0 (.i .u8 61) (.i .i64 11)) = true := by kernel_rfl
theorem qrun12x79 (v0 : V) : yesB (L11h v0 (.i .u8 79) (.i .i64 12)) = true := by kernel_rfl
theorem qrun14x11 (v0 : V) : yesB (L11h v0 (.i .u8 11) (.i .i64 14)) = true := by kernel_rfl
theorem qrun15x73 (v0 : V) : yesB (L11h v0 (.i .u8 73) (.i .i64 15)) = true := by kernel_rfl
theorem qrun16x5 (v0 : V) : yesB (L11h v0 (.i .u8 5) (.i .i64 16)) = true := by kernel_rfl
theorem qrun18x19 (v0 : V) : yesB (L11h v0 (.i .u8 19) (.i .i64 18)) = true := by kernel_rfl
theorem qrun20x13 (v0 : V) : yesB (L11h v0 (.i .u8 13) (.i .i64 20)) = true := by kernel_rfl
theorem qrun21x59 (v0 : V) : yesB (L11h v0 (.i .u8 59) (.i .i64 21)) = true := by kernel_rfl
theorem qrun22x41 (v0 : V) : yesB (L11h v0 (.i .u8 41) (.i .i64 22)) = true := by kernel_rfl
theorem qrun24x5 (v0 : V) : yesB (L11h v0 (.i .u8 5) (.i .i64 24)) = true := by kernel_rfl
theorem qrun24x13 (v0 : V) : yesB (L11h v0 (.i .u8 13) (.i .i64 24)) = true := by kernel_rfl
theorem qrun25x97 (v0 : V) : yesB (L11h v0 (.i .u8 97) (.i .i64 25)) = true := by kernel_rfl
theorem qrun27x23 (v0 : V) : yesB (L11h v0 (.i .u8 23) (.i .i64 27)) = true := by kernel_rfl
theorem qrun29x31 (v0 : V) : yesB (L11h v0 (.i .u8 31) (.i .i64 29)) = true := by kernel_rfl
end
end Go.AM
