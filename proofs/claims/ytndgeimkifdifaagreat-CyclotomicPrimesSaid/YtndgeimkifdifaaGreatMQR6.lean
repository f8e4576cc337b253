/- Runs of the law. -/
import Derived.Test.YtndgeimkifdifaaGreatMQC
set_option maxRecDepth 1000000
set_option linter.unusedVariables false
namespace Go.AM
open Go.Proofs
noncomputable section
theorem qrun1x3 (v0 : V) : yesB (L11h v0 (.i .u8 3) (.i .i64 1)) = true := by kernel_rfl
theorem qrun1x83 (v0 : V) : yesB (L11h v0 (.i .u8 83) (.i .i64 1)) = true := by kernel_rfl
theorem qrun4x73 (v0 : V) : yesB (L11h v0 (.i .u8 73) (.i .i64 4)) = true := by kernel_rfl
theorem qrun5x67 (v0 : V) : yesB (L11h v0 (.i .u8 67) (.i .i64 5)) = true := by kernel_rfl
theorem qrun8x29 (v0 : V) : yesB (L11h v0 (.i .u8 29) (.i .i64 8)) = true := by kernel_rfl
theorem qrun11x41 (v0 : V) : yesB (L11h v0 (.i .u8 41) (.i .i64 11)) = true := by kernel_rfl
theorem qrun12x89 (v0 : V) : yesB (L11h v0 (.i .u8 89) (.i .i64 12)) = true := by kernel_rfl
theorem qrun14x5 (v0 : V) : yesB (L11h v0 (.i .u8 5) (.i .i64 14)) = true := by kernel_rfl
theorem qrun17x2 (v0 : V) : yesB (L11h v0 (.i .u8 2) (.i .i64 17)) = true := by kernel_rfl
theorem qrun18x7 (v0 : V) : yesB (L11h v0 (.i .u8 7) (.i .i64 18)) = true := by kernel_rfl
theorem qrun19x37 (v0 : V) : yesB (L11h v0 (.i .u8 37) (.i .i64 19)) = true := by kernel_rfl
theorem qrun20x37 (v0 : V) : yesB (L11h v0 (.i .u8 37) (.i .i64 20)) = true := by kernel_rfl
theorem qrun22x83 (v0 : V) : yesB (L11h v0 (.i .u8 83) (.i .i64 22)) = true := by kernel_rfl
theorem qrun24x41 (v0 : V) : yesB (L11h v0 (.i .u8 41) (.i .i64 24)) = true := by kernel_rfl
theorem qrun24x79 (v0 : V) : yesB (L11h v0 (.i .u8 79) (.i .i64 24)) = true := by kernel_rfl
theorem qrun25x13 (v0 : V) : yesB (L11h v0 (.i .u8 13) (.i .i64 25)) = true := by kernel_rfl
theorem qrun29x67 (v0 : V) : yesB (L11h v0 (.i .u8 67) (.i .i64 29)) = true := by kernel_rfl
theorem qrun30x53 (v0 : V) : yesB (L11h v0 (.i .u8 53) (.i .i64 30)) = true := by kernel_rfl
end
end Go.AM
