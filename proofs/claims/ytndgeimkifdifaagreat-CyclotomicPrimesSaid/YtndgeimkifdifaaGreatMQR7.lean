/- Runs of the law. -/
import Derived.Test.YtndgeimkifdifaaGreatMQC
set_option maxRecDepth 1000000
set_option linter.unusedVariables false
namespace Go.AM
open Go.Proofs
noncomputable section
theorem qrun1x2 (v0 : V) : yesB (L11h v0 (.i .u8 2) (.i .i64 1)) = true := by kernel_rfl
theorem qrun1x89 (v0 : V) : yesB (L11h v0 (.i .u8 89) (.i .i64 1)) = true := by kernel_rfl
theorem qrun4x79 (v0 : V) : yesB (L11h v0 (.i .u8 79) (.i .i64 4)) = true := by kernel_rfl
theorem qrun5x29 (v0 : V) : yesB (L11h v0 (.i .u8 29) (.i .i64 5)) = true := by kernel_rfl
theorem qrun12x37 (v0 : V) : yesB (L11h v0 (.i .u8 37) (.i .i64 12)) = true := by kernel_rfl
theorem qrun12x47 (v0 : V) : yesB (L11h v0 (.i .u8 47) (.i .i64 12)) = true := by kernel_rfl
theorem qrun14x37 (v0 : V) : yesB (L11h v0 (.i .u8 37) (.i .i64 14)) = true := by kernel_rfl
theorem qrun18x5 (v0 : V) : yesB (L11h v0 (.i .u8 5) (.i .i64 18)) = true := by kernel_rfl
theorem qrun20x23 (v0 : V) : yesB (L11h v0 (.i .u8 23) (.i .i64 20)) = true := by kernel_rfl
theorem qrun21x37 (v0 : V) : yesB (L11h v0 (.i .u8 37) (.i .i64 21)) = true := by kernel_rfl
theorem qrun22x79 (v0 : V) : yesB (L11h v0 (.i .u8 79) (.i .i64 22)) = true := by kernel_rfl
theorem qrun24x59 (v0 : V) : yesB (L11h v0 (.i .u8 59) (.i .i64 24)) = true := by kernel_rfl
theorem qrun24x61 (v0 : V) : yesB (L11h v0 (.i .u8 61) (.i .i64 24)) = true := by kernel_rfl
theorem qrun27x2 (v0 : V) : yesB (L11h v0 (.i .u8 2) (.i .i64 27)) = true := by kernel_rfl
theorem qrun27x13 (v0 : V) : yesB (L11h v0 (.i .u8 13) (.i .i64 27)) = true := by kernel_rfl
theorem qrun29x43 (v0 : V) : yesB (L11h v0 (.i .u8 43) (.i .i64 29)) = true := by kernel_rfl
theorem qrun29x59 (v0 : V) : yesB (L11h v0 (.i .u8 59) (.i .i64 29)) = true := by kernel_rfl
theorem qrun30x67 (v0 : V) : yesB (L11h v0 (.i .u8 67) (.i .i64 30)) = true := by kernel_rfl
end
end Go.AM
