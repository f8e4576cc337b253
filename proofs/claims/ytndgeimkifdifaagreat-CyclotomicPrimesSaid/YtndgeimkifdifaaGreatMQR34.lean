/- Runs of the law. -/
import Derived.Test.YtndgeimkifdifaaGreatMQC
set_option maxRecDepth 1000000
set_option linter.unusedVariables false
namespace Go.AM
open Go.Proofs
noncomputable section
theorem qrun3x71 (v0 : V) : yesB (L11h v0 (.i .u8 71) (.i .i64 3)) = true := by kernel_rfl
theorem qrun4x31 (v0 : V) : yesB (L11h v0 (.i .u8 31) (.i .i64 4)) = true := by kernel_rfl
theorem qrun5x13 (v0 : V) : yesB (L11h v0 (.i .u8 13) (.i .i64 5)) = true := by kernel_rfl
theorem qrun8x97 (v0 : V) : yesB (L11h v0 (.i .u8 97) (.i .i64 8)) = true := by kernel_rfl
theorem qrun13x29 (v0 : V) : yesB (L11h v0 (.i .u8 29) (.i .i64 13)) = true := by kernel_rfl
theorem qrun13x71 (v0 : V) : yesB (L11h v0 (.i .u8 71) (.i .i64 13)) = true := by kernel_rfl
theorem qrun13x79 (v0 : V) : yesB (L11h v0 (.i .u8 79) (.i .i64 13)) = true := by kernel_rfl
theorem qrun14x29 (v0 : V) : yesB (L11h v0 (.i .u8 29) (.i .i64 14)) = true := by kernel_rfl
theorem qrun15x29 (v0 : V) : yesB (L11h v0 (.i .u8 29) (.i .i64 15)) = true := by kernel_rfl
theorem qrun16x17 (v0 : V) : yesB (L11h v0 (.i .u8 17) (.i .i64 16)) = true := by kernel_rfl
theorem qrun16x79 (v0 : V) : yesB (L11h v0 (.i .u8 79) (.i .i64 16)) = true := by kernel_rfl
theorem qrun17x37 (v0 : V) : yesB (L11h v0 (.i .u8 37) (.i .i64 17)) = true := by kernel_rfl
theorem qrun20x71 (v0 : V) : yesB (L11h v0 (.i .u8 71) (.i .i64 20)) = true := by kernel_rfl
theorem qrun22x17 (v0 : V) : yesB (L11h v0 (.i .u8 17) (.i .i64 22)) = true := by kernel_rfl
theorem qrun23x2 (v0 : V) : yesB (L11h v0 (.i .u8 2) (.i .i64 23)) = true := by kernel_rfl
theorem qrun23x17 (v0 : V) : yesB (L11h v0 (.i .u8 17) (.i .i64 23)) = true := by kernel_rfl
theorem qrun27x89 (v0 : V) : yesB (L11h v0 (.i .u8 89) (.i .i64 27)) = true := by kernel_rfl
end
end Go.AM
