/- Runs of the law. -/
import Derived.Test.YtndgeimkifdifaaGreatMQC
set_option maxRecDepth 1000000
set_option linter.unusedVariables false
namespace Go.AM
open Go.Proofs
noncomputable section
theorem qrun1x11 (v0 : V) : yesB (L11h v0 (.i .u8 11) (.i .i64 1)) = true := by kernel_rfl
theorem qrun2x17 (v0 : V) : yesB (L11h v0 (.i .u8 17) (.i .i64 2)) = true := by kernel_rfl
theorem qrun3x37 (v0 : V) : yesB (L11h v0 (.i .u8 37) (.i .i64 3)) = true := by kernel_rfl
theorem qrun7x13 (v0 : V) : yesB (L11h v0 (.i .u8 13) (.i .i64 7)) = true := by kernel_rfl
theorem qrun7x61 (v0 : V) : yesB (L11h v0 (.i .u8 61) (.i .i64 7)) = true := by kernel_rfl
theorem qrun8x3 (v0 : V) : yesB (L11h v0 (.i .u8 3) (.i .i64 8)) = true := by kernel_rfl
theorem qrun11x97 (v0 : V) : yesB (L11h v0 (.i .u8 97) (.i .i64 11)) = true := by kernel_rfl
theorem qrun12x53 (v0 : V) : yesB (L11h v0 (.i .u8 53) (.i .i64 12)) = true := by kernel_rfl
theorem qrun13x7 (v0 : V) : yesB (L11h v0 (.i .u8 7) (.i .i64 13)) = true := by kernel_rfl
theorem qrun15x17 (v0 : V) : yesB (L11h v0 (.i .u8 17) (.i .i64 15)) = true := by kernel_rfl
theorem qrun18x37 (v0 : V) : yesB (L11h v0 (.i .u8 37) (.i .i64 18)) = true := by kernel_rfl
theorem qrun18x83 (v0 : V) : yesB (L11h v0 (.i .u8 83) (.i .i64 18)) = true := by kernel_rfl
theorem qrun19x2 (v0 : V) : yesB (L11h v0 (.i .u8 2) (.i .i64 19)) = true := by kernel_rfl
theorem qrun22x5 (v0 : V) : yesB (L11h v0 (.i .u8 5) (.i .i64 22)) = true := by kernel_rfl
theorem qrun23x37 (v0 : V) : yesB (L11h v0 (.i .u8 37) (.i .i64 23)) = true := by kernel_rfl
theorem qrun25x79 (v0 : V) : yesB (L11h v0 (.i .u8 79) (.i .i64 25)) = true := by kernel_rfl
theorem qrun27x5 (v0 : V) : yesB (L11h v0 (.i .u8 5) (.i .i64 27)) = true := by kernel_rfl
theorem qrun30x89 (v0 : V) : yesB (L11h v0 (.i .u8 89) (.i .i64 30)) = true := by kernel_rfl
end
end Go.AM
