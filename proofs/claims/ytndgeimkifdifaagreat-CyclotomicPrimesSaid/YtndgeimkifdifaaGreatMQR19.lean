/- Runs of the law. -/
import Derived.Test.YtndgeimkifdifaaGreatMQC
set_option maxRecDepth 1000000
set_option linter.unusedVariables false
namespace Go.AM
open Go.Proofs
noncomputable section
theorem qrun2x7 (v0 : V) : yesB (L11h v0 (.i .u8 7) (.i .i64 2)) = true := by kernel_rfl
theorem qrun3x89 (v0 : V) : yesB (L11h v0 (.i .u8 89) (.i .i64 3)) = true := by kernel_rfl
theorem qrun4x47 (v0 : V) : yesB (L11h v0 (.i .u8 47) (.i .i64 4)) = true := by kernel_rfl
theorem qrun7x29 (v0 : V) : yesB (L11h v0 (.i .u8 29) (.i .i64 7)) = true := by kernel_rfl
theorem qrun7x53 (v0 : V) : yesB (L11h v0 (.i .u8 53) (.i .i64 7)) = true := by kernel_rfl
theorem qrun8x17 (v0 : V) : yesB (L11h v0 (.i .u8 17) (.i .i64 8)) = true := by kernel_rfl
theorem qrun10x79 (v0 : V) : yesB (L11h v0 (.i .u8 79) (.i .i64 10)) = true := by kernel_rfl
theorem qrun12x5 (v0 : V) : yesB (L11h v0 (.i .u8 5) (.i .i64 12)) = true := by kernel_rfl
theorem qrun15x37 (v0 : V) : yesB (L11h v0 (.i .u8 37) (.i .i64 15)) = true := by kernel_rfl
theorem qrun15x89 (v0 : V) : yesB (L11h v0 (.i .u8 89) (.i .i64 15)) = true := by kernel_rfl
theorem qrun17x19 (v0 : V) : yesB (L11h v0 (.i .u8 19) (.i .i64 17)) = true := by kernel_rfl
theorem qrun21x71 (v0 : V) : yesB (L11h v0 (.i .u8 71) (.i .i64 21)) = true := by kernel_rfl
theorem qrun22x97 (v0 : V) : yesB (L11h v0 (.i .u8 97) (.i .i64 22)) = true := by kernel_rfl
theorem qrun24x31 (v0 : V) : yesB (L11h v0 (.i .u8 31) (.i .i64 24)) = true := by kernel_rfl
theorem qrun25x89 (v0 : V) : yesB (L11h v0 (.i .u8 89) (.i .i64 25)) = true := by kernel_rfl
theorem qrun26x17 (v0 : V) : yesB (L11h v0 (.i .u8 17) (.i .i64 26)) = true := by kernel_rfl
theorem qrun27x17 (v0 : V) : yesB (L11h v0 (.i .u8 17) (.i .i64 27)) = true := by kernel_rfl
theorem qrun29x53 (v0 : V) : yesB (L11h v0 (.i .u8 53) (.i .i64 29)) = true := by kernel_rfl
end
end Go.AM
