/- Runs of the law. -/
import Derived.Test.YtndgeimkifdifaaGreatMQC
set_option maxRecDepth 1000000
set_option linter.unusedVariables false
namespace Go.AM
open Go.Proofs
noncomputable section
theorem qrun4x17 (v0 : V) : yesB (L11h v0 (.i .u8 17) (.i .i64 4)) = true := by kernel_rfl
theorem qrun6x13 (v0 : V) : yesB (L11h v0 (.i .u8 13) (.i .i64 6)) = true := by kernel_rfl
theorem qrun6x61 (v0 : V) : yesB (L11h v0 (.i .u8 61) (.i .i64 6)) = true := by kernel_rfl
theorem qrun7x79 (v0 : V) : yesB (L11h v0 (.i .u8 79) (.i .i64 7)) = true := by kernel_rfl
theorem qrun10x47 (v0 : V) : yesB (L11h v0 (.i .u8 47) (.i .i64 10)) = true := by kernel_rfl
theorem qrun11x89 (v0 : V) : yesB (L11h v0 (.i .u8 89) (.i .i64 11)) = true := by kernel_rfl
theorem qrun12x17 (v0 : V) : yesB (L11h v0 (.i .u8 17) (.i .i64 12)) = true := by kernel_rfl
theorem qrun16x73 (v0 : V) : yesB (L11h v0 (.i .u8 73) (.i .i64 16)) = true := by kernel_rfl
theorem qrun19x7 (v0 : V) : yesB (L11h v0 (.i .u8 7) (.i .i64 19)) = true := by kernel_rfl
theorem qrun19x97 (v0 : V) : yesB (L11h v0 (.i .u8 97) (.i .i64 19)) = true := by kernel_rfl
theorem qrun22x3 (v0 : V) : yesB (L11h v0 (.i .u8 3) (.i .i64 22)) = true := by kernel_rfl
theorem qrun24x43 (v0 : V) : yesB (L11h v0 (.i .u8 43) (.i .i64 24)) = true := by kernel_rfl
theorem qrun25x7 (v0 : V) : yesB (L11h v0 (.i .u8 7) (.i .i64 25)) = true := by kernel_rfl
theorem qrun26x53 (v0 : V) : yesB (L11h v0 (.i .u8 53) (.i .i64 26)) = true := by kernel_rfl
theorem qrun27x31 (v0 : V) : yesB (L11h v0 (.i .u8 31) (.i .i64 27)) = true := by kernel_rfl
theorem qrun29x2 (v0 : V) : yesB (L11h v0 (.i .u8 2) (.i .i64 29)) = true := by kernel_rfl
theorem qrun30x17 (v0 : V) : yesB (L11h v0 (.i .u8 17) (.i .i64 30)) = true := by kernel_rfl
end
end Go.AM
