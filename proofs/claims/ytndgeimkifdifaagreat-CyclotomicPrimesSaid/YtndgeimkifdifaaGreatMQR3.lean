/- Runs of the law. -/
import Derived.Test.YtndgeimkifdifaaGreatMQC
set_option maxRecDepth 1000000
set_option linter.unusedVariables false
namespace Go.AM
open Go.Proofs
noncomputable section
theorem qrun4x67 (v0 : V) : yesB (L11h v0 (.i .u8 67) (.i .i64 4)) = true := by kernel_rfl
theorem qrun5x2 (v0 : V) : yesB (L11h v0 (.i .u8 2) (.i .i64 5)) = true := by kernel_rfl
theorem qrun6x17 (v0 : V) : yesB (L11h v0 (.i .u8 17) (.i .i64 6)) = true := by kernel_rfl
theorem qrun6x47 (v0 : V) : yesB (L11h v0 (.i .u8 47) (.i .i64 6)) = true := by kernel_rfl
theorem qrun9x89 (v0 : V) : yesB (L11h v0 (.i .u8 89) (.i .i64 9)) = true := by kernel_rfl
theorem qrun11x79 (v0 : V) : yesB (L11h v0 (.i .u8 79) (.i .i64 11)) = true := by kernel_rfl
theorem qrun15x43 (v0 : V) : yesB (L11h v0 (.i .u8 43) (.i .i64 15)) = true := by kernel_rfl
theorem qrun16x19 (v0 : V) : yesB (L11h v0 (.i .u8 19) (.i .i64 16)) = true := by kernel_rfl
theorem qrun16x31 (v0 : V) : yesB (L11h v0 (.i .u8 31) (.i .i64 16)) = true := by kernel_rfl
theorem qrun18x29 (v0 : V) : yesB (L11h v0 (.i .u8 29) (.i .i64 18)) = true := by kernel_rfl
theorem qrun20x67 (v0 : V) : yesB (L11h v0 (.i .u8 67) (.i .i64 20)) = true := by kernel_rfl
theorem qrun25x2 (v0 : V) : yesB (L11h v0 (.i .u8 2) (.i .i64 25)) = true := by kernel_rfl
theorem qrun25x17 (v0 : V) : yesB (L11h v0 (.i .u8 17) (.i .i64 25)) = true := by kernel_rfl
theorem qrun25x41 (v0 : V) : yesB (L11h v0 (.i .u8 41) (.i .i64 25)) = true := by kernel_rfl
theorem qrun28x19 (v0 : V) : yesB (L11h v0 (.i .u8 19) (.i .i64 28)) = true := by kernel_rfl
theorem qrun29x61 (v0 : V) : yesB (L11h v0 (.i .u8 61) (.i .i64 29)) = true := by kernel_rfl
theorem qrun30x61 (v0 : V) : yesB (L11h v0 (.i .u8 61) (.i .i64 30)) = true := by kernel_rfl
end
end Go.AM
