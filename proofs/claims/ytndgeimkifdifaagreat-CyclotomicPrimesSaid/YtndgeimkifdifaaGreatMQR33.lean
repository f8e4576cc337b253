/- Runs of the law. -/
import Derived.Test.YtndgeimkifdifaaGreatMQC
set_option maxRecDepth 1000000
set_option linter.unusedVariables false
namespace Go.AM
open Go.Proofs
noncomputable section
theorem qrun4x3 (v0 : V) : yesB (L11h v0 (.i .u8 3) (.i .i64 4)) = true := by kernel_rfl
theorem qrun5x43 (v0 : V) : yesB (L11h v0 (.i .u8 43) (.i .i64 5)) = true := by kernel_rfl
theorem qrun6x59 (v0 : V) : yesB (L11h v0 (.i .u8 59) (.i .i64 6)) = true := by kernel_rfl
theorem qrun6x73 (v0 : V) : yesB (L11h v0 (.i .u8 73) (.i .i64 6)) = true := by kernel_rfl
theorem qrun9x79 (v0 : V) : yesB (L11h v0 (.i .u8 79) (.i .i64 9)) = true := by kernel_rfl
theorem qrun10x61 (v0 : V) : yesB (L11h v0 (.i .u8 61) (.i .i64 10)) = true := by kernel_rfl
theorem qrun13x3 (v0 : V) : yesB (L11h v0 (.i .u8 3) (.i .i64 13)) = true := by kernel_rfl
theorem qrun15x71 (v0 : V) : yesB (L11h v0 (.i .u8 71) (.i .i64 15)) = true := by kernel_rfl
theorem qrun17x79 (v0 : V) : yesB (L11h v0 (.i .u8 79) (.i .i64 17)) = true := by kernel_rfl
theorem qrun18x61 (v0 : V) : yesB (L11h v0 (.i .u8 61) (.i .i64 18)) = true := by kernel_rfl
theorem qrun19x83 (v0 : V) : yesB (L11h v0 (.i .u8 83) (.i .i64 19)) = true := by kernel_rfl
theorem qrun19x89 (v0 : V) : yesB (L11h v0 (.i .u8 89) (.i .i64 19)) = true := by kernel_rfl
theorem qrun20x31 (v0 : V) : yesB (L11h v0 (.i .u8 31) (.i .i64 20)) = true := by kernel_rfl
theorem qrun23x41 (v0 : V) : yesB (L11h v0 (.i .u8 41) (.i .i64 23)) = true := by kernel_rfl
theorem qrun28x11 (v0 : V) : yesB (L11h v0 (.i .u8 11) (.i .i64 28)) = true := by kernel_rfl
theorem qrun28x47 (v0 : V) : yesB (L11h v0 (.i .u8 47) (.i .i64 28)) = true := by kernel_rfl
theorem qrun30x23 (v0 : V) : yesB (L11h v0 (.i .u8 23) (.i .i64 30)) = true := by kernel_rfl
end
end Go.AM
