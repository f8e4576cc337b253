/- Runs of the law. -/
import Derived.Test.YtndgeimkifdifaaGreatMQC
set_option maxRecDepth 1000000
set_option linter.unusedVariables false
namespace Go.AM
open Go.Proofs
noncomputable section
theorem qrun4x5 (v0 : V) : yesB (L11h v0 (.i .u8 5) (.i .i64 4)) = true := by kernel_rfl
theorem qrun6x19 (v0 : V) : yesB (L11h v0 (.i .u8 19) (.i .i64 6)) = true := by kernel_rfl
theorem qrun6x29 (v0 : V) : yesB (L11h v0 (.i .u8 29) (.i .i64 6)) = true := by kernel_rfl
theorem qrun7x11 (v0 : V) : yesB (L11h v0 (.i .u8 11) (.i .i64 7)) = true := by kernel_rfl
theorem qrun10x7 (v0 : V) : yesB (L11h v0 (.i .u8 7) (.i .i64 10)) = true := by kernel_rfl
theorem qrun12x31 (v0 : V) : yesB (L11h v0 (.i .u8 31) (.i .i64 12)) = true := by kernel_rfl
theorem qrun13x11 (v0 : V) : yesB (L11h v0 (.i .u8 11) (.i .i64 13)) = true := by kernel_rfl
theorem qrun14x73 (v0 : V) : yesB (L11h v0 (.i .u8 73) (.i .i64 14)) = true := by kernel_rfl
theorem qrun16x23 (v0 : V) : yesB (L11h v0 (.i .u8 23) (.i .i64 16)) = true := by kernel_rfl
theorem qrun19x41 (v0 : V) : yesB (L11h v0 (.i .u8 41) (.i .i64 19)) = true := by kernel_rfl
theorem qrun21x47 (v0 : V) : yesB (L11h v0 (.i .u8 47) (.i .i64 21)) = true := by kernel_rfl
theorem qrun21x67 (v0 : V) : yesB (L11h v0 (.i .u8 67) (.i .i64 21)) = true := by kernel_rfl
theorem qrun24x37 (v0 : V) : yesB (L11h v0 (.i .u8 37) (.i .i64 24)) = true := by kernel_rfl
theorem qrun27x67 (v0 : V) : yesB (L11h v0 (.i .u8 67) (.i .i64 27)) = true := by kernel_rfl
theorem qrun29x89 (v0 : V) : yesB (L11h v0 (.i .u8 89) (.i .i64 29)) = true := by kernel_rfl
theorem qrun30x71 (v0 : V) : yesB (L11h v0 (.i .u8 71) (.i .i64 30)) = true := by kernel_rfl
theorem qrun30x97 (v0 : V) : yesB (L11h v0 (.i .u8 97) (.i .i64 30)) = true := by kernel_rfl
end
end Go.AM
