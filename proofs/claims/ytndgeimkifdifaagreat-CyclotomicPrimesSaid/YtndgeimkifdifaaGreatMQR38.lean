/- Runs of the law. -/
import Derived.Test.YtndgeimkifdifaaGreatMQC
set_option maxRecDepth 1000000
set_option linter.unusedVariables false
namespace Go.AM
open Go.Proofs
noncomputable section
theorem qrun2x13 (v0 : V) : yesB (L11h v0 (.i .u8 13) (.i .i64 2)) = true := by kernel_rfl
theorem qrun3x59 (v0 : V) : yesB (L11h v0 (.i .u8 59) (.i .i64 3)) = true := by kernel_rfl
theorem qrun4x29 (v0 : V) : yesB (L11h v0 (.i .u8 29) (.i .i64 4)) = true := by kernel_rfl
theorem qrun6x97 (v0 : V) : yesB (L11h v0 (.i .u8 97) (.i .i64 6)) = true := by kernel_rfl
theorem qrun7x43 (v0 : V) : yesB (L11h v0 (.i .u8 43) (.i .i64 7)) = true := by kernel_rfl
theorem qrun10x73 (v0 : V) : yesB (L11h v0 (.i .u8 73) (.i .i64 10)) = true := by kernel_rfl
theorem qrun12x67 (v0 : V) : yesB (L11h v0 (.i .u8 67) (.i .i64 12)) = true := by kernel_rfl
theorem qrun13x89 (v0 : V) : yesB (L11h v0 (.i .u8 89) (.i .i64 13)) = true := by kernel_rfl
theorem qrun15x11 (v0 : V) : yesB (L11h v0 (.i .u8 11) (.i .i64 15)) = true := by kernel_rfl
theorem qrun16x29 (v0 : V) : yesB (L11h v0 (.i .u8 29) (.i .i64 16)) = true := by kernel_rfl
theorem qrun21x61 (v0 : V) : yesB (L11h v0 (.i .u8 61) (.i .i64 21)) = true := by kernel_rfl
theorem qrun23x5 (v0 : V) : yesB (L11h v0 (.i .u8 5) (.i .i64 23)) = true := by kernel_rfl
theorem qrun23x11 (v0 : V) : yesB (L11h v0 (.i .u8 11) (.i .i64 23)) = true := by kernel_rfl
theorem qrun24x83 (v0 : V) : yesB (L11h v0 (.i .u8 83) (.i .i64 24)) = true := by kernel_rfl
theorem qrun27x19 (v0 : V) : yesB (L11h v0 (.i .u8 19) (.i .i64 27)) = true := by kernel_rfl
theorem qrun27x83 (v0 : V) : yesB (L11h v0 (.i .u8 83) (.i .i64 27)) = true := by kernel_rfl
theorem qrun28x5 (v0 : V) : yesB (L11h v0 (.i .u8 5) (.i .i64 28)) = true := by kernel_rfl
theorem qrun28x13 (v0 : V) : yesB (L11h v0 (.i .u8 13) (.i .i64 28)) = true := by kernel_rfl
end
end Go.AM
