/- Runs of the law. -/
import Derived.Test.YtndgeimkifdifaaGreatMQC
set_option maxRecDepth 1000000
set_option linter.unusedVariables false
namespace Go.AM
open Go.Proofs
noncomputable section
theorem qrun4x19 (v0 : V) : yesB (L11h v0 (.i .u8 19) (.i .i64 4)) = true := by kernel_rfl
theorem qrun6x37 (v0 : V) : yesB (L11h v0 (.i .u8 37) (.i .i64 6)) = true := by kernel_rfl
theorem qrun6x89 (v0 : V) : yesB (L11h v0 (.i .u8 89) (.i .i64 6)) = true := by kernel_rfl
theorem qrun7x89 (v0 : V) : yesB (L11h v0 (.i .u8 89) (.i .i64 7)) = true := by kernel_rfl
theorem qrun9x11 (v0 : V) : yesB (L11h v0 (.i .u8 11) (.i .i64 9)) = true := by kernel_rfl
theorem qrun10x13 (v0 : V) : yesB (L11h v0 (.i .u8 13) (.i .i64 10)) = true := by kernel_rfl
theorem qrun12x19 (v0 : V) : yesB (L11h v0 (.i .u8 19) (.i .i64 12)) = true := by kernel_rfl
theorem qrun14x43 (v0 : V) : yesB (L11h v0 (.i .u8 43) (.i .i64 14)) = true := by kernel_rfl
theorem qrun15x41 (v0 : V) : yesB (L11h v0 (.i .u8 41) (.i .i64 15)) = true := by kernel_rfl
theorem qrun17x47 (v0 : V) : yesB (L11h v0 (.i .u8 47) (.i .i64 17)) = true := by kernel_rfl
theorem qrun17x73 (v0 : V) : yesB (L11h v0 (.i .u8 73) (.i .i64 17)) = true := by kernel_rfl
theorem qrun21x11 (v0 : V) : yesB (L11h v0 (.i .u8 11) (.i .i64 21)) = true := by kernel_rfl
theorem qrun21x97 (v0 : V) : yesB (L11h v0 (.i .u8 97) (.i .i64 21)) = true := by kernel_rfl
theorem qrun22x19 (v0 : V) : yesB (L11h v0 (.i .u8 19) (.i .i64 22)) = true := by kernel_rfl
theorem qrun23x83 (v0 : V) : yesB (L11h v0 (.i .u8 83) (.i .i64 23)) = true := by kernel_rfl
theorem qrun25x83 (v0 : V) : yesB (L11h v0 (.i .u8 83) (.i .i64 25)) = true := by kernel_rfl
theorem qrun30x7 (v0 : V) : yesB (L11h v0 (.i .u8 7) (.i .i64 30)) = true := by kernel_rfl
end
end Go.AM
