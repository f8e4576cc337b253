/- Runs of the law. -/
import Derived.Test.YtndgeimkifdifaaGreatMQC
set_option maxRecDepth 1000000
set_option linter.unusedVariables false
namespace Go.AM
open Go.Proofs
noncomputable section
theorem qrun1x19 (v0 : V) : yesB (L11h v0 (.i .u8 19) (.i .i64 1)) = true := by kernel_rfl
theorem qrun2x31 (v0 : V) : yesB (L11h v0 (.i .u8 31) (.i .i64 2)) = true := by kernel_rfl
theorem qrun3x17 (v0 : V) : yesB (L11h v0 (.i .u8 17) (.i .i64 3)) = true := by kernel_rfl
theorem qrun5x53 (v0 : V) : yesB (L11h v0 (.i .u8 53) (.i .i64 5)) = true := by kernel_rfl
theorem qrun7x37 (v0 : V) : yesB (L11h v0 (.i .u8 37) (.i .i64 7)) = true := by kernel_rfl
theorem qrun9x83 (v0 : V) : yesB (L11h v0 (.i .u8 83) (.i .i64 9)) = true := by kernel_rfl
theorem qrun10x11 (v0 : V) : yesB (L11h v0 (.i .u8 11) (.i .i64 10)) = true := by kernel_rfl
theorem qrun12x97 (v0 : V) : yesB (L11h v0 (.i .u8 97) (.i .i64 12)) = true := by kernel_rfl
theorem qrun13x17 (v0 : V) : yesB (L11h v0 (.i .u8 17) (.i .i64 13)) = true := by kernel_rfl
theorem qrun14x31 (v0 : V) : yesB (L11h v0 (.i .u8 31) (.i .i64 14)) = true := by kernel_rfl
theorem qrun20x47 (v0 : V) : yesB (L11h v0 (.i .u8 47) (.i .i64 20)) = true := by kernel_rfl
theorem qrun21x31 (v0 : V) : yesB (L11h v0 (.i .u8 31) (.i .i64 21)) = true := by kernel_rfl
theorem qrun21x79 (v0 : V) : yesB (L11h v0 (.i .u8 79) (.i .i64 21)) = true := by kernel_rfl
theorem qrun24x17 (v0 : V) : yesB (L11h v0 (.i .u8 17) (.i .i64 24)) = true := by kernel_rfl
theorem qrun25x67 (v0 : V) : yesB (L11h v0 (.i .u8 67) (.i .i64 25)) = true := by kernel_rfl
theorem qrun27x43 (v0 : V) : yesB (L11h v0 (.i .u8 43) (.i .i64 27)) = true := by kernel_rfl
theorem qrun27x53 (v0 : V) : yesB (L11h v0 (.i .u8 53) (.i .i64 27)) = true := by kernel_rfl
theorem qrun29x5 (v0 : V) : yesB (L11h v0 (.i .u8 5) (.i .i64 29)) = true := by kernel_rfl
end
end Go.AM
