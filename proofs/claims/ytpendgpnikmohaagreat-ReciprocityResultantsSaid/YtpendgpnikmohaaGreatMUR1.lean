/- Runs of the law. -/
import Derived.Test.YtpendgpnikmohaaGreatMUB
set_option maxRecDepth 1000000
set_option linter.unusedVariables false
namespace Go.AM
open Go.Proofs
noncomputable section
theorem urun3x5 : yesB (F9h (.i .i64 3) (.i .i64 5) S0 fin) = true := by kernel_rfl
theorem urun3x17 : yesB (F9h (.i .i64 3) (.i .i64 17) S0 fin) = true := by kernel_rfl
theorem urun3x31 : yesB (F9h (.i .i64 3) (.i .i64 31) S0 fin) = true := by kernel_rfl
theorem urun5x11 : yesB (F9h (.i .i64 5) (.i .i64 11) S0 fin) = true := by kernel_rfl
theorem urun5x23 : yesB (F9h (.i .i64 5) (.i .i64 23) S0 fin) = true := by kernel_rfl
theorem urun7x5 : yesB (F9h (.i .i64 7) (.i .i64 5) S0 fin) = true := by kernel_rfl
theorem urun7x17 : yesB (F9h (.i .i64 7) (.i .i64 17) S0 fin) = true := by kernel_rfl
theorem urun7x31 : yesB (F9h (.i .i64 7) (.i .i64 31) S0 fin) = true := by kernel_rfl
theorem urun11x11 : yesB (F9h (.i .i64 11) (.i .i64 11) S0 fin) = true := by kernel_rfl
theorem urun11x23 : yesB (F9h (.i .i64 11) (.i .i64 23) S0 fin) = true := by kernel_rfl
theorem urun13x5 : yesB (F9h (.i .i64 13) (.i .i64 5) S0 fin) = true := by kernel_rfl
theorem urun13x17 : yesB (F9h (.i .i64 13) (.i .i64 17) S0 fin) = true := by kernel_rfl
theorem urun13x31 : yesB (F9h (.i .i64 13) (.i .i64 31) S0 fin) = true := by kernel_rfl
theorem urun17x11 : yesB (F9h (.i .i64 17) (.i .i64 11) S0 fin) = true := by kernel_rfl
theorem urun17x23 : yesB (F9h (.i .i64 17) (.i .i64 23) S0 fin) = true := by kernel_rfl
theorem urun19x5 : yesB (F9h (.i .i64 19) (.i .i64 5) S0 fin) = true := by kernel_rfl
theorem urun19x17 : yesB (F9h (.i .i64 19) (.i .i64 17) S0 fin) = true := by kernel_rfl
theorem urun19x31 : yesB (F9h (.i .i64 19) (.i .i64 31) S0 fin) = true := by kernel_rfl
theorem urun23x11 : yesB (F9h (.i .i64 23) (.i .i64 11) S0 fin) = true := by kernel_rfl
theorem urun23x23 : yesB (F9h (.i .i64 23) (.i .i64 23) S0 fin) = true := by kernel_rfl
theorem urun29x5 : yesB (F9h (.i .i64 29) (.i .i64 5) S0 fin) = true := by kernel_rfl
theorem urun29x17 : yesB (F9h (.i .i64 29) (.i .i64 17) S0 fin) = true := by kernel_rfl
theorem urun29x31 : yesB (F9h (.i .i64 29) (.i .i64 31) S0 fin) = true := by kernel_rfl
theorem urun31x11 : yesB (F9h (.i .i64 31) (.i .i64 11) S0 fin) = true := by kernel_rfl
theorem urun31x23 : yesB (F9h (.i .i64 31) (.i .i64 23) S0 fin) = true := by kernel_rfl
end
end Go.AM
