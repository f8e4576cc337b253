/- Runs of the law. -/
import Derived.Test.YtpendgpnikmohaaGreatMUB
set_option maxRecDepth 1000000
set_option linter.unusedVariables false
namespace Go.AM
open Go.Proofs
noncomputable section
theorem urun3x11 : yesB (F9h (.i .i64 3) (.i .i64 11) S0 fin) = true := by kernel_rfl
theorem urun3x23 : yesB (F9h (.i .i64 3) (.i .i64 23) S0 fin) = true := by kernel_rfl
theorem urun5x5 : yesB (F9h (.i .i64 5) (.i .i64 5) S0 fin) = true := by kernel_rfl
theorem urun5x17 : yesB (F9h (.i .i64 5) (.i .i64 17) S0 fin) = true := by kernel_rfl
theorem urun5x31 : yesB (F9h (.i .i64 5) (.i .i64 31) S0 fin) = true := by kernel_rfl
theorem urun7x11 : yesB (F9h (.i .i64 7) (.i .i64 11) S0 fin) = true := by kernel_rfl
theorem urun7x23 : yesB (F9h (.i .i64 7) (.i .i64 23) S0 fin) = true := by kernel_rfl
theorem urun11x5 : yesB (F9h (.i .i64 11) (.i .i64 5) S0 fin) = true := by kernel_rfl
theorem urun11x17 : yesB (F9h (.i .i64 11) (.i .i64 17) S0 fin) = true := by kernel_rfl
theorem urun11x31 : yesB (F9h (.i .i64 11) (.i .i64 31) S0 fin) = true := by kernel_rfl
theorem urun13x11 : yesB (F9h (.i .i64 13) (.i .i64 11) S0 fin) = true := by kernel_rfl
theorem urun13x23 : yesB (F9h (.i .i64 13) (.i .i64 23) S0 fin) = true := by kernel_rfl
theorem urun17x5 : yesB (F9h (.i .i64 17) (.i .i64 5) S0 fin) = true := by kernel_rfl
theorem urun17x17 : yesB (F9h (.i .i64 17) (.i .i64 17) S0 fin) = true := by kernel_rfl
theorem urun17x31 : yesB (F9h (.i .i64 17) (.i .i64 31) S0 fin) = true := by kernel_rfl
theorem urun19x11 : yesB (F9h (.i .i64 19) (.i .i64 11) S0 fin) = true := by kernel_rfl
theorem urun19x23 : yesB (F9h (.i .i64 19) (.i .i64 23) S0 fin) = true := by kernel_rfl
theorem urun23x5 : yesB (F9h (.i .i64 23) (.i .i64 5) S0 fin) = true := by kernel_rfl
theorem urun23x17 : yesB (F9h (.i .i64 23) (.i .i64 17) S0 fin) = true := by kernel_rfl
theorem urun23x31 : yesB (F9h (.i .i64 23) (.i .i64 31) S0 fin) = true := by kernel_rfl
theorem urun29x11 : yesB (F9h (.i .i64 29) (.i .i64 11) S0 fin) = true := by kernel_rfl
theorem urun29x23 : yesB (F9h (.i .i64 29) (.i .i64 23) S0 fin) = true := by kernel_rfl
theorem urun31x5 : yesB (F9h (.i .i64 31) (.i .i64 5) S0 fin) = true := by kernel_rfl
theorem urun31x17 : yesB (F9h (.i .i64 31) (.i .i64 17) S0 fin) = true := by kernel_rfl
theorem urun31x31 : yesB (F9h (.i .i64 31) (.i .i64 31) S0 fin) = true := by kernel_rfl
end
end Go.AM
