/- Runs of the law. -/
import Derived.Test.YtpendgpnikmohaaGreatMUB
set_option maxRecDepth 1000000
set_option linter.unusedVariables false
namespace Go.AM
open Go.Proofs
noncomputable section
theorem urun3x7 : yesB (F9h (.i .i64 3) (.i .i64 7) S0 fin) = true := by kernel_rfl
theorem urun3x19 : yesB (F9h (.i .i64 3) (.i .i64 19) S0 fin) = true := by kernel_rfl
theorem urun5x3 : yesB (F9h (.i .i64 5) (.i .i64 3) S0 fin) = true := by kernel_rfl
theorem urun5x13 : yesB (F9h (.i .i64 5) (.i .i64 13) S0 fin) = true := by kernel_rfl
theorem urun5x29 : yesB (F9h (.i .i64 5) (.i .i64 29) S0 fin) = true := by kernel_rfl
theorem urun7x7 : yesB (F9h (.i .i64 7) (.i .i64 7) S0 fin) = true := by kernel_rfl
theorem urun7x19 : yesB (F9h (.i .i64 7) (.i .i64 19) S0 fin) = true := by kernel_rfl
theorem urun11x3 : yesB (F9h (.i .i64 11) (.i .i64 3) S0 fin) = true := by kernel_rfl
theorem urun11x13 : yesB (F9h (.i .i64 11) (.i .i64 13) S0 fin) = true := by kernel_rfl
theorem urun11x29 : yesB (F9h (.i .i64 11) (.i .i64 29) S0 fin) = true := by kernel_rfl
theorem urun13x7 : yesB (F9h (.i .i64 13) (.i .i64 7) S0 fin) = true := by kernel_rfl
theorem urun13x19 : yesB (F9h (.i .i64 13) (.i .i64 19) S0 fin) = true := by kernel_rfl
theorem urun17x3 : yesB (F9h (.i .i64 17) (.i .i64 3) S0 fin) = true := by kernel_rfl
theorem urun17x13 : yesB (F9h (.i .i64 17) (.i .i64 13) S0 fin) = true := by kernel_rfl
theorem urun17x29 : yesB (F9h (.i .i64 17) (.i .i64 29) S0 fin) = true := by kernel_rfl
theorem urun19x7 : yesB (F9h (.i .i64 19) (.i .i64 7) S0 fin) = true := by kernel_rfl
theorem urun19x19 : yesB (F9h (.i .i64 19) (.i .i64 19) S0 fin) = true := by kernel_rfl
theorem urun23x3 : yesB (F9h (.i .i64 23) (.i .i64 3) S0 fin) = true := by kernel_rfl
theorem urun23x13 : yesB (F9h (.i .i64 23) (.i .i64 13) S0 fin) = true := by kernel_rfl
theorem urun23x29 : yesB (F9h (.i .i64 23) (.i .i64 29) S0 fin) = true := by kernel_rfl
theorem urun29x7 : yesB (F9h (.i .i64 29) (.i .i64 7) S0 fin) = true := by kernel_rfl
theorem urun29x19 : yesB (F9h (.i .i64 29) (.i .i64 19) S0 fin) = true := by kernel_rfl
theorem urun31x3 : yesB (F9h (.i .i64 31) (.i .i64 3) S0 fin) = true := by kernel_rfl
theorem urun31x13 : yesB (F9h (.i .i64 31) (.i .i64 13) S0 fin) = true := by kernel_rfl
theorem urun31x29 : yesB (F9h (.i .i64 31) (.i .i64 29) S0 fin) = true := by kernel_rfl
end
end Go.AM
