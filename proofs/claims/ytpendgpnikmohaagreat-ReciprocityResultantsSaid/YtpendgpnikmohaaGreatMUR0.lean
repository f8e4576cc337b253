/- Runs of the law. -/
import Derived.Test.YtpendgpnikmohaaGreatMUB
set_option maxRecDepth 1000000
set_option linter.unusedVariables false
namespace Go.AM
open Go.Proofs
noncomputable section
theorem urun3x3 : yesB (F9h (.i .i64 3) (.i .i64 3) S0 fin) = true := by kernel_rfl
theorem urun3x13 : yesB (F9h (.i .i64 3) (.i .i64 13) S0 fin) = true := by kernel_rfl
theorem urun3x29 : yesB (F9h (.i .i64 3) (.i .i64 29) S0 fin) = true := by kernel_rfl
theorem urun5x7 : yesB (F9h (.i .i64 5) (.i .i64 7) S0 fin) = true := by kernel_rfl
theorem urun5x19 : yesB (F9h (.i .i64 5) (.i .i64 19) S0 fin) = true := by kernel_rfl
theorem urun7x3 : yesB (F9h (.i .i64 7) (.i .i64 3) S0 fin) = true := by kernel_rfl
theorem urun7x13 : yesB (F9h (.i .i64 7) (.i .i64 13) S0 fin) = true := by kernel_rfl
theorem urun7x29 : yesB (F9h (.i .i64 7) (.i .i64 29) S0 fin) = true := by kernel_rfl
theorem urun11x7 : yesB (F9h (.i .i64 11) (.i .i64 7) S0 fin) = true := by kernel_rfl
theorem urun11x19 : yesB (F9h (.i .i64 11) (.i .i64 19) S0 fin) = true := by kernel_rfl
theorem urun13x3 : yesB (F9h (.i .i64 13) (.i .i64 3) S0 fin) = true := by kernel_rfl
theorem urun13x13 : yesB (F9h (.i .i64 13) (.i .i64 13) S0 fin) = true := by kernel_rfl
theorem urun13x29 : yesB (F9h (.i .i64 13) (.i .i64 29) S0 fin) = true := by kernel_rfl
theorem urun17x7 : yesB (F9h (.i .i64 17) (.i .i64 7) S0 fin) = true := by kernel_rfl
theorem urun17x19 : yesB (F9h (.i .i64 17) (.i .i64 19) S0 fin) = true := by kernel_rfl
theorem urun19x3 : yesB (F9h (.i .i64 19) (.i .i64 3) S0 fin) = true := by kernel_rfl
theorem urun19x13 : yesB (F9h (.i .i64 19) (.i .i64 13) S0 fin) = true := by kernel_rfl
theorem urun19x29 : yesB (F9h (.i .i64 19) (.i .i64 29) S0 fin) = true := by kernel_rfl
theorem urun23x7 : yesB (F9h (.i .i64 23) (.i .i64 7) S0 fin) = true := by kernel_rfl
theorem urun23x19 : yesB (F9h (.i .i64 23) (.i .i64 19) S0 fin) = true := by kernel_rfl
theorem urun29x3 : yesB (F9h (.i .i64 29) (.i .i64 3) S0 fin) = true := by kernel_rfl
theorem urun29x13 : yesB (F9h (.i .i64 29) (.i .i64 13) S0 fin) = true := by kernel_rfl
theorem urun29x29 : yesB (F9h (.i .i64 29) (.i .i64 29) S0 fin) = true := by kernel_rfl
theorem urun31x7 : yesB (F9h (.i .i64 31) (.i .i64 7) S0 fin) = true := by kernel_rfl
theorem urun31x19 : yesB (F9h (.i .i64 31) (.i .i64 19) S0 fin) = true := by kernel_rfl
end
end Go.AM
