/- Runs beyond the reference. -/
import Derived.Test.YtpendgpnikmohaaGreatMHB
set_option maxRecDepth 1000000
set_option linter.unusedVariables false
namespace Go.AM
open Go.Proofs
noncomputable section
theorem hrun43 : yesB (F3h (.i .i64 43) S0 fin) = true := by kernel_rfl
theorem hrun45 : yesB (F3h (.i .i64 45) S0 fin) = true := by kernel_rfl
theorem hrun47 : yesB (F3h (.i .i64 47) S0 fin) = true := by kernel_rfl
theorem hrun49 : yesB (F3h (.i .i64 49) S0 fin) = true := by kernel_rfl
theorem hrun51 : yesB (F3h (.i .i64 51) S0 fin) = true := by kernel_rfl
theorem hrun53 : yesB (F3h (.i .i64 53) S0 fin) = true := by kernel_rfl
theorem hrun55 : yesB (F3h (.i .i64 55) S0 fin) = true := by kernel_rfl
theorem hrun57 : yesB (F3h (.i .i64 57) S0 fin) = true := by kernel_rfl
theorem hrun59 : yesB (F3h (.i .i64 59) S0 fin) = true := by kernel_rfl
theorem hrun61 : yesB (F3h (.i .i64 61) S0 fin) = true := by kernel_rfl
theorem hrun63 : yesB (F3h (.i .i64 63) S0 fin) = true := by kernel_rfl
theorem hrun65 : yesB (F3h (.i .i64 65) S0 fin) = true := by kernel_rfl
theorem hrun67 : yesB (F3h (.i .i64 67) S0 fin) = true := by kernel_rfl
theorem hrun69 : yesB (F3h (.i .i64 69) S0 fin) = true := by kernel_rfl
theorem hrun71 : yesB (F3h (.i .i64 71) S0 fin) = true := by kernel_rfl
theorem hrun73 : yesB (F3h (.i .i64 73) S0 fin) = true := by kernel_rfl
theorem hrun75 : yesB (F3h (.i .i64 75) S0 fin) = true := by kernel_rfl
theorem hrun77 : yesB (F3h (.i .i64 77) S0 fin) = true := by kernel_rfl
theorem hrun79 : yesB (F3h (.i .i64 79) S0 fin) = true := by kernel_rfl
theorem hrun81 : yesB (F3h (.i .i64 81) S0 fin) = true := by kernel_rfl
theorem hrun83 : yesB (F3h (.i .i64 83) S0 fin) = true := by kernel_rfl
theorem hrun85 : yesB (F3h (.i .i64 85) S0 fin) = true := by kernel_rfl
end
end Go.AM
