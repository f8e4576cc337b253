/- Runs beyond the reference. -/
import Derived.Test.YtpendgpnikmohaaGreatMHB
set_option maxRecDepth 1000000
set_option linter.unusedVariables false
namespace Go.AM
open Go.Proofs
noncomputable section
theorem hrun87 : yesB (F3h (.i .i64 87) S0 fin) = true := by kernel_rfl
theorem hrun89 : yesB (F3h (.i .i64 89) S0 fin) = true := by kernel_rfl
theorem hrun91 : yesB (F3h (.i .i64 91) S0 fin) = true := by kernel_rfl
theorem hrun93 : yesB (F3h (.i .i64 93) S0 fin) = true := by kernel_rfl
theorem hrun95 : yesB (F3h (.i .i64 95) S0 fin) = true := by kernel_rfl
theorem hrun97 : yesB (F3h (.i .i64 97) S0 fin) = true := by kernel_rfl
theorem hrun99 : yesB (F3h (.i .i64 99) S0 fin) = true := by kernel_rfl
theorem hrun101 : yesB (F3h (.i .i64 101) S0 fin) = true := by kernel_rfl
theorem hrun103 : yesB (F3h (.i .i64 103) S0 fin) = true := by kernel_rfl
theorem hrun105 : yesB (F3h (.i .i64 105) S0 fin) = true := by kernel_rfl
theorem hrun107 : yesB (F3h (.i .i64 107) S0 fin) = true := by kernel_rfl
theorem hrun109 : yesB (F3h (.i .i64 109) S0 fin) = true := by kernel_rfl
theorem hrun111 : yesB (F3h (.i .i64 111) S0 fin) = true := by kernel_rfl
theorem hrun113 : yesB (F3h (.i .i64 113) S0 fin) = true := by kernel_rfl
theorem hrun115 : yesB (F3h (.i .i64 115) S0 fin) = true := by kernel_rfl
theorem hrun117 : yesB (F3h (.i .i64 117) S0 fin) = true := by kernel_rfl
theorem hrun119 : yesB (F3h (.i .i64 119) S0 fin) = true := by kernel_rfl
theorem hrun121 : yesB (F3h (.i .i64 121) S0 fin) = true := by kernel_rfl
theorem hrun123 : yesB (F3h (.i .i64 123) S0 fin) = true := by kernel_rfl
theorem hrun125 : yesB (F3h (.i .i64 125) S0 fin) = true := by kernel_rfl
theorem hrun127 : yesB (F3h (.i .i64 127) S0 fin) = true := by kernel_rfl
theorem hrun129 : yesB (F3h (.i .i64 129) S0 fin) = true := by kernel_rfl
end
end Go.AM
