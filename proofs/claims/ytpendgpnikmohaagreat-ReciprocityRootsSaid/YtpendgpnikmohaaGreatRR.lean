/- Texts of the functions in the machine, and its runs. -/
import Derived.Test.YtpendgpnikmohaaGreatR49
set_option maxRecDepth 1000000
set_option linter.unusedVariables false
namespace Go.AM
noncomputable section
def fin : V → St → R := fun v S => some (v, S)
theorem run0_0 : yesB (F5 (.i .u8 0) (.i .u8 0) S0 fin) = true := by kernel_rfl
theorem run0_1 : yesB (F5 (.i .u8 0) (.i .u8 1) S0 fin) = true := by kernel_rfl
theorem run0_2 : yesB (F5 (.i .u8 0) (.i .u8 2) S0 fin) = true := by kernel_rfl
theorem run1_0 : yesB (F5 (.i .u8 1) (.i .u8 0) S0 fin) = true := by kernel_rfl
theorem run1_1 : yesB (F5 (.i .u8 1) (.i .u8 1) S0 fin) = true := by kernel_rfl
theorem run1_2 : yesB (F5 (.i .u8 1) (.i .u8 2) S0 fin) = true := by kernel_rfl
theorem run2_0 : yesB (F5 (.i .u8 2) (.i .u8 0) S0 fin) = true := by kernel_rfl
theorem run2_1 : yesB (F5 (.i .u8 2) (.i .u8 1) S0 fin) = true := by kernel_rfl
theorem run2_2 : yesB (F5 (.i .u8 2) (.i .u8 2) S0 fin) = true := by kernel_rfl
theorem run3_0 : yesB (F5 (.i .u8 3) (.i .u8 0) S0 fin) = true := by kernel_rfl
theorem run3_1 : yesB (F5 (.i .u8 3) (.i .u8 1) S0 fin) = true := by kernel_rfl
theorem run4_0 : yesB (F5 (.i .u8 4) (.i .u8 0) S0 fin) = true := by kernel_rfl
theorem run4_1 : yesB (F5 (.i .u8 4) (.i .u8 1) S0 fin) = true := by kernel_rfl
theorem red (n k : Nat) : F5 (.i .u8 n) (.i .u8 k) S0 fin = F5 (.i .u8 (n % 5)) (.i .u8 (k % 3)) S0 fin := by
  simp only [F5, G5, C5, cSeq, cReg, cCond, cRet, cSkip, sayT, pRem_nat, Nat.mod_mod]

end
end Go.AM
