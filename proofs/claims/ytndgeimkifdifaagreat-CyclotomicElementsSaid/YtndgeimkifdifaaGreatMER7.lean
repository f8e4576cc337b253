/- Runs of the law. -/
import Derived.Test.YtndgeimkifdifaaGreatMEC
set_option maxRecDepth 1000000
set_option linter.unusedVariables false
namespace Go.AM
open Go.Proofs
noncomputable section
theorem er5x1 (kv : V) : yesB (F8z 1 (nn 5) kv S0 fin) = true := by kernel_rfl
theorem er5x3 (kv : V) : yesB (F8z 3 (nn 5) kv S0 fin) = true := by kernel_rfl
theorem er11x10 (kv : V) : yesB (F8z 10 (nn 11) kv S0 fin) = true := by kernel_rfl
theorem er16x7 (kv : V) : yesB (F8z 7 (nn 16) kv S0 fin) = true := by kernel_rfl
theorem er16x8 (kv : V) : yesB (F8z 8 (nn 16) kv S0 fin) = true := by kernel_rfl
theorem er18x5 (kv : V) : yesB (F8z 5 (nn 18) kv S0 fin) = true := by kernel_rfl
theorem er20x1 (kv : V) : yesB (F8z 1 (nn 20) kv S0 fin) = true := by kernel_rfl
theorem er23x1 (kv : V) : yesB (F8z 1 (nn 23) kv S0 fin) = true := by kernel_rfl
theorem er23x6 (kv : V) : yesB (F8z 6 (nn 23) kv S0 fin) = true := by kernel_rfl
theorem er23x13 (kv : V) : yesB (F8z 13 (nn 23) kv S0 fin) = true := by kernel_rfl
theorem er24x6 (kv : V) : yesB (F8z 6 (nn 24) kv S0 fin) = true := by kernel_rfl
theorem er24x14 (kv : V) : yesB (F8z 14 (nn 24) kv S0 fin) = true := by kernel_rfl
theorem er26x6 (kv : V) : yesB (F8z 6 (nn 26) kv S0 fin) = true := by kernel_rfl
theorem er26x10 (kv : V) : yesB (F8z 10 (nn 26) kv S0 fin) = true := by kernel_rfl
theorem er26x21 (kv : V) : yesB (F8z 21 (nn 26) kv S0 fin) = true := by kernel_rfl
theorem er27x5 (kv : V) : yesB (F8z 5 (nn 27) kv S0 fin) = true := by kernel_rfl
theorem er27x9 (kv : V) : yesB (F8z 9 (nn 27) kv S0 fin) = true := by kernel_rfl
theorem er27x10 (kv : V) : yesB (F8z 10 (nn 27) kv S0 fin) = true := by kernel_rfl
theorem er27x26 (kv : V) : yesB (F8z 26 (nn 27) kv S0 fin) = true := by kernel_rfl
theorem er30x12 (kv : V) : yesB (F8z 12 (nn 30) kv S0 fin) = true := by kernel_rfl
theorem er30x16 (kv : V) : yesB (F8z 16 (nn 30) kv S0 fin) = true := by kernel_rfl
theorem er30x23 (kv : V) : yesB (F8z 23 (nn 30) kv S0 fin) = true := by kernel_rfl
theorem er30x25 (kv : V) : yesB (F8z 25 (nn 30) kv S0 fin) = true := by kernel_rfl
theorem er32x4 (kv : V) : yesB (F8z 4 (nn 32) kv S0 fin) = true := by kernel_rfl
theorem er33x30 (kv : V) : yesB (F8z 30 (nn 33) kv S0 fin) = true := by kernel_rfl
theorem er36x2 (kv : V) : yesB (F8z 2 (nn 36) kv S0 fin) = true := by kernel_rfl
theorem er36x7 (kv : V) : yesB (F8z 7 (nn 36) kv S0 fin) = true := by kernel_rfl
theorem er39x17 (kv : V) : yesB (F8z 17 (nn 39) kv S0 fin) = true := by kernel_rfl
theorem er39x20 (kv : V) : yesB (F8z 20 (nn 39) kv S0 fin) = true := by kernel_rfl
theorem er40x3 (kv : V) : yesB (F8z 3 (nn 40) kv S0 fin) = true := by kernel_rfl
theorem er42x15 (kv : V) : yesB (F8z 15 (nn 42) kv S0 fin) = true := by kernel_rfl
theorem er42x18 (kv : V) : yesB (F8z 18 (nn 42) kv S0 fin) = true := by kernel_rfl
theorem er42x19 (kv : V) : yesB (F8z 19 (nn 42) kv S0 fin) = true := by kernel_rfl
theorem er42x28 (kv : V) : yesB (F8z 28 (nn 42) kv S0 fin) = true := by kernel_rfl
theorem er44x2 (kv : V) : yesB (F8z 2 (nn 44) kv S0 fin) = true := by kernel_rfl
theorem er44x21 (kv : V) : yesB (F8z 21 (nn 44) kv S0 fin) = true := by kernel_rfl
theorem er44x40 (kv : V) : yesB (F8z 40 (nn 44) kv S0 fin) = true := by kernel_rfl
theorem er45x9 (kv : V) : yesB (F8z 9 (nn 45) kv S0 fin) = true := by kernel_rfl
theorem er46x8 (kv : V) : yesB (F8z 8 (nn 46) kv S0 fin) = true := by kernel_rfl
theorem er46x26 (kv : V) : yesB (F8z 26 (nn 46) kv S0 fin) = true := by kernel_rfl
theorem er48x16 (kv : V) : yesB (F8z 16 (nn 48) kv S0 fin) = true := by kernel_rfl
theorem er48x19 (kv : V) : yesB (F8z 19 (nn 48) kv S0 fin) = true := by kernel_rfl
theorem er48x23 (kv : V) : yesB (F8z 23 (nn 48) kv S0 fin) = true := by kernel_rfl
theorem er48x38 (kv : V) : yesB (F8z 38 (nn 48) kv S0 fin) = true := by kernel_rfl
theorem er50x37 (kv : V) : yesB (F8z 37 (nn 50) kv S0 fin) = true := by kernel_rfl
theorem er52x14 (kv : V) : yesB (F8z 14 (nn 52) kv S0 fin) = true := by kernel_rfl
theorem er52x29 (kv : V) : yesB (F8z 29 (nn 52) kv S0 fin) = true := by kernel_rfl
theorem er54x3 (kv : V) : yesB (F8z 3 (nn 54) kv S0 fin) = true := by kernel_rfl
theorem er54x11 (kv : V) : yesB (F8z 11 (nn 54) kv S0 fin) = true := by kernel_rfl
theorem er54x34 (kv : V) : yesB (F8z 34 (nn 54) kv S0 fin) = true := by kernel_rfl
theorem er54x40 (kv : V) : yesB (F8z 40 (nn 54) kv S0 fin) = true := by kernel_rfl
theorem er56x2 (kv : V) : yesB (F8z 2 (nn 56) kv S0 fin) = true := by kernel_rfl
theorem er56x6 (kv : V) : yesB (F8z 6 (nn 56) kv S0 fin) = true := by kernel_rfl
theorem er56x21 (kv : V) : yesB (F8z 21 (nn 56) kv S0 fin) = true := by kernel_rfl
theorem er56x55 (kv : V) : yesB (F8z 55 (nn 56) kv S0 fin) = true := by kernel_rfl
theorem er60x19 (kv : V) : yesB (F8z 19 (nn 60) kv S0 fin) = true := by kernel_rfl
theorem er60x20 (kv : V) : yesB (F8z 20 (nn 60) kv S0 fin) = true := by kernel_rfl
theorem er60x36 (kv : V) : yesB (F8z 36 (nn 60) kv S0 fin) = true := by kernel_rfl
theorem er66x9 (kv : V) : yesB (F8z 9 (nn 66) kv S0 fin) = true := by kernel_rfl
theorem er66x44 (kv : V) : yesB (F8z 44 (nn 66) kv S0 fin) = true := by kernel_rfl
theorem er66x50 (kv : V) : yesB (F8z 50 (nn 66) kv S0 fin) = true := by kernel_rfl
theorem er67x0 (kv : V) : yesB (F8z 0 (nn 67) kv S0 fin) = true := by kernel_rfl
theorem er70x4 (kv : V) : yesB (F8z 4 (nn 70) kv S0 fin) = true := by kernel_rfl
theorem er70x35 (kv : V) : yesB (F8z 35 (nn 70) kv S0 fin) = true := by kernel_rfl
theorem er70x62 (kv : V) : yesB (F8z 62 (nn 70) kv S0 fin) = true := by kernel_rfl
theorem er72x22 (kv : V) : yesB (F8z 22 (nn 72) kv S0 fin) = true := by kernel_rfl
theorem er72x39 (kv : V) : yesB (F8z 39 (nn 72) kv S0 fin) = true := by kernel_rfl
theorem er75x0 (kv : V) : yesB (F8z 0 (nn 75) kv S0 fin) = true := by kernel_rfl
theorem er78x55 (kv : V) : yesB (F8z 55 (nn 78) kv S0 fin) = true := by kernel_rfl
theorem er78x64 (kv : V) : yesB (F8z 64 (nn 78) kv S0 fin) = true := by kernel_rfl
theorem er78x67 (kv : V) : yesB (F8z 67 (nn 78) kv S0 fin) = true := by kernel_rfl
theorem er78x74 (kv : V) : yesB (F8z 74 (nn 78) kv S0 fin) = true := by kernel_rfl
theorem er84x10 (kv : V) : yesB (F8z 10 (nn 84) kv S0 fin) = true := by kernel_rfl
theorem er84x14 (kv : V) : yesB (F8z 14 (nn 84) kv S0 fin) = true := by kernel_rfl
theorem er84x18 (kv : V) : yesB (F8z 18 (nn 84) kv S0 fin) = true := by kernel_rfl
theorem er84x31 (kv : V) : yesB (F8z 31 (nn 84) kv S0 fin) = true := by kernel_rfl
theorem er84x41 (kv : V) : yesB (F8z 41 (nn 84) kv S0 fin) = true := by kernel_rfl
theorem er84x61 (kv : V) : yesB (F8z 61 (nn 84) kv S0 fin) = true := by kernel_rfl
theorem er90x52 (kv : V) : yesB (F8z 52 (nn 90) kv S0 fin) = true := by kernel_rfl
theorem er137x0 (kv : V) : yesB (F8z 0 (nn 137) kv S0 fin) = true := by kernel_rfl
theorem er154x0 (kv : V) : yesB (F8z 0 (nn 154) kv S0 fin) = true := by kernel_rfl
theorem er180x0 (kv : V) : yesB (F8z 0 (nn 180) kv S0 fin) = true := by kernel_rfl
theorem er211x0 (kv : V) : yesB (F8z 0 (nn 211) kv S0 fin) = true := by kernel_rfl
theorem er223x0 (kv : V) : yesB (F8z 0 (nn 223) kv S0 fin) = true := by kernel_rfl
theorem er236x0 (kv : V) : yesB (F8z 0 (nn 236) kv S0 fin) = true := by kernel_rfl
theorem er245x0 (kv : V) : yesB (F8z 0 (nn 245) kv S0 fin) = true := by kernel_rfl
end
end Go.AM
