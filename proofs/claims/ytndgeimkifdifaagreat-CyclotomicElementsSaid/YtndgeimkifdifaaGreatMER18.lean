/- Runs of the law. -/
import Derived.Test.YtndgeimkifdifaaGreatMEC
set_option maxRecDepth 1000000
set_option linter.unusedVariables false
namespace Go.AM
open Go.Proofs
noncomputable section
theorem er1x0 (kv : V) : yesB (F8z 0 (nn 1) kv S0 fin) = true := by kernel_rfl
theorem er8x5 (kv : V) : yesB (F8z 5 (nn 8) kv S0 fin) = true := by kernel_rfl
theorem er9x0 (kv : V) : yesB (F8z 0 (nn 9) kv S0 fin) = true := by kernel_rfl
theorem er12x10 (kv : V) : yesB (F8z 10 (nn 12) kv S0 fin) = true := by kernel_rfl
theorem er13x2 (kv : V) : yesB (F8z 2 (nn 13) kv S0 fin) = true := by kernel_rfl
theorem er14x7 (kv : V) : yesB (F8z 7 (nn 14) kv S0 fin) = true := by kernel_rfl
theorem er14x10 (kv : V) : yesB (F8z 10 (nn 14) kv S0 fin) = true := by kernel_rfl
theorem er15x9 (kv : V) : yesB (F8z 9 (nn 15) kv S0 fin) = true := by kernel_rfl
theorem er15x10 (kv : V) : yesB (F8z 10 (nn 15) kv S0 fin) = true := by kernel_rfl
theorem er16x2 (kv : V) : yesB (F8z 2 (nn 16) kv S0 fin) = true := by kernel_rfl
theorem er16x6 (kv : V) : yesB (F8z 6 (nn 16) kv S0 fin) = true := by kernel_rfl
theorem er18x13 (kv : V) : yesB (F8z 13 (nn 18) kv S0 fin) = true := by kernel_rfl
theorem er20x0 (kv : V) : yesB (F8z 0 (nn 20) kv S0 fin) = true := by kernel_rfl
theorem er21x3 (kv : V) : yesB (F8z 3 (nn 21) kv S0 fin) = true := by kernel_rfl
theorem er21x17 (kv : V) : yesB (F8z 17 (nn 21) kv S0 fin) = true := by kernel_rfl
theorem er23x9 (kv : V) : yesB (F8z 9 (nn 23) kv S0 fin) = true := by kernel_rfl
theorem er26x20 (kv : V) : yesB (F8z 20 (nn 26) kv S0 fin) = true := by kernel_rfl
theorem er27x12 (kv : V) : yesB (F8z 12 (nn 27) kv S0 fin) = true := by kernel_rfl
theorem er28x10 (kv : V) : yesB (F8z 10 (nn 28) kv S0 fin) = true := by kernel_rfl
theorem er28x15 (kv : V) : yesB (F8z 15 (nn 28) kv S0 fin) = true := by kernel_rfl
theorem er28x21 (kv : V) : yesB (F8z 21 (nn 28) kv S0 fin) = true := by kernel_rfl
theorem er32x29 (kv : V) : yesB (F8z 29 (nn 32) kv S0 fin) = true := by kernel_rfl
theorem er33x5 (kv : V) : yesB (F8z 5 (nn 33) kv S0 fin) = true := by kernel_rfl
theorem er33x19 (kv : V) : yesB (F8z 19 (nn 33) kv S0 fin) = true := by kernel_rfl
theorem er34x29 (kv : V) : yesB (F8z 29 (nn 34) kv S0 fin) = true := by kernel_rfl
theorem er35x6 (kv : V) : yesB (F8z 6 (nn 35) kv S0 fin) = true := by kernel_rfl
theorem er35x26 (kv : V) : yesB (F8z 26 (nn 35) kv S0 fin) = true := by kernel_rfl
theorem er36x10 (kv : V) : yesB (F8z 10 (nn 36) kv S0 fin) = true := by kernel_rfl
theorem er36x34 (kv : V) : yesB (F8z 34 (nn 36) kv S0 fin) = true := by kernel_rfl
theorem er38x22 (kv : V) : yesB (F8z 22 (nn 38) kv S0 fin) = true := by kernel_rfl
theorem er39x4 (kv : V) : yesB (F8z 4 (nn 39) kv S0 fin) = true := by kernel_rfl
theorem er39x33 (kv : V) : yesB (F8z 33 (nn 39) kv S0 fin) = true := by kernel_rfl
theorem er39x38 (kv : V) : yesB (F8z 38 (nn 39) kv S0 fin) = true := by kernel_rfl
theorem er40x32 (kv : V) : yesB (F8z 32 (nn 40) kv S0 fin) = true := by kernel_rfl
theorem er41x0 (kv : V) : yesB (F8z 0 (nn 41) kv S0 fin) = true := by kernel_rfl
theorem er44x24 (kv : V) : yesB (F8z 24 (nn 44) kv S0 fin) = true := by kernel_rfl
theorem er45x36 (kv : V) : yesB (F8z 36 (nn 45) kv S0 fin) = true := by kernel_rfl
theorem er46x2 (kv : V) : yesB (F8z 2 (nn 46) kv S0 fin) = true := by kernel_rfl
theorem er46x3 (kv : V) : yesB (F8z 3 (nn 46) kv S0 fin) = true := by kernel_rfl
theorem er46x12 (kv : V) : yesB (F8z 12 (nn 46) kv S0 fin) = true := by kernel_rfl
theorem er46x17 (kv : V) : yesB (F8z 17 (nn 46) kv S0 fin) = true := by kernel_rfl
theorem er46x37 (kv : V) : yesB (F8z 37 (nn 46) kv S0 fin) = true := by kernel_rfl
theorem er46x44 (kv : V) : yesB (F8z 44 (nn 46) kv S0 fin) = true := by kernel_rfl
theorem er48x5 (kv : V) : yesB (F8z 5 (nn 48) kv S0 fin) = true := by kernel_rfl
theorem er48x7 (kv : V) : yesB (F8z 7 (nn 48) kv S0 fin) = true := by kernel_rfl
theorem er48x18 (kv : V) : yesB (F8z 18 (nn 48) kv S0 fin) = true := by kernel_rfl
theorem er50x1 (kv : V) : yesB (F8z 1 (nn 50) kv S0 fin) = true := by kernel_rfl
theorem er50x3 (kv : V) : yesB (F8z 3 (nn 50) kv S0 fin) = true := by kernel_rfl
theorem er50x31 (kv : V) : yesB (F8z 31 (nn 50) kv S0 fin) = true := by kernel_rfl
theorem er50x46 (kv : V) : yesB (F8z 46 (nn 50) kv S0 fin) = true := by kernel_rfl
theorem er52x1 (kv : V) : yesB (F8z 1 (nn 52) kv S0 fin) = true := by kernel_rfl
theorem er54x1 (kv : V) : yesB (F8z 1 (nn 54) kv S0 fin) = true := by kernel_rfl
theorem er54x39 (kv : V) : yesB (F8z 39 (nn 54) kv S0 fin) = true := by kernel_rfl
theorem er56x4 (kv : V) : yesB (F8z 4 (nn 56) kv S0 fin) = true := by kernel_rfl
theorem er56x10 (kv : V) : yesB (F8z 10 (nn 56) kv S0 fin) = true := by kernel_rfl
theorem er56x23 (kv : V) : yesB (F8z 23 (nn 56) kv S0 fin) = true := by kernel_rfl
theorem er56x43 (kv : V) : yesB (F8z 43 (nn 56) kv S0 fin) = true := by kernel_rfl
theorem er60x15 (kv : V) : yesB (F8z 15 (nn 60) kv S0 fin) = true := by kernel_rfl
theorem er66x26 (kv : V) : yesB (F8z 26 (nn 66) kv S0 fin) = true := by kernel_rfl
theorem er66x40 (kv : V) : yesB (F8z 40 (nn 66) kv S0 fin) = true := by kernel_rfl
theorem er70x31 (kv : V) : yesB (F8z 31 (nn 70) kv S0 fin) = true := by kernel_rfl
theorem er70x39 (kv : V) : yesB (F8z 39 (nn 70) kv S0 fin) = true := by kernel_rfl
theorem er70x45 (kv : V) : yesB (F8z 45 (nn 70) kv S0 fin) = true := by kernel_rfl
theorem er72x15 (kv : V) : yesB (F8z 15 (nn 72) kv S0 fin) = true := by kernel_rfl
theorem er78x48 (kv : V) : yesB (F8z 48 (nn 78) kv S0 fin) = true := by kernel_rfl
theorem er78x61 (kv : V) : yesB (F8z 61 (nn 78) kv S0 fin) = true := by kernel_rfl
theorem er78x71 (kv : V) : yesB (F8z 71 (nn 78) kv S0 fin) = true := by kernel_rfl
theorem er83x0 (kv : V) : yesB (F8z 0 (nn 83) kv S0 fin) = true := by kernel_rfl
theorem er84x27 (kv : V) : yesB (F8z 27 (nn 84) kv S0 fin) = true := by kernel_rfl
theorem er84x38 (kv : V) : yesB (F8z 38 (nn 84) kv S0 fin) = true := by kernel_rfl
theorem er84x59 (kv : V) : yesB (F8z 59 (nn 84) kv S0 fin) = true := by kernel_rfl
theorem er86x0 (kv : V) : yesB (F8z 0 (nn 86) kv S0 fin) = true := by kernel_rfl
theorem er90x7 (kv : V) : yesB (F8z 7 (nn 90) kv S0 fin) = true := by kernel_rfl
theorem er90x37 (kv : V) : yesB (F8z 37 (nn 90) kv S0 fin) = true := by kernel_rfl
theorem er90x47 (kv : V) : yesB (F8z 47 (nn 90) kv S0 fin) = true := by kernel_rfl
theorem er90x81 (kv : V) : yesB (F8z 81 (nn 90) kv S0 fin) = true := by kernel_rfl
theorem er90x84 (kv : V) : yesB (F8z 84 (nn 90) kv S0 fin) = true := by kernel_rfl
theorem er117x0 (kv : V) : yesB (F8z 0 (nn 117) kv S0 fin) = true := by kernel_rfl
theorem er122x0 (kv : V) : yesB (F8z 0 (nn 122) kv S0 fin) = true := by kernel_rfl
theorem er156x0 (kv : V) : yesB (F8z 0 (nn 156) kv S0 fin) = true := by kernel_rfl
theorem er168x0 (kv : V) : yesB (F8z 0 (nn 168) kv S0 fin) = true := by kernel_rfl
theorem er169x0 (kv : V) : yesB (F8z 0 (nn 169) kv S0 fin) = true := by kernel_rfl
theorem er190x0 (kv : V) : yesB (F8z 0 (nn 190) kv S0 fin) = true := by kernel_rfl
theorem er225x0 (kv : V) : yesB (F8z 0 (nn 225) kv S0 fin) = true := by kernel_rfl
theorem er241x0 (kv : V) : yesB (F8z 0 (nn 241) kv S0 fin) = true := by kernel_rfl
theorem er248x0 (kv : V) : yesB (F8z 0 (nn 248) kv S0 fin) = true := by kernel_rfl
end
end Go.AM
