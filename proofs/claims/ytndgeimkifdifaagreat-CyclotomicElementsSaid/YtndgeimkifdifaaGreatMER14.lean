/- Runs of the law. -/
import Derived.Test.YtndgeimkifdifaaGreatMEC
set_option maxRecDepth 1000000
set_option linter.unusedVariables false
namespace Go.AM
open Go.Proofs
noncomputable section
theorem er6x3 (kv : V) : yesB (F8z 3 (nn 6) kv S0 fin) = true := by kernel_rfl
theorem er6x5 (kv : V) : yesB (F8z 5 (nn 6) kv S0 fin) = true := by kernel_rfl
theorem er11x2 (kv : V) : yesB (F8z 2 (nn 11) kv S0 fin) = true := by kernel_rfl
theorem er11x7 (kv : V) : yesB (F8z 7 (nn 11) kv S0 fin) = true := by kernel_rfl
theorem er14x9 (kv : V) : yesB (F8z 9 (nn 14) kv S0 fin) = true := by kernel_rfl
theorem er14x13 (kv : V) : yesB (F8z 13 (nn 14) kv S0 fin) = true := by kernel_rfl
theorem er17x1 (kv : V) : yesB (F8z 1 (nn 17) kv S0 fin) = true := by kernel_rfl
theorem er18x0 (kv : V) : yesB (F8z 0 (nn 18) kv S0 fin) = true := by kernel_rfl
theorem er18x2 (kv : V) : yesB (F8z 2 (nn 18) kv S0 fin) = true := by kernel_rfl
theorem er18x7 (kv : V) : yesB (F8z 7 (nn 18) kv S0 fin) = true := by kernel_rfl
theorem er20x10 (kv : V) : yesB (F8z 10 (nn 20) kv S0 fin) = true := by kernel_rfl
theorem er20x17 (kv : V) : yesB (F8z 17 (nn 20) kv S0 fin) = true := by kernel_rfl
theorem er22x6 (kv : V) : yesB (F8z 6 (nn 22) kv S0 fin) = true := by kernel_rfl
theorem er22x20 (kv : V) : yesB (F8z 20 (nn 22) kv S0 fin) = true := by kernel_rfl
theorem er23x7 (kv : V) : yesB (F8z 7 (nn 23) kv S0 fin) = true := by kernel_rfl
theorem er23x21 (kv : V) : yesB (F8z 21 (nn 23) kv S0 fin) = true := by kernel_rfl
theorem er24x3 (kv : V) : yesB (F8z 3 (nn 24) kv S0 fin) = true := by kernel_rfl
theorem er24x13 (kv : V) : yesB (F8z 13 (nn 24) kv S0 fin) = true := by kernel_rfl
theorem er25x11 (kv : V) : yesB (F8z 11 (nn 25) kv S0 fin) = true := by kernel_rfl
theorem er32x12 (kv : V) : yesB (F8z 12 (nn 32) kv S0 fin) = true := by kernel_rfl
theorem er32x27 (kv : V) : yesB (F8z 27 (nn 32) kv S0 fin) = true := by kernel_rfl
theorem er34x19 (kv : V) : yesB (F8z 19 (nn 34) kv S0 fin) = true := by kernel_rfl
theorem er35x18 (kv : V) : yesB (F8z 18 (nn 35) kv S0 fin) = true := by kernel_rfl
theorem er36x20 (kv : V) : yesB (F8z 20 (nn 36) kv S0 fin) = true := by kernel_rfl
theorem er36x27 (kv : V) : yesB (F8z 27 (nn 36) kv S0 fin) = true := by kernel_rfl
theorem er38x0 (kv : V) : yesB (F8z 0 (nn 38) kv S0 fin) = true := by kernel_rfl
theorem er38x4 (kv : V) : yesB (F8z 4 (nn 38) kv S0 fin) = true := by kernel_rfl
theorem er38x11 (kv : V) : yesB (F8z 11 (nn 38) kv S0 fin) = true := by kernel_rfl
theorem er39x26 (kv : V) : yesB (F8z 26 (nn 39) kv S0 fin) = true := by kernel_rfl
theorem er39x35 (kv : V) : yesB (F8z 35 (nn 39) kv S0 fin) = true := by kernel_rfl
theorem er40x14 (kv : V) : yesB (F8z 14 (nn 40) kv S0 fin) = true := by kernel_rfl
theorem er42x9 (kv : V) : yesB (F8z 9 (nn 42) kv S0 fin) = true := by kernel_rfl
theorem er44x28 (kv : V) : yesB (F8z 28 (nn 44) kv S0 fin) = true := by kernel_rfl
theorem er44x30 (kv : V) : yesB (F8z 30 (nn 44) kv S0 fin) = true := by kernel_rfl
theorem er44x36 (kv : V) : yesB (F8z 36 (nn 44) kv S0 fin) = true := by kernel_rfl
theorem er45x13 (kv : V) : yesB (F8z 13 (nn 45) kv S0 fin) = true := by kernel_rfl
theorem er45x34 (kv : V) : yesB (F8z 34 (nn 45) kv S0 fin) = true := by kernel_rfl
theorem er45x40 (kv : V) : yesB (F8z 40 (nn 45) kv S0 fin) = true := by kernel_rfl
theorem er46x23 (kv : V) : yesB (F8z 23 (nn 46) kv S0 fin) = true := by kernel_rfl
theorem er48x21 (kv : V) : yesB (F8z 21 (nn 48) kv S0 fin) = true := by kernel_rfl
theorem er48x25 (kv : V) : yesB (F8z 25 (nn 48) kv S0 fin) = true := by kernel_rfl
theorem er50x2 (kv : V) : yesB (F8z 2 (nn 50) kv S0 fin) = true := by kernel_rfl
theorem er50x17 (kv : V) : yesB (F8z 17 (nn 50) kv S0 fin) = true := by kernel_rfl
theorem er50x27 (kv : V) : yesB (F8z 27 (nn 50) kv S0 fin) = true := by kernel_rfl
theorem er52x5 (kv : V) : yesB (F8z 5 (nn 52) kv S0 fin) = true := by kernel_rfl
theorem er52x28 (kv : V) : yesB (F8z 28 (nn 52) kv S0 fin) = true := by kernel_rfl
theorem er52x34 (kv : V) : yesB (F8z 34 (nn 52) kv S0 fin) = true := by kernel_rfl
theorem er54x14 (kv : V) : yesB (F8z 14 (nn 54) kv S0 fin) = true := by kernel_rfl
theorem er56x38 (kv : V) : yesB (F8z 38 (nn 56) kv S0 fin) = true := by kernel_rfl
theorem er56x51 (kv : V) : yesB (F8z 51 (nn 56) kv S0 fin) = true := by kernel_rfl
theorem er60x3 (kv : V) : yesB (F8z 3 (nn 60) kv S0 fin) = true := by kernel_rfl
theorem er66x2 (kv : V) : yesB (F8z 2 (nn 66) kv S0 fin) = true := by kernel_rfl
theorem er66x16 (kv : V) : yesB (F8z 16 (nn 66) kv S0 fin) = true := by kernel_rfl
theorem er66x20 (kv : V) : yesB (F8z 20 (nn 66) kv S0 fin) = true := by kernel_rfl
theorem er70x12 (kv : V) : yesB (F8z 12 (nn 70) kv S0 fin) = true := by kernel_rfl
theorem er70x24 (kv : V) : yesB (F8z 24 (nn 70) kv S0 fin) = true := by kernel_rfl
theorem er70x34 (kv : V) : yesB (F8z 34 (nn 70) kv S0 fin) = true := by kernel_rfl
theorem er70x47 (kv : V) : yesB (F8z 47 (nn 70) kv S0 fin) = true := by kernel_rfl
theorem er72x27 (kv : V) : yesB (F8z 27 (nn 72) kv S0 fin) = true := by kernel_rfl
theorem er72x43 (kv : V) : yesB (F8z 43 (nn 72) kv S0 fin) = true := by kernel_rfl
theorem er72x45 (kv : V) : yesB (F8z 45 (nn 72) kv S0 fin) = true := by kernel_rfl
theorem er72x62 (kv : V) : yesB (F8z 62 (nn 72) kv S0 fin) = true := by kernel_rfl
theorem er72x67 (kv : V) : yesB (F8z 67 (nn 72) kv S0 fin) = true := by kernel_rfl
theorem er78x5 (kv : V) : yesB (F8z 5 (nn 78) kv S0 fin) = true := by kernel_rfl
theorem er78x6 (kv : V) : yesB (F8z 6 (nn 78) kv S0 fin) = true := by kernel_rfl
theorem er78x23 (kv : V) : yesB (F8z 23 (nn 78) kv S0 fin) = true := by kernel_rfl
theorem er78x28 (kv : V) : yesB (F8z 28 (nn 78) kv S0 fin) = true := by kernel_rfl
theorem er78x40 (kv : V) : yesB (F8z 40 (nn 78) kv S0 fin) = true := by kernel_rfl
theorem er78x43 (kv : V) : yesB (F8z 43 (nn 78) kv S0 fin) = true := by kernel_rfl
theorem er78x70 (kv : V) : yesB (F8z 70 (nn 78) kv S0 fin) = true := by kernel_rfl
theorem er78x77 (kv : V) : yesB (F8z 77 (nn 78) kv S0 fin) = true := by kernel_rfl
theorem er84x15 (kv : V) : yesB (F8z 15 (nn 84) kv S0 fin) = true := by kernel_rfl
theorem er84x50 (kv : V) : yesB (F8z 50 (nn 84) kv S0 fin) = true := by kernel_rfl
theorem er84x58 (kv : V) : yesB (F8z 58 (nn 84) kv S0 fin) = true := by kernel_rfl
theorem er84x67 (kv : V) : yesB (F8z 67 (nn 84) kv S0 fin) = true := by kernel_rfl
theorem er90x0 (kv : V) : yesB (F8z 0 (nn 90) kv S0 fin) = true := by kernel_rfl
theorem er90x6 (kv : V) : yesB (F8z 6 (nn 90) kv S0 fin) = true := by kernel_rfl
theorem er90x21 (kv : V) : yesB (F8z 21 (nn 90) kv S0 fin) = true := by kernel_rfl
theorem er90x28 (kv : V) : yesB (F8z 28 (nn 90) kv S0 fin) = true := by kernel_rfl
theorem er90x79 (kv : V) : yesB (F8z 79 (nn 90) kv S0 fin) = true := by kernel_rfl
theorem er166x0 (kv : V) : yesB (F8z 0 (nn 166) kv S0 fin) = true := by kernel_rfl
theorem er202x0 (kv : V) : yesB (F8z 0 (nn 202) kv S0 fin) = true := by kernel_rfl
theorem er207x0 (kv : V) : yesB (F8z 0 (nn 207) kv S0 fin) = true := by kernel_rfl
theorem er233x0 (kv : V) : yesB (F8z 0 (nn 233) kv S0 fin) = true := by kernel_rfl
theorem er239x0 (kv : V) : yesB (F8z 0 (nn 239) kv S0 fin) = true := by kernel_rfl
end
end Go.AM
