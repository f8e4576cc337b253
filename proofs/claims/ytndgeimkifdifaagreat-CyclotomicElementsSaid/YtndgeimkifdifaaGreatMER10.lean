/- Runs of the law. -/
import Derived.Test.YtndgeimkifdifaaGreatMEC
set_option maxRecDepth 1000000
set_option linter.unusedVariables false
namespace Go.AM
open Go.Proofs
noncomputable section
theorem er9x2 (kv : V) : yesB (F8z 2 (nn 9) kv S0 fin) = true := by kernel_rfl
theorem er14x2 (kv : V) : yesB (F8z 2 (nn 14) kv S0 fin) = true := by kernel_rfl
theorem er16x14 (kv : V) : yesB (F8z 14 (nn 16) kv S0 fin) = true := by kernel_rfl
theorem er17x0 (kv : V) : yesB (F8z 0 (nn 17) kv S0 fin) = true := by kernel_rfl
theorem er18x11 (kv : V) : yesB (F8z 11 (nn 18) kv S0 fin) = true := by kernel_rfl
theorem er19x4 (kv : V) : yesB (F8z 4 (nn 19) kv S0 fin) = true := by kernel_rfl
theorem er22x14 (kv : V) : yesB (F8z 14 (nn 22) kv S0 fin) = true := by kernel_rfl
theorem er23x2 (kv : V) : yesB (F8z 2 (nn 23) kv S0 fin) = true := by kernel_rfl
theorem er23x12 (kv : V) : yesB (F8z 12 (nn 23) kv S0 fin) = true := by kernel_rfl
theorem er24x9 (kv : V) : yesB (F8z 9 (nn 24) kv S0 fin) = true := by kernel_rfl
theorem er25x13 (kv : V) : yesB (F8z 13 (nn 25) kv S0 fin) = true := by kernel_rfl
theorem er26x2 (kv : V) : yesB (F8z 2 (nn 26) kv S0 fin) = true := by kernel_rfl
theorem er27x6 (kv : V) : yesB (F8z 6 (nn 27) kv S0 fin) = true := by kernel_rfl
theorem er27x13 (kv : V) : yesB (F8z 13 (nn 27) kv S0 fin) = true := by kernel_rfl
theorem er27x18 (kv : V) : yesB (F8z 18 (nn 27) kv S0 fin) = true := by kernel_rfl
theorem er28x16 (kv : V) : yesB (F8z 16 (nn 28) kv S0 fin) = true := by kernel_rfl
theorem er28x18 (kv : V) : yesB (F8z 18 (nn 28) kv S0 fin) = true := by kernel_rfl
theorem er30x3 (kv : V) : yesB (F8z 3 (nn 30) kv S0 fin) = true := by kernel_rfl
theorem er30x8 (kv : V) : yesB (F8z 8 (nn 30) kv S0 fin) = true := by kernel_rfl
theorem er31x0 (kv : V) : yesB (F8z 0 (nn 31) kv S0 fin) = true := by kernel_rfl
theorem er32x2 (kv : V) : yesB (F8z 2 (nn 32) kv S0 fin) = true := by kernel_rfl
theorem er32x28 (kv : V) : yesB (F8z 28 (nn 32) kv S0 fin) = true := by kernel_rfl
theorem er34x3 (kv : V) : yesB (F8z 3 (nn 34) kv S0 fin) = true := by kernel_rfl
theorem er34x9 (kv : V) : yesB (F8z 9 (nn 34) kv S0 fin) = true := by kernel_rfl
theorem er34x25 (kv : V) : yesB (F8z 25 (nn 34) kv S0 fin) = true := by kernel_rfl
theorem er34x31 (kv : V) : yesB (F8z 31 (nn 34) kv S0 fin) = true := by kernel_rfl
theorem er34x33 (kv : V) : yesB (F8z 33 (nn 34) kv S0 fin) = true := by kernel_rfl
theorem er35x9 (kv : V) : yesB (F8z 9 (nn 35) kv S0 fin) = true := by kernel_rfl
theorem er35x29 (kv : V) : yesB (F8z 29 (nn 35) kv S0 fin) = true := by kernel_rfl
theorem er36x28 (kv : V) : yesB (F8z 28 (nn 36) kv S0 fin) = true := by kernel_rfl
theorem er38x15 (kv : V) : yesB (F8z 15 (nn 38) kv S0 fin) = true := by kernel_rfl
theorem er38x17 (kv : V) : yesB (F8z 17 (nn 38) kv S0 fin) = true := by kernel_rfl
theorem er40x5 (kv : V) : yesB (F8z 5 (nn 40) kv S0 fin) = true := by kernel_rfl
theorem er42x1 (kv : V) : yesB (F8z 1 (nn 42) kv S0 fin) = true := by kernel_rfl
theorem er42x6 (kv : V) : yesB (F8z 6 (nn 42) kv S0 fin) = true := by kernel_rfl
theorem er44x17 (kv : V) : yesB (F8z 17 (nn 44) kv S0 fin) = true := by kernel_rfl
theorem er44x32 (kv : V) : yesB (F8z 32 (nn 44) kv S0 fin) = true := by kernel_rfl
theorem er46x18 (kv : V) : yesB (F8z 18 (nn 46) kv S0 fin) = true := by kernel_rfl
theorem er46x30 (kv : V) : yesB (F8z 30 (nn 46) kv S0 fin) = true := by kernel_rfl
theorem er48x20 (kv : V) : yesB (F8z 20 (nn 48) kv S0 fin) = true := by kernel_rfl
theorem er48x40 (kv : V) : yesB (F8z 40 (nn 48) kv S0 fin) = true := by kernel_rfl
theorem er48x47 (kv : V) : yesB (F8z 47 (nn 48) kv S0 fin) = true := by kernel_rfl
theorem er50x5 (kv : V) : yesB (F8z 5 (nn 50) kv S0 fin) = true := by kernel_rfl
theorem er50x7 (kv : V) : yesB (F8z 7 (nn 50) kv S0 fin) = true := by kernel_rfl
theorem er50x29 (kv : V) : yesB (F8z 29 (nn 50) kv S0 fin) = true := by kernel_rfl
theorem er50x45 (kv : V) : yesB (F8z 45 (nn 50) kv S0 fin) = true := by kernel_rfl
theorem er52x22 (kv : V) : yesB (F8z 22 (nn 52) kv S0 fin) = true := by kernel_rfl
theorem er52x50 (kv : V) : yesB (F8z 50 (nn 52) kv S0 fin) = true := by kernel_rfl
theorem er54x7 (kv : V) : yesB (F8z 7 (nn 54) kv S0 fin) = true := by kernel_rfl
theorem er56x26 (kv : V) : yesB (F8z 26 (nn 56) kv S0 fin) = true := by kernel_rfl
theorem er56x37 (kv : V) : yesB (F8z 37 (nn 56) kv S0 fin) = true := by kernel_rfl
theorem er56x46 (kv : V) : yesB (F8z 46 (nn 56) kv S0 fin) = true := by kernel_rfl
theorem er56x47 (kv : V) : yesB (F8z 47 (nn 56) kv S0 fin) = true := by kernel_rfl
theorem er60x18 (kv : V) : yesB (F8z 18 (nn 60) kv S0 fin) = true := by kernel_rfl
theorem er60x42 (kv : V) : yesB (F8z 42 (nn 60) kv S0 fin) = true := by kernel_rfl
theorem er66x10 (kv : V) : yesB (F8z 10 (nn 66) kv S0 fin) = true := by kernel_rfl
theorem er70x18 (kv : V) : yesB (F8z 18 (nn 70) kv S0 fin) = true := by kernel_rfl
theorem er70x30 (kv : V) : yesB (F8z 30 (nn 70) kv S0 fin) = true := by kernel_rfl
theorem er70x36 (kv : V) : yesB (F8z 36 (nn 70) kv S0 fin) = true := by kernel_rfl
theorem er70x43 (kv : V) : yesB (F8z 43 (nn 70) kv S0 fin) = true := by kernel_rfl
theorem er70x53 (kv : V) : yesB (F8z 53 (nn 70) kv S0 fin) = true := by kernel_rfl
theorem er72x34 (kv : V) : yesB (F8z 34 (nn 72) kv S0 fin) = true := by kernel_rfl
theorem er72x42 (kv : V) : yesB (F8z 42 (nn 72) kv S0 fin) = true := by kernel_rfl
theorem er73x0 (kv : V) : yesB (F8z 0 (nn 73) kv S0 fin) = true := by kernel_rfl
theorem er78x39 (kv : V) : yesB (F8z 39 (nn 78) kv S0 fin) = true := by kernel_rfl
theorem er78x44 (kv : V) : yesB (F8z 44 (nn 78) kv S0 fin) = true := by kernel_rfl
theorem er78x52 (kv : V) : yesB (F8z 52 (nn 78) kv S0 fin) = true := by kernel_rfl
theorem er78x75 (kv : V) : yesB (F8z 75 (nn 78) kv S0 fin) = true := by kernel_rfl
theorem er84x6 (kv : V) : yesB (F8z 6 (nn 84) kv S0 fin) = true := by kernel_rfl
theorem er84x26 (kv : V) : yesB (F8z 26 (nn 84) kv S0 fin) = true := by kernel_rfl
theorem er90x10 (kv : V) : yesB (F8z 10 (nn 90) kv S0 fin) = true := by kernel_rfl
theorem er90x14 (kv : V) : yesB (F8z 14 (nn 90) kv S0 fin) = true := by kernel_rfl
theorem er90x23 (kv : V) : yesB (F8z 23 (nn 90) kv S0 fin) = true := by kernel_rfl
theorem er90x55 (kv : V) : yesB (F8z 55 (nn 90) kv S0 fin) = true := by kernel_rfl
theorem er90x65 (kv : V) : yesB (F8z 65 (nn 90) kv S0 fin) = true := by kernel_rfl
theorem er90x87 (kv : V) : yesB (F8z 87 (nn 90) kv S0 fin) = true := by kernel_rfl
theorem er98x0 (kv : V) : yesB (F8z 0 (nn 98) kv S0 fin) = true := by kernel_rfl
theorem er128x0 (kv : V) : yesB (F8z 0 (nn 128) kv S0 fin) = true := by kernel_rfl
theorem er146x0 (kv : V) : yesB (F8z 0 (nn 146) kv S0 fin) = true := by kernel_rfl
theorem er186x0 (kv : V) : yesB (F8z 0 (nn 186) kv S0 fin) = true := by kernel_rfl
theorem er203x0 (kv : V) : yesB (F8z 0 (nn 203) kv S0 fin) = true := by kernel_rfl
theorem er208x0 (kv : V) : yesB (F8z 0 (nn 208) kv S0 fin) = true := by kernel_rfl
theorem er216x0 (kv : V) : yesB (F8z 0 (nn 216) kv S0 fin) = true := by kernel_rfl
theorem er224x0 (kv : V) : yesB (F8z 0 (nn 224) kv S0 fin) = true := by kernel_rfl
theorem er235x0 (kv : V) : yesB (F8z 0 (nn 235) kv S0 fin) = true := by kernel_rfl
end
end Go.AM
