/- Runs of the law. -/
import Derived.Test.YtndgeimkifdifaaGreatMEC
set_option maxRecDepth 1000000
set_option linter.unusedVariables false
namespace Go.AM
open Go.Proofs
noncomputable section
theorem er9x6 (kv : V) : yesB (F8z 6 (nn 9) kv S0 fin) = true := by kernel_rfl
theorem er10x0 (kv : V) : yesB (F8z 0 (nn 10) kv S0 fin) = true := by kernel_rfl
theorem er12x0 (kv : V) : yesB (F8z 0 (nn 12) kv S0 fin) = true := by kernel_rfl
theorem er12x6 (kv : V) : yesB (F8z 6 (nn 12) kv S0 fin) = true := by kernel_rfl
theorem er13x1 (kv : V) : yesB (F8z 1 (nn 13) kv S0 fin) = true := by kernel_rfl
theorem er15x2 (kv : V) : yesB (F8z 2 (nn 15) kv S0 fin) = true := by kernel_rfl
theorem er16x1 (kv : V) : yesB (F8z 1 (nn 16) kv S0 fin) = true := by kernel_rfl
theorem er16x11 (kv : V) : yesB (F8z 11 (nn 16) kv S0 fin) = true := by kernel_rfl
theorem er19x5 (kv : V) : yesB (F8z 5 (nn 19) kv S0 fin) = true := by kernel_rfl
theorem er20x9 (kv : V) : yesB (F8z 9 (nn 20) kv S0 fin) = true := by kernel_rfl
theorem er20x13 (kv : V) : yesB (F8z 13 (nn 20) kv S0 fin) = true := by kernel_rfl
theorem er20x16 (kv : V) : yesB (F8z 16 (nn 20) kv S0 fin) = true := by kernel_rfl
theorem er21x5 (kv : V) : yesB (F8z 5 (nn 21) kv S0 fin) = true := by kernel_rfl
theorem er22x17 (kv : V) : yesB (F8z 17 (nn 22) kv S0 fin) = true := by kernel_rfl
theorem er24x22 (kv : V) : yesB (F8z 22 (nn 24) kv S0 fin) = true := by kernel_rfl
theorem er25x3 (kv : V) : yesB (F8z 3 (nn 25) kv S0 fin) = true := by kernel_rfl
theorem er26x4 (kv : V) : yesB (F8z 4 (nn 26) kv S0 fin) = true := by kernel_rfl
theorem er27x22 (kv : V) : yesB (F8z 22 (nn 27) kv S0 fin) = true := by kernel_rfl
theorem er30x6 (kv : V) : yesB (F8z 6 (nn 30) kv S0 fin) = true := by kernel_rfl
theorem er30x21 (kv : V) : yesB (F8z 21 (nn 30) kv S0 fin) = true := by kernel_rfl
theorem er30x28 (kv : V) : yesB (F8z 28 (nn 30) kv S0 fin) = true := by kernel_rfl
theorem er32x0 (kv : V) : yesB (F8z 0 (nn 32) kv S0 fin) = true := by kernel_rfl
theorem er33x4 (kv : V) : yesB (F8z 4 (nn 33) kv S0 fin) = true := by kernel_rfl
theorem er33x28 (kv : V) : yesB (F8z 28 (nn 33) kv S0 fin) = true := by kernel_rfl
theorem er33x32 (kv : V) : yesB (F8z 32 (nn 33) kv S0 fin) = true := by kernel_rfl
theorem er34x8 (kv : V) : yesB (F8z 8 (nn 34) kv S0 fin) = true := by kernel_rfl
theorem er34x12 (kv : V) : yesB (F8z 12 (nn 34) kv S0 fin) = true := by kernel_rfl
theorem er34x20 (kv : V) : yesB (F8z 20 (nn 34) kv S0 fin) = true := by kernel_rfl
theorem er38x18 (kv : V) : yesB (F8z 18 (nn 38) kv S0 fin) = true := by kernel_rfl
theorem er39x19 (kv : V) : yesB (F8z 19 (nn 39) kv S0 fin) = true := by kernel_rfl
theorem er40x15 (kv : V) : yesB (F8z 15 (nn 40) kv S0 fin) = true := by kernel_rfl
theorem er40x35 (kv : V) : yesB (F8z 35 (nn 40) kv S0 fin) = true := by kernel_rfl
theorem er42x14 (kv : V) : yesB (F8z 14 (nn 42) kv S0 fin) = true := by kernel_rfl
theorem er42x22 (kv : V) : yesB (F8z 22 (nn 42) kv S0 fin) = true := by kernel_rfl
theorem er42x39 (kv : V) : yesB (F8z 39 (nn 42) kv S0 fin) = true := by kernel_rfl
theorem er43x0 (kv : V) : yesB (F8z 0 (nn 43) kv S0 fin) = true := by kernel_rfl
theorem er44x18 (kv : V) : yesB (F8z 18 (nn 44) kv S0 fin) = true := by kernel_rfl
theorem er44x33 (kv : V) : yesB (F8z 33 (nn 44) kv S0 fin) = true := by kernel_rfl
theorem er45x2 (kv : V) : yesB (F8z 2 (nn 45) kv S0 fin) = true := by kernel_rfl
theorem er45x4 (kv : V) : yesB (F8z 4 (nn 45) kv S0 fin) = true := by kernel_rfl
theorem er45x20 (kv : V) : yesB (F8z 20 (nn 45) kv S0 fin) = true := by kernel_rfl
theorem er45x22 (kv : V) : yesB (F8z 22 (nn 45) kv S0 fin) = true := by kernel_rfl
theorem er45x28 (kv : V) : yesB (F8z 28 (nn 45) kv S0 fin) = true := by kernel_rfl
theorem er45x41 (kv : V) : yesB (F8z 41 (nn 45) kv S0 fin) = true := by kernel_rfl
theorem er46x40 (kv : V) : yesB (F8z 40 (nn 46) kv S0 fin) = true := by kernel_rfl
theorem er46x42 (kv : V) : yesB (F8z 42 (nn 46) kv S0 fin) = true := by kernel_rfl
theorem er48x3 (kv : V) : yesB (F8z 3 (nn 48) kv S0 fin) = true := by kernel_rfl
theorem er48x24 (kv : V) : yesB (F8z 24 (nn 48) kv S0 fin) = true := by kernel_rfl
theorem er50x13 (kv : V) : yesB (F8z 13 (nn 50) kv S0 fin) = true := by kernel_rfl
theorem er50x15 (kv : V) : yesB (F8z 15 (nn 50) kv S0 fin) = true := by kernel_rfl
theorem er50x21 (kv : V) : yesB (F8z 21 (nn 50) kv S0 fin) = true := by kernel_rfl
theorem er52x13 (kv : V) : yesB (F8z 13 (nn 52) kv S0 fin) = true := by kernel_rfl
theorem er52x16 (kv : V) : yesB (F8z 16 (nn 52) kv S0 fin) = true := by kernel_rfl
theorem er54x15 (kv : V) : yesB (F8z 15 (nn 54) kv S0 fin) = true := by kernel_rfl
theorem er54x25 (kv : V) : yesB (F8z 25 (nn 54) kv S0 fin) = true := by kernel_rfl
theorem er54x30 (kv : V) : yesB (F8z 30 (nn 54) kv S0 fin) = true := by kernel_rfl
theorem er56x16 (kv : V) : yesB (F8z 16 (nn 56) kv S0 fin) = true := by kernel_rfl
theorem er56x30 (kv : V) : yesB (F8z 30 (nn 56) kv S0 fin) = true := by kernel_rfl
theorem er56x48 (kv : V) : yesB (F8z 48 (nn 56) kv S0 fin) = true := by kernel_rfl
theorem er60x22 (kv : V) : yesB (F8z 22 (nn 60) kv S0 fin) = true := by kernel_rfl
theorem er60x52 (kv : V) : yesB (F8z 52 (nn 60) kv S0 fin) = true := by kernel_rfl
theorem er66x6 (kv : V) : yesB (F8z 6 (nn 66) kv S0 fin) = true := by kernel_rfl
theorem er66x36 (kv : V) : yesB (F8z 36 (nn 66) kv S0 fin) = true := by kernel_rfl
theorem er66x49 (kv : V) : yesB (F8z 49 (nn 66) kv S0 fin) = true := by kernel_rfl
theorem er70x60 (kv : V) : yesB (F8z 60 (nn 70) kv S0 fin) = true := by kernel_rfl
theorem er72x9 (kv : V) : yesB (F8z 9 (nn 72) kv S0 fin) = true := by kernel_rfl
theorem er72x12 (kv : V) : yesB (F8z 12 (nn 72) kv S0 fin) = true := by kernel_rfl
theorem er72x23 (kv : V) : yesB (F8z 23 (nn 72) kv S0 fin) = true := by kernel_rfl
theorem er72x30 (kv : V) : yesB (F8z 30 (nn 72) kv S0 fin) = true := by kernel_rfl
theorem er72x35 (kv : V) : yesB (F8z 35 (nn 72) kv S0 fin) = true := by kernel_rfl
theorem er78x8 (kv : V) : yesB (F8z 8 (nn 78) kv S0 fin) = true := by kernel_rfl
theorem er78x27 (kv : V) : yesB (F8z 27 (nn 78) kv S0 fin) = true := by kernel_rfl
theorem er78x34 (kv : V) : yesB (F8z 34 (nn 78) kv S0 fin) = true := by kernel_rfl
theorem er78x51 (kv : V) : yesB (F8z 51 (nn 78) kv S0 fin) = true := by kernel_rfl
theorem er78x56 (kv : V) : yesB (F8z 56 (nn 78) kv S0 fin) = true := by kernel_rfl
theorem er84x1 (kv : V) : yesB (F8z 1 (nn 84) kv S0 fin) = true := by kernel_rfl
theorem er84x30 (kv : V) : yesB (F8z 30 (nn 84) kv S0 fin) = true := by kernel_rfl
theorem er84x36 (kv : V) : yesB (F8z 36 (nn 84) kv S0 fin) = true := by kernel_rfl
theorem er84x69 (kv : V) : yesB (F8z 69 (nn 84) kv S0 fin) = true := by kernel_rfl
theorem er84x72 (kv : V) : yesB (F8z 72 (nn 84) kv S0 fin) = true := by kernel_rfl
theorem er84x79 (kv : V) : yesB (F8z 79 (nn 84) kv S0 fin) = true := by kernel_rfl
theorem er90x38 (kv : V) : yesB (F8z 38 (nn 90) kv S0 fin) = true := by kernel_rfl
theorem er90x69 (kv : V) : yesB (F8z 69 (nn 90) kv S0 fin) = true := by kernel_rfl
theorem er113x0 (kv : V) : yesB (F8z 0 (nn 113) kv S0 fin) = true := by kernel_rfl
theorem er172x0 (kv : V) : yesB (F8z 0 (nn 172) kv S0 fin) = true := by kernel_rfl
theorem er222x0 (kv : V) : yesB (F8z 0 (nn 222) kv S0 fin) = true := by kernel_rfl
end
end Go.AM
