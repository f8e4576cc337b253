/- Runs of the law. -/
import Derived.Test.YtndgeimkifdifaaGreatMEC
set_option maxRecDepth 1000000
set_option linter.unusedVariables false
namespace Go.AM
open Go.Proofs
noncomputable section
theorem er4x2 (kv : V) : yesB (F8z 2 (nn 4) kv S0 fin) = true := by kernel_rfl
theorem er8x0 (kv : V) : yesB (F8z 0 (nn 8) kv S0 fin) = true := by kernel_rfl
theorem er10x1 (kv : V) : yesB (F8z 1 (nn 10) kv S0 fin) = true := by kernel_rfl
theorem er11x5 (kv : V) : yesB (F8z 5 (nn 11) kv S0 fin) = true := by kernel_rfl
theorem er11x9 (kv : V) : yesB (F8z 9 (nn 11) kv S0 fin) = true := by kernel_rfl
theorem er14x6 (kv : V) : yesB (F8z 6 (nn 14) kv S0 fin) = true := by kernel_rfl
theorem er15x7 (kv : V) : yesB (F8z 7 (nn 15) kv S0 fin) = true := by kernel_rfl
theorem er15x14 (kv : V) : yesB (F8z 14 (nn 15) kv S0 fin) = true := by kernel_rfl
theorem er17x9 (kv : V) : yesB (F8z 9 (nn 17) kv S0 fin) = true := by kernel_rfl
theorem er19x10 (kv : V) : yesB (F8z 10 (nn 19) kv S0 fin) = true := by kernel_rfl
theorem er21x14 (kv : V) : yesB (F8z 14 (nn 21) kv S0 fin) = true := by kernel_rfl
theorem er22x10 (kv : V) : yesB (F8z 10 (nn 22) kv S0 fin) = true := by kernel_rfl
theorem er23x19 (kv : V) : yesB (F8z 19 (nn 23) kv S0 fin) = true := by kernel_rfl
theorem er24x0 (kv : V) : yesB (F8z 0 (nn 24) kv S0 fin) = true := by kernel_rfl
theorem er25x1 (kv : V) : yesB (F8z 1 (nn 25) kv S0 fin) = true := by kernel_rfl
theorem er25x12 (kv : V) : yesB (F8z 12 (nn 25) kv S0 fin) = true := by kernel_rfl
theorem er25x19 (kv : V) : yesB (F8z 19 (nn 25) kv S0 fin) = true := by kernel_rfl
theorem er26x5 (kv : V) : yesB (F8z 5 (nn 26) kv S0 fin) = true := by kernel_rfl
theorem er27x15 (kv : V) : yesB (F8z 15 (nn 27) kv S0 fin) = true := by kernel_rfl
theorem er30x9 (kv : V) : yesB (F8z 9 (nn 30) kv S0 fin) = true := by kernel_rfl
theorem er32x1 (kv : V) : yesB (F8z 1 (nn 32) kv S0 fin) = true := by kernel_rfl
theorem er32x10 (kv : V) : yesB (F8z 10 (nn 32) kv S0 fin) = true := by kernel_rfl
theorem er32x14 (kv : V) : yesB (F8z 14 (nn 32) kv S0 fin) = true := by kernel_rfl
theorem er32x17 (kv : V) : yesB (F8z 17 (nn 32) kv S0 fin) = true := by kernel_rfl
theorem er33x3 (kv : V) : yesB (F8z 3 (nn 33) kv S0 fin) = true := by kernel_rfl
theorem er33x8 (kv : V) : yesB (F8z 8 (nn 33) kv S0 fin) = true := by kernel_rfl
theorem er35x1 (kv : V) : yesB (F8z 1 (nn 35) kv S0 fin) = true := by kernel_rfl
theorem er35x15 (kv : V) : yesB (F8z 15 (nn 35) kv S0 fin) = true := by kernel_rfl
theorem er36x22 (kv : V) : yesB (F8z 22 (nn 36) kv S0 fin) = true := by kernel_rfl
theorem er38x27 (kv : V) : yesB (F8z 27 (nn 38) kv S0 fin) = true := by kernel_rfl
theorem er38x36 (kv : V) : yesB (F8z 36 (nn 38) kv S0 fin) = true := by kernel_rfl
theorem er39x7 (kv : V) : yesB (F8z 7 (nn 39) kv S0 fin) = true := by kernel_rfl
theorem er39x14 (kv : V) : yesB (F8z 14 (nn 39) kv S0 fin) = true := by kernel_rfl
theorem er39x21 (kv : V) : yesB (F8z 21 (nn 39) kv S0 fin) = true := by kernel_rfl
theorem er39x23 (kv : V) : yesB (F8z 23 (nn 39) kv S0 fin) = true := by kernel_rfl
theorem er39x29 (kv : V) : yesB (F8z 29 (nn 39) kv S0 fin) = true := by kernel_rfl
theorem er40x0 (kv : V) : yesB (F8z 0 (nn 40) kv S0 fin) = true := by kernel_rfl
theorem er40x18 (kv : V) : yesB (F8z 18 (nn 40) kv S0 fin) = true := by kernel_rfl
theorem er42x29 (kv : V) : yesB (F8z 29 (nn 42) kv S0 fin) = true := by kernel_rfl
theorem er44x9 (kv : V) : yesB (F8z 9 (nn 44) kv S0 fin) = true := by kernel_rfl
theorem er44x43 (kv : V) : yesB (F8z 43 (nn 44) kv S0 fin) = true := by kernel_rfl
theorem er46x28 (kv : V) : yesB (F8z 28 (nn 46) kv S0 fin) = true := by kernel_rfl
theorem er46x35 (kv : V) : yesB (F8z 35 (nn 46) kv S0 fin) = true := by kernel_rfl
theorem er48x28 (kv : V) : yesB (F8z 28 (nn 48) kv S0 fin) = true := by kernel_rfl
theorem er50x23 (kv : V) : yesB (F8z 23 (nn 50) kv S0 fin) = true := by kernel_rfl
theorem er50x43 (kv : V) : yesB (F8z 43 (nn 50) kv S0 fin) = true := by kernel_rfl
theorem er52x42 (kv : V) : yesB (F8z 42 (nn 52) kv S0 fin) = true := by kernel_rfl
theorem er54x0 (kv : V) : yesB (F8z 0 (nn 54) kv S0 fin) = true := by kernel_rfl
theorem er54x20 (kv : V) : yesB (F8z 20 (nn 54) kv S0 fin) = true := by kernel_rfl
theorem er54x36 (kv : V) : yesB (F8z 36 (nn 54) kv S0 fin) = true := by kernel_rfl
theorem er54x42 (kv : V) : yesB (F8z 42 (nn 54) kv S0 fin) = true := by kernel_rfl
theorem er56x33 (kv : V) : yesB (F8z 33 (nn 56) kv S0 fin) = true := by kernel_rfl
theorem er60x11 (kv : V) : yesB (F8z 11 (nn 60) kv S0 fin) = true := by kernel_rfl
theorem er60x25 (kv : V) : yesB (F8z 25 (nn 60) kv S0 fin) = true := by kernel_rfl
theorem er60x40 (kv : V) : yesB (F8z 40 (nn 60) kv S0 fin) = true := by kernel_rfl
theorem er60x51 (kv : V) : yesB (F8z 51 (nn 60) kv S0 fin) = true := by kernel_rfl
theorem er66x15 (kv : V) : yesB (F8z 15 (nn 66) kv S0 fin) = true := by kernel_rfl
theorem er66x21 (kv : V) : yesB (F8z 21 (nn 66) kv S0 fin) = true := by kernel_rfl
theorem er66x61 (kv : V) : yesB (F8z 61 (nn 66) kv S0 fin) = true := by kernel_rfl
theorem er70x16 (kv : V) : yesB (F8z 16 (nn 70) kv S0 fin) = true := by kernel_rfl
theorem er70x65 (kv : V) : yesB (F8z 65 (nn 70) kv S0 fin) = true := by kernel_rfl
theorem er72x25 (kv : V) : yesB (F8z 25 (nn 72) kv S0 fin) = true := by kernel_rfl
theorem er72x38 (kv : V) : yesB (F8z 38 (nn 72) kv S0 fin) = true := by kernel_rfl
theorem er72x46 (kv : V) : yesB (F8z 46 (nn 72) kv S0 fin) = true := by kernel_rfl
theorem er72x58 (kv : V) : yesB (F8z 58 (nn 72) kv S0 fin) = true := by kernel_rfl
theorem er78x25 (kv : V) : yesB (F8z 25 (nn 78) kv S0 fin) = true := by kernel_rfl
theorem er78x46 (kv : V) : yesB (F8z 46 (nn 78) kv S0 fin) = true := by kernel_rfl
theorem er78x54 (kv : V) : yesB (F8z 54 (nn 78) kv S0 fin) = true := by kernel_rfl
theorem er78x65 (kv : V) : yesB (F8z 65 (nn 78) kv S0 fin) = true := by kernel_rfl
theorem er84x7 (kv : V) : yesB (F8z 7 (nn 84) kv S0 fin) = true := by kernel_rfl
theorem er84x39 (kv : V) : yesB (F8z 39 (nn 84) kv S0 fin) = true := by kernel_rfl
theorem er84x49 (kv : V) : yesB (F8z 49 (nn 84) kv S0 fin) = true := by kernel_rfl
theorem er84x74 (kv : V) : yesB (F8z 74 (nn 84) kv S0 fin) = true := by kernel_rfl
theorem er85x0 (kv : V) : yesB (F8z 0 (nn 85) kv S0 fin) = true := by kernel_rfl
theorem er90x3 (kv : V) : yesB (F8z 3 (nn 90) kv S0 fin) = true := by kernel_rfl
theorem er90x9 (kv : V) : yesB (F8z 9 (nn 90) kv S0 fin) = true := by kernel_rfl
theorem er90x26 (kv : V) : yesB (F8z 26 (nn 90) kv S0 fin) = true := by kernel_rfl
theorem er90x33 (kv : V) : yesB (F8z 33 (nn 90) kv S0 fin) = true := by kernel_rfl
theorem er90x35 (kv : V) : yesB (F8z 35 (nn 90) kv S0 fin) = true := by kernel_rfl
theorem er90x43 (kv : V) : yesB (F8z 43 (nn 90) kv S0 fin) = true := by kernel_rfl
theorem er90x44 (kv : V) : yesB (F8z 44 (nn 90) kv S0 fin) = true := by kernel_rfl
theorem er90x67 (kv : V) : yesB (F8z 67 (nn 90) kv S0 fin) = true := by kernel_rfl
theorem er100x0 (kv : V) : yesB (F8z 0 (nn 100) kv S0 fin) = true := by kernel_rfl
theorem er101x0 (kv : V) : yesB (F8z 0 (nn 101) kv S0 fin) = true := by kernel_rfl
theorem er124x0 (kv : V) : yesB (F8z 0 (nn 124) kv S0 fin) = true := by kernel_rfl
theorem er151x0 (kv : V) : yesB (F8z 0 (nn 151) kv S0 fin) = true := by kernel_rfl
end
end Go.AM
