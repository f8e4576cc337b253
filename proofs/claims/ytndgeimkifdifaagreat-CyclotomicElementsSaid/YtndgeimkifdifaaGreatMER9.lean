/- Runs of the law. -/
import Derived.Test.YtndgeimkifdifaaGreatMEC
set_option maxRecDepth 1000000
set_option linter.unusedVariables false
namespace Go.AM
open Go.Proofs
noncomputable section
theorem er4x0 (kv : V) : yesB (F8z 0 (nn 4) kv S0 fin) = true := by kernel_rfl
theorem er8x4 (kv : V) : yesB (F8z 4 (nn 8) kv S0 fin) = true := by kernel_rfl
theorem er12x2 (kv : V) : yesB (F8z 2 (nn 12) kv S0 fin) = true := by kernel_rfl
theorem er13x6 (kv : V) : yesB (F8z 6 (nn 13) kv S0 fin) = true := by kernel_rfl
theorem er15x3 (kv : V) : yesB (F8z 3 (nn 15) kv S0 fin) = true := by kernel_rfl
theorem er16x0 (kv : V) : yesB (F8z 0 (nn 16) kv S0 fin) = true := by kernel_rfl
theorem er18x15 (kv : V) : yesB (F8z 15 (nn 18) kv S0 fin) = true := by kernel_rfl
theorem er20x6 (kv : V) : yesB (F8z 6 (nn 20) kv S0 fin) = true := by kernel_rfl
theorem er22x16 (kv : V) : yesB (F8z 16 (nn 22) kv S0 fin) = true := by kernel_rfl
theorem er23x8 (kv : V) : yesB (F8z 8 (nn 23) kv S0 fin) = true := by kernel_rfl
theorem er23x15 (kv : V) : yesB (F8z 15 (nn 23) kv S0 fin) = true := by kernel_rfl
theorem er25x6 (kv : V) : yesB (F8z 6 (nn 25) kv S0 fin) = true := by kernel_rfl
theorem er25x9 (kv : V) : yesB (F8z 9 (nn 25) kv S0 fin) = true := by kernel_rfl
theorem er26x0 (kv : V) : yesB (F8z 0 (nn 26) kv S0 fin) = true := by kernel_rfl
theorem er26x17 (kv : V) : yesB (F8z 17 (nn 26) kv S0 fin) = true := by kernel_rfl
theorem er27x4 (kv : V) : yesB (F8z 4 (nn 27) kv S0 fin) = true := by kernel_rfl
theorem er28x20 (kv : V) : yesB (F8z 20 (nn 28) kv S0 fin) = true := by kernel_rfl
theorem er30x17 (kv : V) : yesB (F8z 17 (nn 30) kv S0 fin) = true := by kernel_rfl
theorem er32x30 (kv : V) : yesB (F8z 30 (nn 32) kv S0 fin) = true := by kernel_rfl
theorem er34x1 (kv : V) : yesB (F8z 1 (nn 34) kv S0 fin) = true := by kernel_rfl
theorem er35x12 (kv : V) : yesB (F8z 12 (nn 35) kv S0 fin) = true := by kernel_rfl
theorem er35x17 (kv : V) : yesB (F8z 17 (nn 35) kv S0 fin) = true := by kernel_rfl
theorem er36x8 (kv : V) : yesB (F8z 8 (nn 36) kv S0 fin) = true := by kernel_rfl
theorem er36x33 (kv : V) : yesB (F8z 33 (nn 36) kv S0 fin) = true := by kernel_rfl
theorem er38x1 (kv : V) : yesB (F8z 1 (nn 38) kv S0 fin) = true := by kernel_rfl
theorem er39x8 (kv : V) : yesB (F8z 8 (nn 39) kv S0 fin) = true := by kernel_rfl
theorem er40x9 (kv : V) : yesB (F8z 9 (nn 40) kv S0 fin) = true := by kernel_rfl
theorem er40x16 (kv : V) : yesB (F8z 16 (nn 40) kv S0 fin) = true := by kernel_rfl
theorem er42x11 (kv : V) : yesB (F8z 11 (nn 42) kv S0 fin) = true := by kernel_rfl
theorem er42x17 (kv : V) : yesB (F8z 17 (nn 42) kv S0 fin) = true := by kernel_rfl
theorem er42x25 (kv : V) : yesB (F8z 25 (nn 42) kv S0 fin) = true := by kernel_rfl
theorem er42x27 (kv : V) : yesB (F8z 27 (nn 42) kv S0 fin) = true := by kernel_rfl
theorem er44x23 (kv : V) : yesB (F8z 23 (nn 44) kv S0 fin) = true := by kernel_rfl
theorem er44x34 (kv : V) : yesB (F8z 34 (nn 44) kv S0 fin) = true := by kernel_rfl
theorem er44x37 (kv : V) : yesB (F8z 37 (nn 44) kv S0 fin) = true := by kernel_rfl
theorem er45x0 (kv : V) : yesB (F8z 0 (nn 45) kv S0 fin) = true := by kernel_rfl
theorem er45x21 (kv : V) : yesB (F8z 21 (nn 45) kv S0 fin) = true := by kernel_rfl
theorem er45x27 (kv : V) : yesB (F8z 27 (nn 45) kv S0 fin) = true := by kernel_rfl
theorem er45x42 (kv : V) : yesB (F8z 42 (nn 45) kv S0 fin) = true := by kernel_rfl
theorem er46x6 (kv : V) : yesB (F8z 6 (nn 46) kv S0 fin) = true := by kernel_rfl
theorem er48x9 (kv : V) : yesB (F8z 9 (nn 48) kv S0 fin) = true := by kernel_rfl
theorem er50x4 (kv : V) : yesB (F8z 4 (nn 50) kv S0 fin) = true := by kernel_rfl
theorem er50x6 (kv : V) : yesB (F8z 6 (nn 50) kv S0 fin) = true := by kernel_rfl
theorem er50x40 (kv : V) : yesB (F8z 40 (nn 50) kv S0 fin) = true := by kernel_rfl
theorem er50x42 (kv : V) : yesB (F8z 42 (nn 50) kv S0 fin) = true := by kernel_rfl
theorem er52x7 (kv : V) : yesB (F8z 7 (nn 52) kv S0 fin) = true := by kernel_rfl
theorem er52x33 (kv : V) : yesB (F8z 33 (nn 52) kv S0 fin) = true := by kernel_rfl
theorem er54x16 (kv : V) : yesB (F8z 16 (nn 54) kv S0 fin) = true := by kernel_rfl
theorem er56x14 (kv : V) : yesB (F8z 14 (nn 56) kv S0 fin) = true := by kernel_rfl
theorem er56x44 (kv : V) : yesB (F8z 44 (nn 56) kv S0 fin) = true := by kernel_rfl
theorem er60x37 (kv : V) : yesB (F8z 37 (nn 60) kv S0 fin) = true := by kernel_rfl
theorem er65x0 (kv : V) : yesB (F8z 0 (nn 65) kv S0 fin) = true := by kernel_rfl
theorem er66x0 (kv : V) : yesB (F8z 0 (nn 66) kv S0 fin) = true := by kernel_rfl
theorem er66x43 (kv : V) : yesB (F8z 43 (nn 66) kv S0 fin) = true := by kernel_rfl
theorem er66x56 (kv : V) : yesB (F8z 56 (nn 66) kv S0 fin) = true := by kernel_rfl
theorem er66x62 (kv : V) : yesB (F8z 62 (nn 66) kv S0 fin) = true := by kernel_rfl
theorem er70x13 (kv : V) : yesB (F8z 13 (nn 70) kv S0 fin) = true := by kernel_rfl
theorem er70x28 (kv : V) : yesB (F8z 28 (nn 70) kv S0 fin) = true := by kernel_rfl
theorem er72x8 (kv : V) : yesB (F8z 8 (nn 72) kv S0 fin) = true := by kernel_rfl
theorem er72x17 (kv : V) : yesB (F8z 17 (nn 72) kv S0 fin) = true := by kernel_rfl
theorem er72x24 (kv : V) : yesB (F8z 24 (nn 72) kv S0 fin) = true := by kernel_rfl
theorem er72x29 (kv : V) : yesB (F8z 29 (nn 72) kv S0 fin) = true := by kernel_rfl
theorem er72x31 (kv : V) : yesB (F8z 31 (nn 72) kv S0 fin) = true := by kernel_rfl
theorem er72x44 (kv : V) : yesB (F8z 44 (nn 72) kv S0 fin) = true := by kernel_rfl
theorem er72x59 (kv : V) : yesB (F8z 59 (nn 72) kv S0 fin) = true := by kernel_rfl
theorem er78x68 (kv : V) : yesB (F8z 68 (nn 78) kv S0 fin) = true := by kernel_rfl
theorem er80x0 (kv : V) : yesB (F8z 0 (nn 80) kv S0 fin) = true := by kernel_rfl
theorem er84x2 (kv : V) : yesB (F8z 2 (nn 84) kv S0 fin) = true := by kernel_rfl
theorem er84x45 (kv : V) : yesB (F8z 45 (nn 84) kv S0 fin) = true := by kernel_rfl
theorem er84x51 (kv : V) : yesB (F8z 51 (nn 84) kv S0 fin) = true := by kernel_rfl
theorem er84x63 (kv : V) : yesB (F8z 63 (nn 84) kv S0 fin) = true := by kernel_rfl
theorem er90x18 (kv : V) : yesB (F8z 18 (nn 90) kv S0 fin) = true := by kernel_rfl
theorem er90x57 (kv : V) : yesB (F8z 57 (nn 90) kv S0 fin) = true := by kernel_rfl
theorem er90x77 (kv : V) : yesB (F8z 77 (nn 90) kv S0 fin) = true := by kernel_rfl
theorem er90x88 (kv : V) : yesB (F8z 88 (nn 90) kv S0 fin) = true := by kernel_rfl
theorem er92x0 (kv : V) : yesB (F8z 0 (nn 92) kv S0 fin) = true := by kernel_rfl
theorem er95x0 (kv : V) : yesB (F8z 0 (nn 95) kv S0 fin) = true := by kernel_rfl
theorem er103x0 (kv : V) : yesB (F8z 0 (nn 103) kv S0 fin) = true := by kernel_rfl
theorem er119x0 (kv : V) : yesB (F8z 0 (nn 119) kv S0 fin) = true := by kernel_rfl
theorem er161x0 (kv : V) : yesB (F8z 0 (nn 161) kv S0 fin) = true := by kernel_rfl
theorem er176x0 (kv : V) : yesB (F8z 0 (nn 176) kv S0 fin) = true := by kernel_rfl
theorem er184x0 (kv : V) : yesB (F8z 0 (nn 184) kv S0 fin) = true := by kernel_rfl
theorem er229x0 (kv : V) : yesB (F8z 0 (nn 229) kv S0 fin) = true := by kernel_rfl
theorem er232x0 (kv : V) : yesB (F8z 0 (nn 232) kv S0 fin) = true := by kernel_rfl
theorem er252x0 (kv : V) : yesB (F8z 0 (nn 252) kv S0 fin) = true := by kernel_rfl
theorem er254x0 (kv : V) : yesB (F8z 0 (nn 254) kv S0 fin) = true := by kernel_rfl
end
end Go.AM
