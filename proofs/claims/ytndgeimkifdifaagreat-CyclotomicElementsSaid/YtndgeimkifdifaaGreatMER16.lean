/- Runs of the law. -/
import Derived.Test.YtndgeimkifdifaaGreatMEC
set_option maxRecDepth 1000000
set_option linter.unusedVariables false
namespace Go.AM
open Go.Proofs
noncomputable section
theorem er6x1 (kv : V) : yesB (F8z 1 (nn 6) kv S0 fin) = true := by kernel_rfl
theorem er8x2 (kv : V) : yesB (F8z 2 (nn 8) kv S0 fin) = true := by kernel_rfl
theorem er10x8 (kv : V) : yesB (F8z 8 (nn 10) kv S0 fin) = true := by kernel_rfl
theorem er12x7 (kv : V) : yesB (F8z 7 (nn 12) kv S0 fin) = true := by kernel_rfl
theorem er15x1 (kv : V) : yesB (F8z 1 (nn 15) kv S0 fin) = true := by kernel_rfl
theorem er16x13 (kv : V) : yesB (F8z 13 (nn 16) kv S0 fin) = true := by kernel_rfl
theorem er17x13 (kv : V) : yesB (F8z 13 (nn 17) kv S0 fin) = true := by kernel_rfl
theorem er18x12 (kv : V) : yesB (F8z 12 (nn 18) kv S0 fin) = true := by kernel_rfl
theorem er19x1 (kv : V) : yesB (F8z 1 (nn 19) kv S0 fin) = true := by kernel_rfl
theorem er20x2 (kv : V) : yesB (F8z 2 (nn 20) kv S0 fin) = true := by kernel_rfl
theorem er20x7 (kv : V) : yesB (F8z 7 (nn 20) kv S0 fin) = true := by kernel_rfl
theorem er21x6 (kv : V) : yesB (F8z 6 (nn 21) kv S0 fin) = true := by kernel_rfl
theorem er21x8 (kv : V) : yesB (F8z 8 (nn 21) kv S0 fin) = true := by kernel_rfl
theorem er21x20 (kv : V) : yesB (F8z 20 (nn 21) kv S0 fin) = true := by kernel_rfl
theorem er22x3 (kv : V) : yesB (F8z 3 (nn 22) kv S0 fin) = true := by kernel_rfl
theorem er22x7 (kv : V) : yesB (F8z 7 (nn 22) kv S0 fin) = true := by kernel_rfl
theorem er22x13 (kv : V) : yesB (F8z 13 (nn 22) kv S0 fin) = true := by kernel_rfl
theorem er23x14 (kv : V) : yesB (F8z 14 (nn 23) kv S0 fin) = true := by kernel_rfl
theorem er24x18 (kv : V) : yesB (F8z 18 (nn 24) kv S0 fin) = true := by kernel_rfl
theorem er25x2 (kv : V) : yesB (F8z 2 (nn 25) kv S0 fin) = true := by kernel_rfl
theorem er25x21 (kv : V) : yesB (F8z 21 (nn 25) kv S0 fin) = true := by kernel_rfl
theorem er26x23 (kv : V) : yesB (F8z 23 (nn 26) kv S0 fin) = true := by kernel_rfl
theorem er27x3 (kv : V) : yesB (F8z 3 (nn 27) kv S0 fin) = true := by kernel_rfl
theorem er28x17 (kv : V) : yesB (F8z 17 (nn 28) kv S0 fin) = true := by kernel_rfl
theorem er30x19 (kv : V) : yesB (F8z 19 (nn 30) kv S0 fin) = true := by kernel_rfl
theorem er32x15 (kv : V) : yesB (F8z 15 (nn 32) kv S0 fin) = true := by kernel_rfl
theorem er33x2 (kv : V) : yesB (F8z 2 (nn 33) kv S0 fin) = true := by kernel_rfl
theorem er33x7 (kv : V) : yesB (F8z 7 (nn 33) kv S0 fin) = true := by kernel_rfl
theorem er34x22 (kv : V) : yesB (F8z 22 (nn 34) kv S0 fin) = true := by kernel_rfl
theorem er36x9 (kv : V) : yesB (F8z 9 (nn 36) kv S0 fin) = true := by kernel_rfl
theorem er36x26 (kv : V) : yesB (F8z 26 (nn 36) kv S0 fin) = true := by kernel_rfl
theorem er38x28 (kv : V) : yesB (F8z 28 (nn 38) kv S0 fin) = true := by kernel_rfl
theorem er38x37 (kv : V) : yesB (F8z 37 (nn 38) kv S0 fin) = true := by kernel_rfl
theorem er39x5 (kv : V) : yesB (F8z 5 (nn 39) kv S0 fin) = true := by kernel_rfl
theorem er39x16 (kv : V) : yesB (F8z 16 (nn 39) kv S0 fin) = true := by kernel_rfl
theorem er40x11 (kv : V) : yesB (F8z 11 (nn 40) kv S0 fin) = true := by kernel_rfl
theorem er40x26 (kv : V) : yesB (F8z 26 (nn 40) kv S0 fin) = true := by kernel_rfl
theorem er45x6 (kv : V) : yesB (F8z 6 (nn 45) kv S0 fin) = true := by kernel_rfl
theorem er45x8 (kv : V) : yesB (F8z 8 (nn 45) kv S0 fin) = true := by kernel_rfl
theorem er45x14 (kv : V) : yesB (F8z 14 (nn 45) kv S0 fin) = true := by kernel_rfl
theorem er45x30 (kv : V) : yesB (F8z 30 (nn 45) kv S0 fin) = true := by kernel_rfl
theorem er46x21 (kv : V) : yesB (F8z 21 (nn 46) kv S0 fin) = true := by kernel_rfl
theorem er46x41 (kv : V) : yesB (F8z 41 (nn 46) kv S0 fin) = true := by kernel_rfl
theorem er47x0 (kv : V) : yesB (F8z 0 (nn 47) kv S0 fin) = true := by kernel_rfl
theorem er48x36 (kv : V) : yesB (F8z 36 (nn 48) kv S0 fin) = true := by kernel_rfl
theorem er48x37 (kv : V) : yesB (F8z 37 (nn 48) kv S0 fin) = true := by kernel_rfl
theorem er50x11 (kv : V) : yesB (F8z 11 (nn 50) kv S0 fin) = true := by kernel_rfl
theorem er50x18 (kv : V) : yesB (F8z 18 (nn 50) kv S0 fin) = true := by kernel_rfl
theorem er50x24 (kv : V) : yesB (F8z 24 (nn 50) kv S0 fin) = true := by kernel_rfl
theorem er52x21 (kv : V) : yesB (F8z 21 (nn 52) kv S0 fin) = true := by kernel_rfl
theorem er52x45 (kv : V) : yesB (F8z 45 (nn 52) kv S0 fin) = true := by kernel_rfl
theorem er54x9 (kv : V) : yesB (F8z 9 (nn 54) kv S0 fin) = true := by kernel_rfl
theorem er54x18 (kv : V) : yesB (F8z 18 (nn 54) kv S0 fin) = true := by kernel_rfl
theorem er54x31 (kv : V) : yesB (F8z 31 (nn 54) kv S0 fin) = true := by kernel_rfl
theorem er56x25 (kv : V) : yesB (F8z 25 (nn 56) kv S0 fin) = true := by kernel_rfl
theorem er56x34 (kv : V) : yesB (F8z 34 (nn 56) kv S0 fin) = true := by kernel_rfl
theorem er60x21 (kv : V) : yesB (F8z 21 (nn 60) kv S0 fin) = true := by kernel_rfl
theorem er60x26 (kv : V) : yesB (F8z 26 (nn 60) kv S0 fin) = true := by kernel_rfl
theorem er60x41 (kv : V) : yesB (F8z 41 (nn 60) kv S0 fin) = true := by kernel_rfl
theorem er60x56 (kv : V) : yesB (F8z 56 (nn 60) kv S0 fin) = true := by kernel_rfl
theorem er66x27 (kv : V) : yesB (F8z 27 (nn 66) kv S0 fin) = true := by kernel_rfl
theorem er66x54 (kv : V) : yesB (F8z 54 (nn 66) kv S0 fin) = true := by kernel_rfl
theorem er68x0 (kv : V) : yesB (F8z 0 (nn 68) kv S0 fin) = true := by kernel_rfl
theorem er69x0 (kv : V) : yesB (F8z 0 (nn 69) kv S0 fin) = true := by kernel_rfl
theorem er70x33 (kv : V) : yesB (F8z 33 (nn 70) kv S0 fin) = true := by kernel_rfl
theorem er70x55 (kv : V) : yesB (F8z 55 (nn 70) kv S0 fin) = true := by kernel_rfl
theorem er72x49 (kv : V) : yesB (F8z 49 (nn 72) kv S0 fin) = true := by kernel_rfl
theorem er72x51 (kv : V) : yesB (F8z 51 (nn 72) kv S0 fin) = true := by kernel_rfl
theorem er72x56 (kv : V) : yesB (F8z 56 (nn 72) kv S0 fin) = true := by kernel_rfl
theorem er72x63 (kv : V) : yesB (F8z 63 (nn 72) kv S0 fin) = true := by kernel_rfl
theorem er78x41 (kv : V) : yesB (F8z 41 (nn 78) kv S0 fin) = true := by kernel_rfl
theorem er78x42 (kv : V) : yesB (F8z 42 (nn 78) kv S0 fin) = true := by kernel_rfl
theorem er84x55 (kv : V) : yesB (F8z 55 (nn 84) kv S0 fin) = true := by kernel_rfl
theorem er87x0 (kv : V) : yesB (F8z 0 (nn 87) kv S0 fin) = true := by kernel_rfl
theorem er90x11 (kv : V) : yesB (F8z 11 (nn 90) kv S0 fin) = true := by kernel_rfl
theorem er90x17 (kv : V) : yesB (F8z 17 (nn 90) kv S0 fin) = true := by kernel_rfl
theorem er90x39 (kv : V) : yesB (F8z 39 (nn 90) kv S0 fin) = true := by kernel_rfl
theorem er90x72 (kv : V) : yesB (F8z 72 (nn 90) kv S0 fin) = true := by kernel_rfl
theorem er90x80 (kv : V) : yesB (F8z 80 (nn 90) kv S0 fin) = true := by kernel_rfl
theorem er90x85 (kv : V) : yesB (F8z 85 (nn 90) kv S0 fin) = true := by kernel_rfl
theorem er108x0 (kv : V) : yesB (F8z 0 (nn 108) kv S0 fin) = true := by kernel_rfl
theorem er139x0 (kv : V) : yesB (F8z 0 (nn 139) kv S0 fin) = true := by kernel_rfl
theorem er140x0 (kv : V) : yesB (F8z 0 (nn 140) kv S0 fin) = true := by kernel_rfl
theorem er188x0 (kv : V) : yesB (F8z 0 (nn 188) kv S0 fin) = true := by kernel_rfl
theorem er221x0 (kv : V) : yesB (F8z 0 (nn 221) kv S0 fin) = true := by kernel_rfl
theorem er247x0 (kv : V) : yesB (F8z 0 (nn 247) kv S0 fin) = true := by kernel_rfl
end
end Go.AM
