/- Runs of the law. -/
import Derived.Test.YtndgeimkifdifaaGreatMEC
set_option maxRecDepth 1000000
set_option linter.unusedVariables false
namespace Go.AM
open Go.Proofs
noncomputable section
theorem er5x2 (kv : V) : yesB (F8z 2 (nn 5) kv S0 fin) = true := by kernel_rfl
theorem er8x1 (kv : V) : yesB (F8z 1 (nn 8) kv S0 fin) = true := by kernel_rfl
theorem er9x7 (kv : V) : yesB (F8z 7 (nn 9) kv S0 fin) = true := by kernel_rfl
theorem er11x0 (kv : V) : yesB (F8z 0 (nn 11) kv S0 fin) = true := by kernel_rfl
theorem er17x16 (kv : V) : yesB (F8z 16 (nn 17) kv S0 fin) = true := by kernel_rfl
theorem er19x9 (kv : V) : yesB (F8z 9 (nn 19) kv S0 fin) = true := by kernel_rfl
theorem er19x11 (kv : V) : yesB (F8z 11 (nn 19) kv S0 fin) = true := by kernel_rfl
theorem er21x12 (kv : V) : yesB (F8z 12 (nn 21) kv S0 fin) = true := by kernel_rfl
theorem er22x4 (kv : V) : yesB (F8z 4 (nn 22) kv S0 fin) = true := by kernel_rfl
theorem er25x15 (kv : V) : yesB (F8z 15 (nn 25) kv S0 fin) = true := by kernel_rfl
theorem er26x3 (kv : V) : yesB (F8z 3 (nn 26) kv S0 fin) = true := by kernel_rfl
theorem er27x11 (kv : V) : yesB (F8z 11 (nn 27) kv S0 fin) = true := by kernel_rfl
theorem er28x6 (kv : V) : yesB (F8z 6 (nn 28) kv S0 fin) = true := by kernel_rfl
theorem er28x14 (kv : V) : yesB (F8z 14 (nn 28) kv S0 fin) = true := by kernel_rfl
theorem er28x19 (kv : V) : yesB (F8z 19 (nn 28) kv S0 fin) = true := by kernel_rfl
theorem er30x0 (kv : V) : yesB (F8z 0 (nn 30) kv S0 fin) = true := by kernel_rfl
theorem er30x5 (kv : V) : yesB (F8z 5 (nn 30) kv S0 fin) = true := by kernel_rfl
theorem er32x23 (kv : V) : yesB (F8z 23 (nn 32) kv S0 fin) = true := by kernel_rfl
theorem er33x26 (kv : V) : yesB (F8z 26 (nn 33) kv S0 fin) = true := by kernel_rfl
theorem er34x0 (kv : V) : yesB (F8z 0 (nn 34) kv S0 fin) = true := by kernel_rfl
theorem er34x2 (kv : V) : yesB (F8z 2 (nn 34) kv S0 fin) = true := by kernel_rfl
theorem er34x6 (kv : V) : yesB (F8z 6 (nn 34) kv S0 fin) = true := by kernel_rfl
theorem er34x32 (kv : V) : yesB (F8z 32 (nn 34) kv S0 fin) = true := by kernel_rfl
theorem er35x0 (kv : V) : yesB (F8z 0 (nn 35) kv S0 fin) = true := by kernel_rfl
theorem er35x25 (kv : V) : yesB (F8z 25 (nn 35) kv S0 fin) = true := by kernel_rfl
theorem er38x14 (kv : V) : yesB (F8z 14 (nn 38) kv S0 fin) = true := by kernel_rfl
theorem er38x33 (kv : V) : yesB (F8z 33 (nn 38) kv S0 fin) = true := by kernel_rfl
theorem er39x12 (kv : V) : yesB (F8z 12 (nn 39) kv S0 fin) = true := by kernel_rfl
theorem er40x29 (kv : V) : yesB (F8z 29 (nn 40) kv S0 fin) = true := by kernel_rfl
theorem er42x10 (kv : V) : yesB (F8z 10 (nn 42) kv S0 fin) = true := by kernel_rfl
theorem er42x31 (kv : V) : yesB (F8z 31 (nn 42) kv S0 fin) = true := by kernel_rfl
theorem er42x35 (kv : V) : yesB (F8z 35 (nn 42) kv S0 fin) = true := by kernel_rfl
theorem er44x1 (kv : V) : yesB (F8z 1 (nn 44) kv S0 fin) = true := by kernel_rfl
theorem er44x4 (kv : V) : yesB (F8z 4 (nn 44) kv S0 fin) = true := by kernel_rfl
theorem er44x42 (kv : V) : yesB (F8z 42 (nn 44) kv S0 fin) = true := by kernel_rfl
theorem er45x10 (kv : V) : yesB (F8z 10 (nn 45) kv S0 fin) = true := by kernel_rfl
theorem er45x18 (kv : V) : yesB (F8z 18 (nn 45) kv S0 fin) = true := by kernel_rfl
theorem er45x26 (kv : V) : yesB (F8z 26 (nn 45) kv S0 fin) = true := by kernel_rfl
theorem er45x43 (kv : V) : yesB (F8z 43 (nn 45) kv S0 fin) = true := by kernel_rfl
theorem er48x35 (kv : V) : yesB (F8z 35 (nn 48) kv S0 fin) = true := by kernel_rfl
theorem er50x9 (kv : V) : yesB (F8z 9 (nn 50) kv S0 fin) = true := by kernel_rfl
theorem er50x34 (kv : V) : yesB (F8z 34 (nn 50) kv S0 fin) = true := by kernel_rfl
theorem er52x9 (kv : V) : yesB (F8z 9 (nn 52) kv S0 fin) = true := by kernel_rfl
theorem er52x37 (kv : V) : yesB (F8z 37 (nn 52) kv S0 fin) = true := by kernel_rfl
theorem er52x46 (kv : V) : yesB (F8z 46 (nn 52) kv S0 fin) = true := by kernel_rfl
theorem er54x22 (kv : V) : yesB (F8z 22 (nn 54) kv S0 fin) = true := by kernel_rfl
theorem er54x43 (kv : V) : yesB (F8z 43 (nn 54) kv S0 fin) = true := by kernel_rfl
theorem er54x49 (kv : V) : yesB (F8z 49 (nn 54) kv S0 fin) = true := by kernel_rfl
theorem er56x27 (kv : V) : yesB (F8z 27 (nn 56) kv S0 fin) = true := by kernel_rfl
theorem er60x17 (kv : V) : yesB (F8z 17 (nn 60) kv S0 fin) = true := by kernel_rfl
theorem er60x31 (kv : V) : yesB (F8z 31 (nn 60) kv S0 fin) = true := by kernel_rfl
theorem er66x1 (kv : V) : yesB (F8z 1 (nn 66) kv S0 fin) = true := by kernel_rfl
theorem er66x12 (kv : V) : yesB (F8z 12 (nn 66) kv S0 fin) = true := by kernel_rfl
theorem er66x25 (kv : V) : yesB (F8z 25 (nn 66) kv S0 fin) = true := by kernel_rfl
theorem er66x31 (kv : V) : yesB (F8z 31 (nn 66) kv S0 fin) = true := by kernel_rfl
theorem er66x52 (kv : V) : yesB (F8z 52 (nn 66) kv S0 fin) = true := by kernel_rfl
theorem er70x15 (kv : V) : yesB (F8z 15 (nn 70) kv S0 fin) = true := by kernel_rfl
theorem er70x20 (kv : V) : yesB (F8z 20 (nn 70) kv S0 fin) = true := by kernel_rfl
theorem er70x26 (kv : V) : yesB (F8z 26 (nn 70) kv S0 fin) = true := by kernel_rfl
theorem er70x37 (kv : V) : yesB (F8z 37 (nn 70) kv S0 fin) = true := by kernel_rfl
theorem er70x59 (kv : V) : yesB (F8z 59 (nn 70) kv S0 fin) = true := by kernel_rfl
theorem er72x2 (kv : V) : yesB (F8z 2 (nn 72) kv S0 fin) = true := by kernel_rfl
theorem er72x4 (kv : V) : yesB (F8z 4 (nn 72) kv S0 fin) = true := by kernel_rfl
theorem er72x6 (kv : V) : yesB (F8z 6 (nn 72) kv S0 fin) = true := by kernel_rfl
theorem er72x65 (kv : V) : yesB (F8z 65 (nn 72) kv S0 fin) = true := by kernel_rfl
theorem er78x0 (kv : V) : yesB (F8z 0 (nn 78) kv S0 fin) = true := by kernel_rfl
theorem er78x12 (kv : V) : yesB (F8z 12 (nn 78) kv S0 fin) = true := by kernel_rfl
theorem er78x15 (kv : V) : yesB (F8z 15 (nn 78) kv S0 fin) = true := by kernel_rfl
theorem er78x58 (kv : V) : yesB (F8z 58 (nn 78) kv S0 fin) = true := by kernel_rfl
theorem er78x76 (kv : V) : yesB (F8z 76 (nn 78) kv S0 fin) = true := by kernel_rfl
theorem er84x19 (kv : V) : yesB (F8z 19 (nn 84) kv S0 fin) = true := by kernel_rfl
theorem er84x22 (kv : V) : yesB (F8z 22 (nn 84) kv S0 fin) = true := by kernel_rfl
theorem er84x73 (kv : V) : yesB (F8z 73 (nn 84) kv S0 fin) = true := by kernel_rfl
theorem er90x49 (kv : V) : yesB (F8z 49 (nn 90) kv S0 fin) = true := by kernel_rfl
theorem er90x63 (kv : V) : yesB (F8z 63 (nn 90) kv S0 fin) = true := by kernel_rfl
theorem er90x73 (kv : V) : yesB (F8z 73 (nn 90) kv S0 fin) = true := by kernel_rfl
theorem er120x0 (kv : V) : yesB (F8z 0 (nn 120) kv S0 fin) = true := by kernel_rfl
theorem er144x0 (kv : V) : yesB (F8z 0 (nn 144) kv S0 fin) = true := by kernel_rfl
theorem er145x0 (kv : V) : yesB (F8z 0 (nn 145) kv S0 fin) = true := by kernel_rfl
theorem er150x0 (kv : V) : yesB (F8z 0 (nn 150) kv S0 fin) = true := by kernel_rfl
theorem er155x0 (kv : V) : yesB (F8z 0 (nn 155) kv S0 fin) = true := by kernel_rfl
theorem er160x0 (kv : V) : yesB (F8z 0 (nn 160) kv S0 fin) = true := by kernel_rfl
theorem er167x0 (kv : V) : yesB (F8z 0 (nn 167) kv S0 fin) = true := by kernel_rfl
theorem er209x0 (kv : V) : yesB (F8z 0 (nn 209) kv S0 fin) = true := by kernel_rfl
theorem er215x0 (kv : V) : yesB (F8z 0 (nn 215) kv S0 fin) = true := by kernel_rfl
theorem er237x0 (kv : V) : yesB (F8z 0 (nn 237) kv S0 fin) = true := by kernel_rfl
end
end Go.AM
