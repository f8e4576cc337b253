/- Runs of the law. -/
import Derived.Test.YtndgeimkifdifaaGreatMEC
set_option maxRecDepth 1000000
set_option linter.unusedVariables false
namespace Go.AM
open Go.Proofs
noncomputable section
theorem er8x6 (kv : V) : yesB (F8z 6 (nn 8) kv S0 fin) = true := by kernel_rfl
theorem er9x1 (kv : V) : yesB (F8z 1 (nn 9) kv S0 fin) = true := by kernel_rfl
theorem er9x4 (kv : V) : yesB (F8z 4 (nn 9) kv S0 fin) = true := by kernel_rfl
theorem er16x12 (kv : V) : yesB (F8z 12 (nn 16) kv S0 fin) = true := by kernel_rfl
theorem er18x10 (kv : V) : yesB (F8z 10 (nn 18) kv S0 fin) = true := by kernel_rfl
theorem er20x3 (kv : V) : yesB (F8z 3 (nn 20) kv S0 fin) = true := by kernel_rfl
theorem er21x18 (kv : V) : yesB (F8z 18 (nn 21) kv S0 fin) = true := by kernel_rfl
theorem er22x5 (kv : V) : yesB (F8z 5 (nn 22) kv S0 fin) = true := by kernel_rfl
theorem er22x11 (kv : V) : yesB (F8z 11 (nn 22) kv S0 fin) = true := by kernel_rfl
theorem er24x4 (kv : V) : yesB (F8z 4 (nn 24) kv S0 fin) = true := by kernel_rfl
theorem er25x5 (kv : V) : yesB (F8z 5 (nn 25) kv S0 fin) = true := by kernel_rfl
theorem er25x22 (kv : V) : yesB (F8z 22 (nn 25) kv S0 fin) = true := by kernel_rfl
theorem er27x2 (kv : V) : yesB (F8z 2 (nn 27) kv S0 fin) = true := by kernel_rfl
theorem er28x3 (kv : V) : yesB (F8z 3 (nn 28) kv S0 fin) = true := by kernel_rfl
theorem er28x23 (kv : V) : yesB (F8z 23 (nn 28) kv S0 fin) = true := by kernel_rfl
theorem er32x3 (kv : V) : yesB (F8z 3 (nn 32) kv S0 fin) = true := by kernel_rfl
theorem er32x8 (kv : V) : yesB (F8z 8 (nn 32) kv S0 fin) = true := by kernel_rfl
theorem er32x9 (kv : V) : yesB (F8z 9 (nn 32) kv S0 fin) = true := by kernel_rfl
theorem er32x18 (kv : V) : yesB (F8z 18 (nn 32) kv S0 fin) = true := by kernel_rfl
theorem er33x14 (kv : V) : yesB (F8z 14 (nn 33) kv S0 fin) = true := by kernel_rfl
theorem er33x27 (kv : V) : yesB (F8z 27 (nn 33) kv S0 fin) = true := by kernel_rfl
theorem er33x31 (kv : V) : yesB (F8z 31 (nn 33) kv S0 fin) = true := by kernel_rfl
theorem er34x11 (kv : V) : yesB (F8z 11 (nn 34) kv S0 fin) = true := by kernel_rfl
theorem er34x14 (kv : V) : yesB (F8z 14 (nn 34) kv S0 fin) = true := by kernel_rfl
theorem er35x10 (kv : V) : yesB (F8z 10 (nn 35) kv S0 fin) = true := by kernel_rfl
theorem er35x22 (kv : V) : yesB (F8z 22 (nn 35) kv S0 fin) = true := by kernel_rfl
theorem er38x3 (kv : V) : yesB (F8z 3 (nn 38) kv S0 fin) = true := by kernel_rfl
theorem er38x29 (kv : V) : yesB (F8z 29 (nn 38) kv S0 fin) = true := by kernel_rfl
theorem er40x33 (kv : V) : yesB (F8z 33 (nn 40) kv S0 fin) = true := by kernel_rfl
theorem er40x38 (kv : V) : yesB (F8z 38 (nn 40) kv S0 fin) = true := by kernel_rfl
theorem er42x4 (kv : V) : yesB (F8z 4 (nn 42) kv S0 fin) = true := by kernel_rfl
theorem er42x36 (kv : V) : yesB (F8z 36 (nn 42) kv S0 fin) = true := by kernel_rfl
theorem er45x3 (kv : V) : yesB (F8z 3 (nn 45) kv S0 fin) = true := by kernel_rfl
theorem er45x11 (kv : V) : yesB (F8z 11 (nn 45) kv S0 fin) = true := by kernel_rfl
theorem er45x25 (kv : V) : yesB (F8z 25 (nn 45) kv S0 fin) = true := by kernel_rfl
theorem er46x38 (kv : V) : yesB (F8z 38 (nn 46) kv S0 fin) = true := by kernel_rfl
theorem er48x30 (kv : V) : yesB (F8z 30 (nn 48) kv S0 fin) = true := by kernel_rfl
theorem er48x34 (kv : V) : yesB (F8z 34 (nn 48) kv S0 fin) = true := by kernel_rfl
theorem er50x32 (kv : V) : yesB (F8z 32 (nn 50) kv S0 fin) = true := by kernel_rfl
theorem er50x47 (kv : V) : yesB (F8z 47 (nn 50) kv S0 fin) = true := by kernel_rfl
theorem er50x49 (kv : V) : yesB (F8z 49 (nn 50) kv S0 fin) = true := by kernel_rfl
theorem er52x15 (kv : V) : yesB (F8z 15 (nn 52) kv S0 fin) = true := by kernel_rfl
theorem er54x17 (kv : V) : yesB (F8z 17 (nn 54) kv S0 fin) = true := by kernel_rfl
theorem er54x21 (kv : V) : yesB (F8z 21 (nn 54) kv S0 fin) = true := by kernel_rfl
theorem er54x38 (kv : V) : yesB (F8z 38 (nn 54) kv S0 fin) = true := by kernel_rfl
theorem er56x17 (kv : V) : yesB (F8z 17 (nn 56) kv S0 fin) = true := by kernel_rfl
theorem er56x49 (kv : V) : yesB (F8z 49 (nn 56) kv S0 fin) = true := by kernel_rfl
theorem er56x53 (kv : V) : yesB (F8z 53 (nn 56) kv S0 fin) = true := by kernel_rfl
theorem er59x0 (kv : V) : yesB (F8z 0 (nn 59) kv S0 fin) = true := by kernel_rfl
theorem er60x0 (kv : V) : yesB (F8z 0 (nn 60) kv S0 fin) = true := by kernel_rfl
theorem er60x48 (kv : V) : yesB (F8z 48 (nn 60) kv S0 fin) = true := by kernel_rfl
theorem er64x0 (kv : V) : yesB (F8z 0 (nn 64) kv S0 fin) = true := by kernel_rfl
theorem er66x5 (kv : V) : yesB (F8z 5 (nn 66) kv S0 fin) = true := by kernel_rfl
theorem er66x8 (kv : V) : yesB (F8z 8 (nn 66) kv S0 fin) = true := by kernel_rfl
theorem er66x24 (kv : V) : yesB (F8z 24 (nn 66) kv S0 fin) = true := by kernel_rfl
theorem er66x57 (kv : V) : yesB (F8z 57 (nn 66) kv S0 fin) = true := by kernel_rfl
theorem er66x63 (kv : V) : yesB (F8z 63 (nn 66) kv S0 fin) = true := by kernel_rfl
theorem er70x3 (kv : V) : yesB (F8z 3 (nn 70) kv S0 fin) = true := by kernel_rfl
theorem er70x7 (kv : V) : yesB (F8z 7 (nn 70) kv S0 fin) = true := by kernel_rfl
theorem er70x61 (kv : V) : yesB (F8z 61 (nn 70) kv S0 fin) = true := by kernel_rfl
theorem er72x33 (kv : V) : yesB (F8z 33 (nn 72) kv S0 fin) = true := by kernel_rfl
theorem er72x37 (kv : V) : yesB (F8z 37 (nn 72) kv S0 fin) = true := by kernel_rfl
theorem er72x40 (kv : V) : yesB (F8z 40 (nn 72) kv S0 fin) = true := by kernel_rfl
theorem er72x64 (kv : V) : yesB (F8z 64 (nn 72) kv S0 fin) = true := by kernel_rfl
theorem er78x1 (kv : V) : yesB (F8z 1 (nn 78) kv S0 fin) = true := by kernel_rfl
theorem er78x45 (kv : V) : yesB (F8z 45 (nn 78) kv S0 fin) = true := by kernel_rfl
theorem er78x62 (kv : V) : yesB (F8z 62 (nn 78) kv S0 fin) = true := by kernel_rfl
theorem er78x69 (kv : V) : yesB (F8z 69 (nn 78) kv S0 fin) = true := by kernel_rfl
theorem er84x11 (kv : V) : yesB (F8z 11 (nn 84) kv S0 fin) = true := by kernel_rfl
theorem er84x76 (kv : V) : yesB (F8z 76 (nn 84) kv S0 fin) = true := by kernel_rfl
theorem er89x0 (kv : V) : yesB (F8z 0 (nn 89) kv S0 fin) = true := by kernel_rfl
theorem er90x16 (kv : V) : yesB (F8z 16 (nn 90) kv S0 fin) = true := by kernel_rfl
theorem er90x19 (kv : V) : yesB (F8z 19 (nn 90) kv S0 fin) = true := by kernel_rfl
theorem er90x30 (kv : V) : yesB (F8z 30 (nn 90) kv S0 fin) = true := by kernel_rfl
theorem er90x31 (kv : V) : yesB (F8z 31 (nn 90) kv S0 fin) = true := by kernel_rfl
theorem er90x42 (kv : V) : yesB (F8z 42 (nn 90) kv S0 fin) = true := by kernel_rfl
theorem er90x58 (kv : V) : yesB (F8z 58 (nn 90) kv S0 fin) = true := by kernel_rfl
theorem er96x0 (kv : V) : yesB (F8z 0 (nn 96) kv S0 fin) = true := by kernel_rfl
theorem er116x0 (kv : V) : yesB (F8z 0 (nn 116) kv S0 fin) = true := by kernel_rfl
theorem er123x0 (kv : V) : yesB (F8z 0 (nn 123) kv S0 fin) = true := by kernel_rfl
theorem er134x0 (kv : V) : yesB (F8z 0 (nn 134) kv S0 fin) = true := by kernel_rfl
theorem er143x0 (kv : V) : yesB (F8z 0 (nn 143) kv S0 fin) = true := by kernel_rfl
theorem er152x0 (kv : V) : yesB (F8z 0 (nn 152) kv S0 fin) = true := by kernel_rfl
theorem er189x0 (kv : V) : yesB (F8z 0 (nn 189) kv S0 fin) = true := by kernel_rfl
theorem er255x0 (kv : V) : yesB (F8z 0 (nn 255) kv S0 fin) = true := by kernel_rfl
end
end Go.AM
