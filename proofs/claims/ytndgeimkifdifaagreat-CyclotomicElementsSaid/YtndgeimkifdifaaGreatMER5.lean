/- Runs of the law. -/
import Derived.Test.YtndgeimkifdifaaGreatMEC
set_option maxRecDepth 1000000
set_option linter.unusedVariables false
namespace Go.AM
open Go.Proofs
noncomputable section
theorem er7x5 (kv : V) : yesB (F8z 5 (nn 7) kv S0 fin) = true := by kernel_rfl
theorem er10x6 (kv : V) : yesB (F8z 6 (nn 10) kv S0 fin) = true := by kernel_rfl
theorem er11x4 (kv : V) : yesB (F8z 4 (nn 11) kv S0 fin) = true := by kernel_rfl
theorem er12x3 (kv : V) : yesB (F8z 3 (nn 12) kv S0 fin) = true := by kernel_rfl
theorem er12x4 (kv : V) : yesB (F8z 4 (nn 12) kv S0 fin) = true := by kernel_rfl
theorem er16x3 (kv : V) : yesB (F8z 3 (nn 16) kv S0 fin) = true := by kernel_rfl
theorem er16x10 (kv : V) : yesB (F8z 10 (nn 16) kv S0 fin) = true := by kernel_rfl
theorem er17x10 (kv : V) : yesB (F8z 10 (nn 17) kv S0 fin) = true := by kernel_rfl
theorem er19x14 (kv : V) : yesB (F8z 14 (nn 19) kv S0 fin) = true := by kernel_rfl
theorem er19x16 (kv : V) : yesB (F8z 16 (nn 19) kv S0 fin) = true := by kernel_rfl
theorem er19x18 (kv : V) : yesB (F8z 18 (nn 19) kv S0 fin) = true := by kernel_rfl
theorem er21x0 (kv : V) : yesB (F8z 0 (nn 21) kv S0 fin) = true := by kernel_rfl
theorem er21x4 (kv : V) : yesB (F8z 4 (nn 21) kv S0 fin) = true := by kernel_rfl
theorem er21x9 (kv : V) : yesB (F8z 9 (nn 21) kv S0 fin) = true := by kernel_rfl
theorem er25x8 (kv : V) : yesB (F8z 8 (nn 25) kv S0 fin) = true := by kernel_rfl
theorem er25x17 (kv : V) : yesB (F8z 17 (nn 25) kv S0 fin) = true := by kernel_rfl
theorem er26x12 (kv : V) : yesB (F8z 12 (nn 26) kv S0 fin) = true := by kernel_rfl
theorem er26x22 (kv : V) : yesB (F8z 22 (nn 26) kv S0 fin) = true := by kernel_rfl
theorem er26x24 (kv : V) : yesB (F8z 24 (nn 26) kv S0 fin) = true := by kernel_rfl
theorem er27x21 (kv : V) : yesB (F8z 21 (nn 27) kv S0 fin) = true := by kernel_rfl
theorem er28x25 (kv : V) : yesB (F8z 25 (nn 28) kv S0 fin) = true := by kernel_rfl
theorem er30x18 (kv : V) : yesB (F8z 18 (nn 30) kv S0 fin) = true := by kernel_rfl
theorem er30x22 (kv : V) : yesB (F8z 22 (nn 30) kv S0 fin) = true := by kernel_rfl
theorem er33x15 (kv : V) : yesB (F8z 15 (nn 33) kv S0 fin) = true := by kernel_rfl
theorem er33x16 (kv : V) : yesB (F8z 16 (nn 33) kv S0 fin) = true := by kernel_rfl
theorem er33x21 (kv : V) : yesB (F8z 21 (nn 33) kv S0 fin) = true := by kernel_rfl
theorem er35x31 (kv : V) : yesB (F8z 31 (nn 35) kv S0 fin) = true := by kernel_rfl
theorem er36x11 (kv : V) : yesB (F8z 11 (nn 36) kv S0 fin) = true := by kernel_rfl
theorem er36x12 (kv : V) : yesB (F8z 12 (nn 36) kv S0 fin) = true := by kernel_rfl
theorem er36x16 (kv : V) : yesB (F8z 16 (nn 36) kv S0 fin) = true := by kernel_rfl
theorem er36x29 (kv : V) : yesB (F8z 29 (nn 36) kv S0 fin) = true := by kernel_rfl
theorem er38x26 (kv : V) : yesB (F8z 26 (nn 38) kv S0 fin) = true := by kernel_rfl
theorem er40x4 (kv : V) : yesB (F8z 4 (nn 40) kv S0 fin) = true := by kernel_rfl
theorem er40x6 (kv : V) : yesB (F8z 6 (nn 40) kv S0 fin) = true := by kernel_rfl
theorem er40x12 (kv : V) : yesB (F8z 12 (nn 40) kv S0 fin) = true := by kernel_rfl
theorem er40x37 (kv : V) : yesB (F8z 37 (nn 40) kv S0 fin) = true := by kernel_rfl
theorem er40x39 (kv : V) : yesB (F8z 39 (nn 40) kv S0 fin) = true := by kernel_rfl
theorem er42x8 (kv : V) : yesB (F8z 8 (nn 42) kv S0 fin) = true := by kernel_rfl
theorem er42x20 (kv : V) : yesB (F8z 20 (nn 42) kv S0 fin) = true := by kernel_rfl
theorem er42x21 (kv : V) : yesB (F8z 21 (nn 42) kv S0 fin) = true := by kernel_rfl
theorem er42x41 (kv : V) : yesB (F8z 41 (nn 42) kv S0 fin) = true := by kernel_rfl
theorem er44x12 (kv : V) : yesB (F8z 12 (nn 44) kv S0 fin) = true := by kernel_rfl
theorem er45x24 (kv : V) : yesB (F8z 24 (nn 45) kv S0 fin) = true := by kernel_rfl
theorem er45x33 (kv : V) : yesB (F8z 33 (nn 45) kv S0 fin) = true := by kernel_rfl
theorem er45x39 (kv : V) : yesB (F8z 39 (nn 45) kv S0 fin) = true := by kernel_rfl
theorem er46x14 (kv : V) : yesB (F8z 14 (nn 46) kv S0 fin) = true := by kernel_rfl
theorem er46x25 (kv : V) : yesB (F8z 25 (nn 46) kv S0 fin) = true := by kernel_rfl
theorem er48x8 (kv : V) : yesB (F8z 8 (nn 48) kv S0 fin) = true := by kernel_rfl
theorem er48x29 (kv : V) : yesB (F8z 29 (nn 48) kv S0 fin) = true := by kernel_rfl
theorem er50x22 (kv : V) : yesB (F8z 22 (nn 50) kv S0 fin) = true := by kernel_rfl
theorem er50x28 (kv : V) : yesB (F8z 28 (nn 50) kv S0 fin) = true := by kernel_rfl
theorem er50x38 (kv : V) : yesB (F8z 38 (nn 50) kv S0 fin) = true := by kernel_rfl
theorem er52x19 (kv : V) : yesB (F8z 19 (nn 52) kv S0 fin) = true := by kernel_rfl
theorem er52x26 (kv : V) : yesB (F8z 26 (nn 52) kv S0 fin) = true := by kernel_rfl
theorem er52x38 (kv : V) : yesB (F8z 38 (nn 52) kv S0 fin) = true := by kernel_rfl
theorem er54x24 (kv : V) : yesB (F8z 24 (nn 54) kv S0 fin) = true := by kernel_rfl
theorem er54x37 (kv : V) : yesB (F8z 37 (nn 54) kv S0 fin) = true := by kernel_rfl
theorem er54x46 (kv : V) : yesB (F8z 46 (nn 54) kv S0 fin) = true := by kernel_rfl
theorem er54x52 (kv : V) : yesB (F8z 52 (nn 54) kv S0 fin) = true := by kernel_rfl
theorem er56x12 (kv : V) : yesB (F8z 12 (nn 56) kv S0 fin) = true := by kernel_rfl
theorem er56x15 (kv : V) : yesB (F8z 15 (nn 56) kv S0 fin) = true := by kernel_rfl
theorem er56x50 (kv : V) : yesB (F8z 50 (nn 56) kv S0 fin) = true := by kernel_rfl
theorem er60x9 (kv : V) : yesB (F8z 9 (nn 60) kv S0 fin) = true := by kernel_rfl
theorem er60x47 (kv : V) : yesB (F8z 47 (nn 60) kv S0 fin) = true := by kernel_rfl
theorem er63x0 (kv : V) : yesB (F8z 0 (nn 63) kv S0 fin) = true := by kernel_rfl
theorem er66x33 (kv : V) : yesB (F8z 33 (nn 66) kv S0 fin) = true := by kernel_rfl
theorem er66x41 (kv : V) : yesB (F8z 41 (nn 66) kv S0 fin) = true := by kernel_rfl
theorem er70x19 (kv : V) : yesB (F8z 19 (nn 70) kv S0 fin) = true := by kernel_rfl
theorem er70x21 (kv : V) : yesB (F8z 21 (nn 70) kv S0 fin) = true := by kernel_rfl
theorem er70x41 (kv : V) : yesB (F8z 41 (nn 70) kv S0 fin) = true := by kernel_rfl
theorem er70x58 (kv : V) : yesB (F8z 58 (nn 70) kv S0 fin) = true := by kernel_rfl
theorem er70x64 (kv : V) : yesB (F8z 64 (nn 70) kv S0 fin) = true := by kernel_rfl
theorem er72x10 (kv : V) : yesB (F8z 10 (nn 72) kv S0 fin) = true := by kernel_rfl
theorem er72x55 (kv : V) : yesB (F8z 55 (nn 72) kv S0 fin) = true := by kernel_rfl
theorem er78x60 (kv : V) : yesB (F8z 60 (nn 78) kv S0 fin) = true := by kernel_rfl
theorem er78x63 (kv : V) : yesB (F8z 63 (nn 78) kv S0 fin) = true := by kernel_rfl
theorem er78x66 (kv : V) : yesB (F8z 66 (nn 78) kv S0 fin) = true := by kernel_rfl
theorem er84x0 (kv : V) : yesB (F8z 0 (nn 84) kv S0 fin) = true := by kernel_rfl
theorem er84x48 (kv : V) : yesB (F8z 48 (nn 84) kv S0 fin) = true := by kernel_rfl
theorem er90x4 (kv : V) : yesB (F8z 4 (nn 90) kv S0 fin) = true := by kernel_rfl
theorem er90x32 (kv : V) : yesB (F8z 32 (nn 90) kv S0 fin) = true := by kernel_rfl
theorem er94x0 (kv : V) : yesB (F8z 0 (nn 94) kv S0 fin) = true := by kernel_rfl
theorem er111x0 (kv : V) : yesB (F8z 0 (nn 111) kv S0 fin) = true := by kernel_rfl
theorem er114x0 (kv : V) : yesB (F8z 0 (nn 114) kv S0 fin) = true := by kernel_rfl
theorem er210x0 (kv : V) : yesB (F8z 0 (nn 210) kv S0 fin) = true := by kernel_rfl
end
end Go.AM
