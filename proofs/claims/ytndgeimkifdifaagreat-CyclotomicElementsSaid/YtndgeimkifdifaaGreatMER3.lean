/- Runs of the law. -/
import Derived.Test.YtndgeimkifdifaaGreatMEC
set_option maxRecDepth 1000000
set_option linter.unusedVariables false
namespace Go.AM
open Go.Proofs
noncomputable section
theorem er7x2 (kv : V) : yesB (F8z 2 (nn 7) kv S0 fin) = true := by kernel_rfl
theorem er11x3 (kv : V) : yesB (F8z 3 (nn 11) kv S0 fin) = true := by kernel_rfl
theorem er14x3 (kv : V) : yesB (F8z 3 (nn 14) kv S0 fin) = true := by kernel_rfl
theorem er16x15 (kv : V) : yesB (F8z 15 (nn 16) kv S0 fin) = true := by kernel_rfl
theorem er18x9 (kv : V) : yesB (F8z 9 (nn 18) kv S0 fin) = true := by kernel_rfl
theorem er19x3 (kv : V) : yesB (F8z 3 (nn 19) kv S0 fin) = true := by kernel_rfl
theorem er19x17 (kv : V) : yesB (F8z 17 (nn 19) kv S0 fin) = true := by kernel_rfl
theorem er21x1 (kv : V) : yesB (F8z 1 (nn 21) kv S0 fin) = true := by kernel_rfl
theorem er21x10 (kv : V) : yesB (F8z 10 (nn 21) kv S0 fin) = true := by kernel_rfl
theorem er22x0 (kv : V) : yesB (F8z 0 (nn 22) kv S0 fin) = true := by kernel_rfl
theorem er22x15 (kv : V) : yesB (F8z 15 (nn 22) kv S0 fin) = true := by kernel_rfl
theorem er24x11 (kv : V) : yesB (F8z 11 (nn 24) kv S0 fin) = true := by kernel_rfl
theorem er24x15 (kv : V) : yesB (F8z 15 (nn 24) kv S0 fin) = true := by kernel_rfl
theorem er25x0 (kv : V) : yesB (F8z 0 (nn 25) kv S0 fin) = true := by kernel_rfl
theorem er25x4 (kv : V) : yesB (F8z 4 (nn 25) kv S0 fin) = true := by kernel_rfl
theorem er26x15 (kv : V) : yesB (F8z 15 (nn 26) kv S0 fin) = true := by kernel_rfl
theorem er28x5 (kv : V) : yesB (F8z 5 (nn 28) kv S0 fin) = true := by kernel_rfl
theorem er28x11 (kv : V) : yesB (F8z 11 (nn 28) kv S0 fin) = true := by kernel_rfl
theorem er30x14 (kv : V) : yesB (F8z 14 (nn 30) kv S0 fin) = true := by kernel_rfl
theorem er34x24 (kv : V) : yesB (F8z 24 (nn 34) kv S0 fin) = true := by kernel_rfl
theorem er36x13 (kv : V) : yesB (F8z 13 (nn 36) kv S0 fin) = true := by kernel_rfl
theorem er36x31 (kv : V) : yesB (F8z 31 (nn 36) kv S0 fin) = true := by kernel_rfl
theorem er37x0 (kv : V) : yesB (F8z 0 (nn 37) kv S0 fin) = true := by kernel_rfl
theorem er38x10 (kv : V) : yesB (F8z 10 (nn 38) kv S0 fin) = true := by kernel_rfl
theorem er38x12 (kv : V) : yesB (F8z 12 (nn 38) kv S0 fin) = true := by kernel_rfl
theorem er39x13 (kv : V) : yesB (F8z 13 (nn 39) kv S0 fin) = true := by kernel_rfl
theorem er39x18 (kv : V) : yesB (F8z 18 (nn 39) kv S0 fin) = true := by kernel_rfl
theorem er39x25 (kv : V) : yesB (F8z 25 (nn 39) kv S0 fin) = true := by kernel_rfl
theorem er40x20 (kv : V) : yesB (F8z 20 (nn 40) kv S0 fin) = true := by kernel_rfl
theorem er40x28 (kv : V) : yesB (F8z 28 (nn 40) kv S0 fin) = true := by kernel_rfl
theorem er42x7 (kv : V) : yesB (F8z 7 (nn 42) kv S0 fin) = true := by kernel_rfl
theorem er42x16 (kv : V) : yesB (F8z 16 (nn 42) kv S0 fin) = true := by kernel_rfl
theorem er42x34 (kv : V) : yesB (F8z 34 (nn 42) kv S0 fin) = true := by kernel_rfl
theorem er44x16 (kv : V) : yesB (F8z 16 (nn 44) kv S0 fin) = true := by kernel_rfl
theorem er44x20 (kv : V) : yesB (F8z 20 (nn 44) kv S0 fin) = true := by kernel_rfl
theorem er45x23 (kv : V) : yesB (F8z 23 (nn 45) kv S0 fin) = true := by kernel_rfl
theorem er45x32 (kv : V) : yesB (F8z 32 (nn 45) kv S0 fin) = true := by kernel_rfl
theorem er45x35 (kv : V) : yesB (F8z 35 (nn 45) kv S0 fin) = true := by kernel_rfl
theorem er46x10 (kv : V) : yesB (F8z 10 (nn 46) kv S0 fin) = true := by kernel_rfl
theorem er46x22 (kv : V) : yesB (F8z 22 (nn 46) kv S0 fin) = true := by kernel_rfl
theorem er48x32 (kv : V) : yesB (F8z 32 (nn 48) kv S0 fin) = true := by kernel_rfl
theorem er50x0 (kv : V) : yesB (F8z 0 (nn 50) kv S0 fin) = true := by kernel_rfl
theorem er50x33 (kv : V) : yesB (F8z 33 (nn 50) kv S0 fin) = true := by kernel_rfl
theorem er52x2 (kv : V) : yesB (F8z 2 (nn 52) kv S0 fin) = true := by kernel_rfl
theorem er52x8 (kv : V) : yesB (F8z 8 (nn 52) kv S0 fin) = true := by kernel_rfl
theorem er52x30 (kv : V) : yesB (F8z 30 (nn 52) kv S0 fin) = true := by kernel_rfl
theorem er52x35 (kv : V) : yesB (F8z 35 (nn 52) kv S0 fin) = true := by kernel_rfl
theorem er52x39 (kv : V) : yesB (F8z 39 (nn 52) kv S0 fin) = true := by kernel_rfl
theorem er54x27 (kv : V) : yesB (F8z 27 (nn 54) kv S0 fin) = true := by kernel_rfl
theorem er54x33 (kv : V) : yesB (F8z 33 (nn 54) kv S0 fin) = true := by kernel_rfl
theorem er56x32 (kv : V) : yesB (F8z 32 (nn 56) kv S0 fin) = true := by kernel_rfl
theorem er60x8 (kv : V) : yesB (F8z 8 (nn 60) kv S0 fin) = true := by kernel_rfl
theorem er60x10 (kv : V) : yesB (F8z 10 (nn 60) kv S0 fin) = true := by kernel_rfl
theorem er60x12 (kv : V) : yesB (F8z 12 (nn 60) kv S0 fin) = true := by kernel_rfl
theorem er60x14 (kv : V) : yesB (F8z 14 (nn 60) kv S0 fin) = true := by kernel_rfl
theorem er60x45 (kv : V) : yesB (F8z 45 (nn 60) kv S0 fin) = true := by kernel_rfl
theorem er60x55 (kv : V) : yesB (F8z 55 (nn 60) kv S0 fin) = true := by kernel_rfl
theorem er66x11 (kv : V) : yesB (F8z 11 (nn 66) kv S0 fin) = true := by kernel_rfl
theorem er66x17 (kv : V) : yesB (F8z 17 (nn 66) kv S0 fin) = true := by kernel_rfl
theorem er66x60 (kv : V) : yesB (F8z 60 (nn 66) kv S0 fin) = true := by kernel_rfl
theorem er70x32 (kv : V) : yesB (F8z 32 (nn 70) kv S0 fin) = true := by kernel_rfl
theorem er70x50 (kv : V) : yesB (F8z 50 (nn 70) kv S0 fin) = true := by kernel_rfl
theorem er70x66 (kv : V) : yesB (F8z 66 (nn 70) kv S0 fin) = true := by kernel_rfl
theorem er72x20 (kv : V) : yesB (F8z 20 (nn 72) kv S0 fin) = true := by kernel_rfl
theorem er72x70 (kv : V) : yesB (F8z 70 (nn 72) kv S0 fin) = true := by kernel_rfl
theorem er78x14 (kv : V) : yesB (F8z 14 (nn 78) kv S0 fin) = true := by kernel_rfl
theorem er78x37 (kv : V) : yesB (F8z 37 (nn 78) kv S0 fin) = true := by kernel_rfl
theorem er78x73 (kv : V) : yesB (F8z 73 (nn 78) kv S0 fin) = true := by kernel_rfl
theorem er84x33 (kv : V) : yesB (F8z 33 (nn 84) kv S0 fin) = true := by kernel_rfl
theorem er84x60 (kv : V) : yesB (F8z 60 (nn 84) kv S0 fin) = true := by kernel_rfl
theorem er88x0 (kv : V) : yesB (F8z 0 (nn 88) kv S0 fin) = true := by kernel_rfl
theorem er90x1 (kv : V) : yesB (F8z 1 (nn 90) kv S0 fin) = true := by kernel_rfl
theorem er90x36 (kv : V) : yesB (F8z 36 (nn 90) kv S0 fin) = true := by kernel_rfl
theorem er90x48 (kv : V) : yesB (F8z 48 (nn 90) kv S0 fin) = true := by kernel_rfl
theorem er90x54 (kv : V) : yesB (F8z 54 (nn 90) kv S0 fin) = true := by kernel_rfl
theorem er91x0 (kv : V) : yesB (F8z 0 (nn 91) kv S0 fin) = true := by kernel_rfl
theorem er125x0 (kv : V) : yesB (F8z 0 (nn 125) kv S0 fin) = true := by kernel_rfl
theorem er129x0 (kv : V) : yesB (F8z 0 (nn 129) kv S0 fin) = true := by kernel_rfl
theorem er130x0 (kv : V) : yesB (F8z 0 (nn 130) kv S0 fin) = true := by kernel_rfl
theorem er197x0 (kv : V) : yesB (F8z 0 (nn 197) kv S0 fin) = true := by kernel_rfl
theorem er212x0 (kv : V) : yesB (F8z 0 (nn 212) kv S0 fin) = true := by kernel_rfl
theorem er213x0 (kv : V) : yesB (F8z 0 (nn 213) kv S0 fin) = true := by kernel_rfl
theorem er227x0 (kv : V) : yesB (F8z 0 (nn 227) kv S0 fin) = true := by kernel_rfl
theorem er250x0 (kv : V) : yesB (F8z 0 (nn 250) kv S0 fin) = true := by kernel_rfl
theorem er251x0 (kv : V) : yesB (F8z 0 (nn 251) kv S0 fin) = true := by kernel_rfl
end
end Go.AM
