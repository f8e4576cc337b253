/- Runs of the law. -/
import Derived.Test.YtndgeimkifdifaaGreatMEC
set_option maxRecDepth 1000000
set_option linter.unusedVariables false
namespace Go.AM
open Go.Proofs
noncomputable section
theorem er5x0 (kv : V) : yesB (F8z 0 (nn 5) kv S0 fin) = true := by kernel_rfl
theorem er10x2 (kv : V) : yesB (F8z 2 (nn 10) kv S0 fin) = true := by kernel_rfl
theorem er10x4 (kv : V) : yesB (F8z 4 (nn 10) kv S0 fin) = true := by kernel_rfl
theorem er13x10 (kv : V) : yesB (F8z 10 (nn 13) kv S0 fin) = true := by kernel_rfl
theorem er13x11 (kv : V) : yesB (F8z 11 (nn 13) kv S0 fin) = true := by kernel_rfl
theorem er14x5 (kv : V) : yesB (F8z 5 (nn 14) kv S0 fin) = true := by kernel_rfl
theorem er15x6 (kv : V) : yesB (F8z 6 (nn 15) kv S0 fin) = true := by kernel_rfl
theorem er18x16 (kv : V) : yesB (F8z 16 (nn 18) kv S0 fin) = true := by kernel_rfl
theorem er18x17 (kv : V) : yesB (F8z 17 (nn 18) kv S0 fin) = true := by kernel_rfl
theorem er19x8 (kv : V) : yesB (F8z 8 (nn 19) kv S0 fin) = true := by kernel_rfl
theorem er19x13 (kv : V) : yesB (F8z 13 (nn 19) kv S0 fin) = true := by kernel_rfl
theorem er20x14 (kv : V) : yesB (F8z 14 (nn 20) kv S0 fin) = true := by kernel_rfl
theorem er21x16 (kv : V) : yesB (F8z 16 (nn 21) kv S0 fin) = true := by kernel_rfl
theorem er22x9 (kv : V) : yesB (F8z 9 (nn 22) kv S0 fin) = true := by kernel_rfl
theorem er23x3 (kv : V) : yesB (F8z 3 (nn 23) kv S0 fin) = true := by kernel_rfl
theorem er24x1 (kv : V) : yesB (F8z 1 (nn 24) kv S0 fin) = true := by kernel_rfl
theorem er25x14 (kv : V) : yesB (F8z 14 (nn 25) kv S0 fin) = true := by kernel_rfl
theorem er26x19 (kv : V) : yesB (F8z 19 (nn 26) kv S0 fin) = true := by kernel_rfl
theorem er26x25 (kv : V) : yesB (F8z 25 (nn 26) kv S0 fin) = true := by kernel_rfl
theorem er27x7 (kv : V) : yesB (F8z 7 (nn 27) kv S0 fin) = true := by kernel_rfl
theorem er30x7 (kv : V) : yesB (F8z 7 (nn 30) kv S0 fin) = true := by kernel_rfl
theorem er33x9 (kv : V) : yesB (F8z 9 (nn 33) kv S0 fin) = true := by kernel_rfl
theorem er34x4 (kv : V) : yesB (F8z 4 (nn 34) kv S0 fin) = true := by kernel_rfl
theorem er35x2 (kv : V) : yesB (F8z 2 (nn 35) kv S0 fin) = true := by kernel_rfl
theorem er35x4 (kv : V) : yesB (F8z 4 (nn 35) kv S0 fin) = true := by kernel_rfl
theorem er38x19 (kv : V) : yesB (F8z 19 (nn 38) kv S0 fin) = true := by kernel_rfl
theorem er38x30 (kv : V) : yesB (F8z 30 (nn 38) kv S0 fin) = true := by kernel_rfl
theorem er39x0 (kv : V) : yesB (F8z 0 (nn 39) kv S0 fin) = true := by kernel_rfl
theorem er39x9 (kv : V) : yesB (F8z 9 (nn 39) kv S0 fin) = true := by kernel_rfl
theorem er39x36 (kv : V) : yesB (F8z 36 (nn 39) kv S0 fin) = true := by kernel_rfl
theorem er39x37 (kv : V) : yesB (F8z 37 (nn 39) kv S0 fin) = true := by kernel_rfl
theorem er40x7 (kv : V) : yesB (F8z 7 (nn 40) kv S0 fin) = true := by kernel_rfl
theorem er40x24 (kv : V) : yesB (F8z 24 (nn 40) kv S0 fin) = true := by kernel_rfl
theorem er42x13 (kv : V) : yesB (F8z 13 (nn 42) kv S0 fin) = true := by kernel_rfl
theorem er42x40 (kv : V) : yesB (F8z 40 (nn 42) kv S0 fin) = true := by kernel_rfl
theorem er45x16 (kv : V) : yesB (F8z 16 (nn 45) kv S0 fin) = true := by kernel_rfl
theorem er45x38 (kv : V) : yesB (F8z 38 (nn 45) kv S0 fin) = true := by kernel_rfl
theorem er46x15 (kv : V) : yesB (F8z 15 (nn 46) kv S0 fin) = true := by kernel_rfl
theorem er46x24 (kv : V) : yesB (F8z 24 (nn 46) kv S0 fin) = true := by kernel_rfl
theorem er48x11 (kv : V) : yesB (F8z 11 (nn 48) kv S0 fin) = true := by kernel_rfl
theorem er48x26 (kv : V) : yesB (F8z 26 (nn 48) kv S0 fin) = true := by kernel_rfl
theorem er48x45 (kv : V) : yesB (F8z 45 (nn 48) kv S0 fin) = true := by kernel_rfl
theorem er50x39 (kv : V) : yesB (F8z 39 (nn 50) kv S0 fin) = true := by kernel_rfl
theorem er50x48 (kv : V) : yesB (F8z 48 (nn 50) kv S0 fin) = true := by kernel_rfl
theorem er51x0 (kv : V) : yesB (F8z 0 (nn 51) kv S0 fin) = true := by kernel_rfl
theorem er52x4 (kv : V) : yesB (F8z 4 (nn 52) kv S0 fin) = true := by kernel_rfl
theorem er52x6 (kv : V) : yesB (F8z 6 (nn 52) kv S0 fin) = true := by kernel_rfl
theorem er52x18 (kv : V) : yesB (F8z 18 (nn 52) kv S0 fin) = true := by kernel_rfl
theorem er52x20 (kv : V) : yesB (F8z 20 (nn 52) kv S0 fin) = true := by kernel_rfl
theorem er52x31 (kv : V) : yesB (F8z 31 (nn 52) kv S0 fin) = true := by kernel_rfl
theorem er52x40 (kv : V) : yesB (F8z 40 (nn 52) kv S0 fin) = true := by kernel_rfl
theorem er52x44 (kv : V) : yesB (F8z 44 (nn 52) kv S0 fin) = true := by kernel_rfl
theorem er54x13 (kv : V) : yesB (F8z 13 (nn 54) kv S0 fin) = true := by kernel_rfl
theorem er54x23 (kv : V) : yesB (F8z 23 (nn 54) kv S0 fin) = true := by kernel_rfl
theorem er56x29 (kv : V) : yesB (F8z 29 (nn 56) kv S0 fin) = true := by kernel_rfl
theorem er60x6 (kv : V) : yesB (F8z 6 (nn 60) kv S0 fin) = true := by kernel_rfl
theorem er60x54 (kv : V) : yesB (F8z 54 (nn 60) kv S0 fin) = true := by kernel_rfl
theorem er66x34 (kv : V) : yesB (F8z 34 (nn 66) kv S0 fin) = true := by kernel_rfl
theorem er66x38 (kv : V) : yesB (F8z 38 (nn 66) kv S0 fin) = true := by kernel_rfl
theorem er66x47 (kv : V) : yesB (F8z 47 (nn 66) kv S0 fin) = true := by kernel_rfl
theorem er66x59 (kv : V) : yesB (F8z 59 (nn 66) kv S0 fin) = true := by kernel_rfl
theorem er66x65 (kv : V) : yesB (F8z 65 (nn 66) kv S0 fin) = true := by kernel_rfl
theorem er70x11 (kv : V) : yesB (F8z 11 (nn 70) kv S0 fin) = true := by kernel_rfl
theorem er70x49 (kv : V) : yesB (F8z 49 (nn 70) kv S0 fin) = true := by kernel_rfl
theorem er70x69 (kv : V) : yesB (F8z 69 (nn 70) kv S0 fin) = true := by kernel_rfl
theorem er72x7 (kv : V) : yesB (F8z 7 (nn 72) kv S0 fin) = true := by kernel_rfl
theorem er78x10 (kv : V) : yesB (F8z 10 (nn 78) kv S0 fin) = true := by kernel_rfl
theorem er78x16 (kv : V) : yesB (F8z 16 (nn 78) kv S0 fin) = true := by kernel_rfl
theorem er78x21 (kv : V) : yesB (F8z 21 (nn 78) kv S0 fin) = true := by kernel_rfl
theorem er78x24 (kv : V) : yesB (F8z 24 (nn 78) kv S0 fin) = true := by kernel_rfl
theorem er78x32 (kv : V) : yesB (F8z 32 (nn 78) kv S0 fin) = true := by kernel_rfl
theorem er78x59 (kv : V) : yesB (F8z 59 (nn 78) kv S0 fin) = true := by kernel_rfl
theorem er90x12 (kv : V) : yesB (F8z 12 (nn 90) kv S0 fin) = true := by kernel_rfl
theorem er90x22 (kv : V) : yesB (F8z 22 (nn 90) kv S0 fin) = true := by kernel_rfl
theorem er90x41 (kv : V) : yesB (F8z 41 (nn 90) kv S0 fin) = true := by kernel_rfl
theorem er90x53 (kv : V) : yesB (F8z 53 (nn 90) kv S0 fin) = true := by kernel_rfl
theorem er105x0 (kv : V) : yesB (F8z 0 (nn 105) kv S0 fin) = true := by kernel_rfl
theorem er135x0 (kv : V) : yesB (F8z 0 (nn 135) kv S0 fin) = true := by kernel_rfl
theorem er147x0 (kv : V) : yesB (F8z 0 (nn 147) kv S0 fin) = true := by kernel_rfl
theorem er175x0 (kv : V) : yesB (F8z 0 (nn 175) kv S0 fin) = true := by kernel_rfl
theorem er195x0 (kv : V) : yesB (F8z 0 (nn 195) kv S0 fin) = true := by kernel_rfl
theorem er199x0 (kv : V) : yesB (F8z 0 (nn 199) kv S0 fin) = true := by kernel_rfl
theorem er204x0 (kv : V) : yesB (F8z 0 (nn 204) kv S0 fin) = true := by kernel_rfl
theorem er220x0 (kv : V) : yesB (F8z 0 (nn 220) kv S0 fin) = true := by kernel_rfl
theorem er226x0 (kv : V) : yesB (F8z 0 (nn 226) kv S0 fin) = true := by kernel_rfl
theorem er240x0 (kv : V) : yesB (F8z 0 (nn 240) kv S0 fin) = true := by kernel_rfl
end
end Go.AM
