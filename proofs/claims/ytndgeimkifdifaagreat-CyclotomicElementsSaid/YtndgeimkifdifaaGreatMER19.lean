/- Runs of the law. -/
import Derived.Test.YtndgeimkifdifaaGreatMEC
set_option maxRecDepth 1000000
set_option linter.unusedVariables false
namespace Go.AM
open Go.Proofs
noncomputable section
theorem er3x2 (kv : V) : yesB (F8z 2 (nn 3) kv S0 fin) = true := by kernel_rfl
theorem er6x0 (kv : V) : yesB (F8z 0 (nn 6) kv S0 fin) = true := by kernel_rfl
theorem er6x4 (kv : V) : yesB (F8z 4 (nn 6) kv S0 fin) = true := by kernel_rfl
theorem er12x1 (kv : V) : yesB (F8z 1 (nn 12) kv S0 fin) = true := by kernel_rfl
theorem er13x12 (kv : V) : yesB (F8z 12 (nn 13) kv S0 fin) = true := by kernel_rfl
theorem er14x12 (kv : V) : yesB (F8z 12 (nn 14) kv S0 fin) = true := by kernel_rfl
theorem er17x14 (kv : V) : yesB (F8z 14 (nn 17) kv S0 fin) = true := by kernel_rfl
theorem er19x2 (kv : V) : yesB (F8z 2 (nn 19) kv S0 fin) = true := by kernel_rfl
theorem er20x11 (kv : V) : yesB (F8z 11 (nn 20) kv S0 fin) = true := by kernel_rfl
theorem er20x12 (kv : V) : yesB (F8z 12 (nn 20) kv S0 fin) = true := by kernel_rfl
theorem er24x5 (kv : V) : yesB (F8z 5 (nn 24) kv S0 fin) = true := by kernel_rfl
theorem er24x16 (kv : V) : yesB (F8z 16 (nn 24) kv S0 fin) = true := by kernel_rfl
theorem er27x1 (kv : V) : yesB (F8z 1 (nn 27) kv S0 fin) = true := by kernel_rfl
theorem er27x23 (kv : V) : yesB (F8z 23 (nn 27) kv S0 fin) = true := by kernel_rfl
theorem er27x25 (kv : V) : yesB (F8z 25 (nn 27) kv S0 fin) = true := by kernel_rfl
theorem er28x0 (kv : V) : yesB (F8z 0 (nn 28) kv S0 fin) = true := by kernel_rfl
theorem er28x9 (kv : V) : yesB (F8z 9 (nn 28) kv S0 fin) = true := by kernel_rfl
theorem er30x1 (kv : V) : yesB (F8z 1 (nn 30) kv S0 fin) = true := by kernel_rfl
theorem er30x27 (kv : V) : yesB (F8z 27 (nn 30) kv S0 fin) = true := by kernel_rfl
theorem er32x7 (kv : V) : yesB (F8z 7 (nn 32) kv S0 fin) = true := by kernel_rfl
theorem er33x1 (kv : V) : yesB (F8z 1 (nn 33) kv S0 fin) = true := by kernel_rfl
theorem er33x6 (kv : V) : yesB (F8z 6 (nn 33) kv S0 fin) = true := by kernel_rfl
theorem er33x13 (kv : V) : yesB (F8z 13 (nn 33) kv S0 fin) = true := by kernel_rfl
theorem er34x10 (kv : V) : yesB (F8z 10 (nn 34) kv S0 fin) = true := by kernel_rfl
theorem er34x15 (kv : V) : yesB (F8z 15 (nn 34) kv S0 fin) = true := by kernel_rfl
theorem er34x17 (kv : V) : yesB (F8z 17 (nn 34) kv S0 fin) = true := by kernel_rfl
theorem er34x28 (kv : V) : yesB (F8z 28 (nn 34) kv S0 fin) = true := by kernel_rfl
theorem er35x24 (kv : V) : yesB (F8z 24 (nn 35) kv S0 fin) = true := by kernel_rfl
theorem er36x3 (kv : V) : yesB (F8z 3 (nn 36) kv S0 fin) = true := by kernel_rfl
theorem er36x14 (kv : V) : yesB (F8z 14 (nn 36) kv S0 fin) = true := by kernel_rfl
theorem er36x24 (kv : V) : yesB (F8z 24 (nn 36) kv S0 fin) = true := by kernel_rfl
theorem er36x25 (kv : V) : yesB (F8z 25 (nn 36) kv S0 fin) = true := by kernel_rfl
theorem er38x34 (kv : V) : yesB (F8z 34 (nn 38) kv S0 fin) = true := by kernel_rfl
theorem er39x2 (kv : V) : yesB (F8z 2 (nn 39) kv S0 fin) = true := by kernel_rfl
theorem er39x11 (kv : V) : yesB (F8z 11 (nn 39) kv S0 fin) = true := by kernel_rfl
theorem er39x27 (kv : V) : yesB (F8z 27 (nn 39) kv S0 fin) = true := by kernel_rfl
theorem er39x31 (kv : V) : yesB (F8z 31 (nn 39) kv S0 fin) = true := by kernel_rfl
theorem er40x36 (kv : V) : yesB (F8z 36 (nn 40) kv S0 fin) = true := by kernel_rfl
theorem er42x3 (kv : V) : yesB (F8z 3 (nn 42) kv S0 fin) = true := by kernel_rfl
theorem er42x26 (kv : V) : yesB (F8z 26 (nn 42) kv S0 fin) = true := by kernel_rfl
theorem er42x33 (kv : V) : yesB (F8z 33 (nn 42) kv S0 fin) = true := by kernel_rfl
theorem er42x38 (kv : V) : yesB (F8z 38 (nn 42) kv S0 fin) = true := by kernel_rfl
theorem er44x14 (kv : V) : yesB (F8z 14 (nn 44) kv S0 fin) = true := by kernel_rfl
theorem er44x29 (kv : V) : yesB (F8z 29 (nn 44) kv S0 fin) = true := by kernel_rfl
theorem er46x13 (kv : V) : yesB (F8z 13 (nn 46) kv S0 fin) = true := by kernel_rfl
theorem er46x20 (kv : V) : yesB (F8z 20 (nn 46) kv S0 fin) = true := by kernel_rfl
theorem er46x31 (kv : V) : yesB (F8z 31 (nn 46) kv S0 fin) = true := by kernel_rfl
theorem er46x32 (kv : V) : yesB (F8z 32 (nn 46) kv S0 fin) = true := by kernel_rfl
theorem er46x34 (kv : V) : yesB (F8z 34 (nn 46) kv S0 fin) = true := by kernel_rfl
theorem er48x15 (kv : V) : yesB (F8z 15 (nn 48) kv S0 fin) = true := by kernel_rfl
theorem er50x20 (kv : V) : yesB (F8z 20 (nn 50) kv S0 fin) = true := by kernel_rfl
theorem er50x25 (kv : V) : yesB (F8z 25 (nn 50) kv S0 fin) = true := by kernel_rfl
theorem er52x3 (kv : V) : yesB (F8z 3 (nn 52) kv S0 fin) = true := by kernel_rfl
theorem er52x11 (kv : V) : yesB (F8z 11 (nn 52) kv S0 fin) = true := by kernel_rfl
theorem er52x48 (kv : V) : yesB (F8z 48 (nn 52) kv S0 fin) = true := by kernel_rfl
theorem er54x10 (kv : V) : yesB (F8z 10 (nn 54) kv S0 fin) = true := by kernel_rfl
theorem er55x0 (kv : V) : yesB (F8z 0 (nn 55) kv S0 fin) = true := by kernel_rfl
theorem er56x5 (kv : V) : yesB (F8z 5 (nn 56) kv S0 fin) = true := by kernel_rfl
theorem er56x7 (kv : V) : yesB (F8z 7 (nn 56) kv S0 fin) = true := by kernel_rfl
theorem er56x13 (kv : V) : yesB (F8z 13 (nn 56) kv S0 fin) = true := by kernel_rfl
theorem er56x35 (kv : V) : yesB (F8z 35 (nn 56) kv S0 fin) = true := by kernel_rfl
theorem er56x40 (kv : V) : yesB (F8z 40 (nn 56) kv S0 fin) = true := by kernel_rfl
theorem er60x29 (kv : V) : yesB (F8z 29 (nn 60) kv S0 fin) = true := by kernel_rfl
theorem er60x35 (kv : V) : yesB (F8z 35 (nn 60) kv S0 fin) = true := by kernel_rfl
theorem er66x58 (kv : V) : yesB (F8z 58 (nn 66) kv S0 fin) = true := by kernel_rfl
theorem er70x46 (kv : V) : yesB (F8z 46 (nn 70) kv S0 fin) = true := by kernel_rfl
theorem er70x56 (kv : V) : yesB (F8z 56 (nn 70) kv S0 fin) = true := by kernel_rfl
theorem er71x0 (kv : V) : yesB (F8z 0 (nn 71) kv S0 fin) = true := by kernel_rfl
theorem er72x69 (kv : V) : yesB (F8z 69 (nn 72) kv S0 fin) = true := by kernel_rfl
theorem er78x3 (kv : V) : yesB (F8z 3 (nn 78) kv S0 fin) = true := by kernel_rfl
theorem er78x50 (kv : V) : yesB (F8z 50 (nn 78) kv S0 fin) = true := by kernel_rfl
theorem er78x57 (kv : V) : yesB (F8z 57 (nn 78) kv S0 fin) = true := by kernel_rfl
theorem er79x0 (kv : V) : yesB (F8z 0 (nn 79) kv S0 fin) = true := by kernel_rfl
theorem er84x34 (kv : V) : yesB (F8z 34 (nn 84) kv S0 fin) = true := by kernel_rfl
theorem er84x62 (kv : V) : yesB (F8z 62 (nn 84) kv S0 fin) = true := by kernel_rfl
theorem er84x81 (kv : V) : yesB (F8z 81 (nn 84) kv S0 fin) = true := by kernel_rfl
theorem er90x45 (kv : V) : yesB (F8z 45 (nn 90) kv S0 fin) = true := by kernel_rfl
theorem er90x82 (kv : V) : yesB (F8z 82 (nn 90) kv S0 fin) = true := by kernel_rfl
theorem er97x0 (kv : V) : yesB (F8z 0 (nn 97) kv S0 fin) = true := by kernel_rfl
theorem er112x0 (kv : V) : yesB (F8z 0 (nn 112) kv S0 fin) = true := by kernel_rfl
theorem er131x0 (kv : V) : yesB (F8z 0 (nn 131) kv S0 fin) = true := by kernel_rfl
theorem er149x0 (kv : V) : yesB (F8z 0 (nn 149) kv S0 fin) = true := by kernel_rfl
theorem er157x0 (kv : V) : yesB (F8z 0 (nn 157) kv S0 fin) = true := by kernel_rfl
theorem er158x0 (kv : V) : yesB (F8z 0 (nn 158) kv S0 fin) = true := by kernel_rfl
theorem er179x0 (kv : V) : yesB (F8z 0 (nn 179) kv S0 fin) = true := by kernel_rfl
theorem er217x0 (kv : V) : yesB (F8z 0 (nn 217) kv S0 fin) = true := by kernel_rfl
end
end Go.AM
