/- Runs of the law. -/
import Derived.Test.YtndgeimkifdifaaGreatMEC
set_option maxRecDepth 1000000
set_option linter.unusedVariables false
namespace Go.AM
open Go.Proofs
noncomputable section
theorem er3x0 (kv : V) : yesB (F8z 0 (nn 3) kv S0 fin) = true := by kernel_rfl
theorem er10x3 (kv : V) : yesB (F8z 3 (nn 10) kv S0 fin) = true := by kernel_rfl
theorem er10x5 (kv : V) : yesB (F8z 5 (nn 10) kv S0 fin) = true := by kernel_rfl
theorem er15x0 (kv : V) : yesB (F8z 0 (nn 15) kv S0 fin) = true := by kernel_rfl
theorem er15x13 (kv : V) : yesB (F8z 13 (nn 15) kv S0 fin) = true := by kernel_rfl
theorem er20x8 (kv : V) : yesB (F8z 8 (nn 20) kv S0 fin) = true := by kernel_rfl
theorem er22x21 (kv : V) : yesB (F8z 21 (nn 22) kv S0 fin) = true := by kernel_rfl
theorem er23x17 (kv : V) : yesB (F8z 17 (nn 23) kv S0 fin) = true := by kernel_rfl
theorem er23x20 (kv : V) : yesB (F8z 20 (nn 23) kv S0 fin) = true := by kernel_rfl
theorem er24x2 (kv : V) : yesB (F8z 2 (nn 24) kv S0 fin) = true := by kernel_rfl
theorem er25x7 (kv : V) : yesB (F8z 7 (nn 25) kv S0 fin) = true := by kernel_rfl
theorem er26x7 (kv : V) : yesB (F8z 7 (nn 26) kv S0 fin) = true := by kernel_rfl
theorem er28x1 (kv : V) : yesB (F8z 1 (nn 28) kv S0 fin) = true := by kernel_rfl
theorem er28x12 (kv : V) : yesB (F8z 12 (nn 28) kv S0 fin) = true := by kernel_rfl
theorem er30x4 (kv : V) : yesB (F8z 4 (nn 30) kv S0 fin) = true := by kernel_rfl
theorem er30x11 (kv : V) : yesB (F8z 11 (nn 30) kv S0 fin) = true := by kernel_rfl
theorem er30x24 (kv : V) : yesB (F8z 24 (nn 30) kv S0 fin) = true := by kernel_rfl
theorem er32x20 (kv : V) : yesB (F8z 20 (nn 32) kv S0 fin) = true := by kernel_rfl
theorem er32x26 (kv : V) : yesB (F8z 26 (nn 32) kv S0 fin) = true := by kernel_rfl
theorem er33x12 (kv : V) : yesB (F8z 12 (nn 33) kv S0 fin) = true := by kernel_rfl
theorem er33x24 (kv : V) : yesB (F8z 24 (nn 33) kv S0 fin) = true := by kernel_rfl
theorem er35x20 (kv : V) : yesB (F8z 20 (nn 35) kv S0 fin) = true := by kernel_rfl
theorem er35x34 (kv : V) : yesB (F8z 34 (nn 35) kv S0 fin) = true := by kernel_rfl
theorem er36x1 (kv : V) : yesB (F8z 1 (nn 36) kv S0 fin) = true := by kernel_rfl
theorem er36x6 (kv : V) : yesB (F8z 6 (nn 36) kv S0 fin) = true := by kernel_rfl
theorem er36x17 (kv : V) : yesB (F8z 17 (nn 36) kv S0 fin) = true := by kernel_rfl
theorem er36x18 (kv : V) : yesB (F8z 18 (nn 36) kv S0 fin) = true := by kernel_rfl
theorem er36x23 (kv : V) : yesB (F8z 23 (nn 36) kv S0 fin) = true := by kernel_rfl
theorem er36x35 (kv : V) : yesB (F8z 35 (nn 36) kv S0 fin) = true := by kernel_rfl
theorem er38x16 (kv : V) : yesB (F8z 16 (nn 38) kv S0 fin) = true := by kernel_rfl
theorem er39x10 (kv : V) : yesB (F8z 10 (nn 39) kv S0 fin) = true := by kernel_rfl
theorem er40x2 (kv : V) : yesB (F8z 2 (nn 40) kv S0 fin) = true := by kernel_rfl
theorem er40x10 (kv : V) : yesB (F8z 10 (nn 40) kv S0 fin) = true := by kernel_rfl
theorem er40x22 (kv : V) : yesB (F8z 22 (nn 40) kv S0 fin) = true := by kernel_rfl
theorem er40x31 (kv : V) : yesB (F8z 31 (nn 40) kv S0 fin) = true := by kernel_rfl
theorem er42x32 (kv : V) : yesB (F8z 32 (nn 42) kv S0 fin) = true := by kernel_rfl
theorem er42x37 (kv : V) : yesB (F8z 37 (nn 42) kv S0 fin) = true := by kernel_rfl
theorem er44x13 (kv : V) : yesB (F8z 13 (nn 44) kv S0 fin) = true := by kernel_rfl
theorem er44x26 (kv : V) : yesB (F8z 26 (nn 44) kv S0 fin) = true := by kernel_rfl
theorem er44x39 (kv : V) : yesB (F8z 39 (nn 44) kv S0 fin) = true := by kernel_rfl
theorem er45x12 (kv : V) : yesB (F8z 12 (nn 45) kv S0 fin) = true := by kernel_rfl
theorem er45x29 (kv : V) : yesB (F8z 29 (nn 45) kv S0 fin) = true := by kernel_rfl
theorem er46x1 (kv : V) : yesB (F8z 1 (nn 46) kv S0 fin) = true := by kernel_rfl
theorem er46x4 (kv : V) : yesB (F8z 4 (nn 46) kv S0 fin) = true := by kernel_rfl
theorem er48x17 (kv : V) : yesB (F8z 17 (nn 48) kv S0 fin) = true := by kernel_rfl
theorem er48x22 (kv : V) : yesB (F8z 22 (nn 48) kv S0 fin) = true := by kernel_rfl
theorem er48x33 (kv : V) : yesB (F8z 33 (nn 48) kv S0 fin) = true := by kernel_rfl
theorem er48x44 (kv : V) : yesB (F8z 44 (nn 48) kv S0 fin) = true := by kernel_rfl
theorem er49x0 (kv : V) : yesB (F8z 0 (nn 49) kv S0 fin) = true := by kernel_rfl
theorem er50x8 (kv : V) : yesB (F8z 8 (nn 50) kv S0 fin) = true := by kernel_rfl
theorem er50x10 (kv : V) : yesB (F8z 10 (nn 50) kv S0 fin) = true := by kernel_rfl
theorem er52x43 (kv : V) : yesB (F8z 43 (nn 52) kv S0 fin) = true := by kernel_rfl
theorem er54x4 (kv : V) : yesB (F8z 4 (nn 54) kv S0 fin) = true := by kernel_rfl
theorem er54x48 (kv : V) : yesB (F8z 48 (nn 54) kv S0 fin) = true := by kernel_rfl
theorem er56x1 (kv : V) : yesB (F8z 1 (nn 56) kv S0 fin) = true := by kernel_rfl
theorem er56x54 (kv : V) : yesB (F8z 54 (nn 56) kv S0 fin) = true := by kernel_rfl
theorem er60x1 (kv : V) : yesB (F8z 1 (nn 60) kv S0 fin) = true := by kernel_rfl
theorem er60x4 (kv : V) : yesB (F8z 4 (nn 60) kv S0 fin) = true := by kernel_rfl
theorem er60x43 (kv : V) : yesB (F8z 43 (nn 60) kv S0 fin) = true := by kernel_rfl
theorem er66x30 (kv : V) : yesB (F8z 30 (nn 66) kv S0 fin) = true := by kernel_rfl
theorem er70x6 (kv : V) : yesB (F8z 6 (nn 70) kv S0 fin) = true := by kernel_rfl
theorem er70x8 (kv : V) : yesB (F8z 8 (nn 70) kv S0 fin) = true := by kernel_rfl
theorem er70x38 (kv : V) : yesB (F8z 38 (nn 70) kv S0 fin) = true := by kernel_rfl
theorem er70x44 (kv : V) : yesB (F8z 44 (nn 70) kv S0 fin) = true := by kernel_rfl
theorem er70x54 (kv : V) : yesB (F8z 54 (nn 70) kv S0 fin) = true := by kernel_rfl
theorem er72x16 (kv : V) : yesB (F8z 16 (nn 72) kv S0 fin) = true := by kernel_rfl
theorem er72x21 (kv : V) : yesB (F8z 21 (nn 72) kv S0 fin) = true := by kernel_rfl
theorem er72x50 (kv : V) : yesB (F8z 50 (nn 72) kv S0 fin) = true := by kernel_rfl
theorem er72x61 (kv : V) : yesB (F8z 61 (nn 72) kv S0 fin) = true := by kernel_rfl
theorem er78x31 (kv : V) : yesB (F8z 31 (nn 78) kv S0 fin) = true := by kernel_rfl
theorem er81x0 (kv : V) : yesB (F8z 0 (nn 81) kv S0 fin) = true := by kernel_rfl
theorem er84x23 (kv : V) : yesB (F8z 23 (nn 84) kv S0 fin) = true := by kernel_rfl
theorem er84x28 (kv : V) : yesB (F8z 28 (nn 84) kv S0 fin) = true := by kernel_rfl
theorem er84x57 (kv : V) : yesB (F8z 57 (nn 84) kv S0 fin) = true := by kernel_rfl
theorem er84x77 (kv : V) : yesB (F8z 77 (nn 84) kv S0 fin) = true := by kernel_rfl
theorem er84x82 (kv : V) : yesB (F8z 82 (nn 84) kv S0 fin) = true := by kernel_rfl
theorem er90x5 (kv : V) : yesB (F8z 5 (nn 90) kv S0 fin) = true := by kernel_rfl
theorem er90x46 (kv : V) : yesB (F8z 46 (nn 90) kv S0 fin) = true := by kernel_rfl
theorem er90x51 (kv : V) : yesB (F8z 51 (nn 90) kv S0 fin) = true := by kernel_rfl
theorem er121x0 (kv : V) : yesB (F8z 0 (nn 121) kv S0 fin) = true := by kernel_rfl
theorem er165x0 (kv : V) : yesB (F8z 0 (nn 165) kv S0 fin) = true := by kernel_rfl
theorem er174x0 (kv : V) : yesB (F8z 0 (nn 174) kv S0 fin) = true := by kernel_rfl
theorem er177x0 (kv : V) : yesB (F8z 0 (nn 177) kv S0 fin) = true := by kernel_rfl
theorem er181x0 (kv : V) : yesB (F8z 0 (nn 181) kv S0 fin) = true := by kernel_rfl
theorem er191x0 (kv : V) : yesB (F8z 0 (nn 191) kv S0 fin) = true := by kernel_rfl
theorem er194x0 (kv : V) : yesB (F8z 0 (nn 194) kv S0 fin) = true := by kernel_rfl
end
end Go.AM
