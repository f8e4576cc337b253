/- Runs of the law. -/
import Derived.Test.YtndgeimkifdifaaGreatMEC
set_option maxRecDepth 1000000
set_option linter.unusedVariables false
namespace Go.AM
open Go.Proofs
noncomputable section
theorem er7x3 (kv : V) : yesB (F8z 3 (nn 7) kv S0 fin) = true := by kernel_rfl
theorem er13x7 (kv : V) : yesB (F8z 7 (nn 13) kv S0 fin) = true := by kernel_rfl
theorem er16x4 (kv : V) : yesB (F8z 4 (nn 16) kv S0 fin) = true := by kernel_rfl
theorem er18x1 (kv : V) : yesB (F8z 1 (nn 18) kv S0 fin) = true := by kernel_rfl
theorem er19x0 (kv : V) : yesB (F8z 0 (nn 19) kv S0 fin) = true := by kernel_rfl
theorem er19x7 (kv : V) : yesB (F8z 7 (nn 19) kv S0 fin) = true := by kernel_rfl
theorem er21x19 (kv : V) : yesB (F8z 19 (nn 21) kv S0 fin) = true := by kernel_rfl
theorem er22x1 (kv : V) : yesB (F8z 1 (nn 22) kv S0 fin) = true := by kernel_rfl
theorem er23x4 (kv : V) : yesB (F8z 4 (nn 23) kv S0 fin) = true := by kernel_rfl
theorem er23x10 (kv : V) : yesB (F8z 10 (nn 23) kv S0 fin) = true := by kernel_rfl
theorem er25x20 (kv : V) : yesB (F8z 20 (nn 25) kv S0 fin) = true := by kernel_rfl
theorem er25x24 (kv : V) : yesB (F8z 24 (nn 25) kv S0 fin) = true := by kernel_rfl
theorem er26x8 (kv : V) : yesB (F8z 8 (nn 26) kv S0 fin) = true := by kernel_rfl
theorem er26x18 (kv : V) : yesB (F8z 18 (nn 26) kv S0 fin) = true := by kernel_rfl
theorem er27x0 (kv : V) : yesB (F8z 0 (nn 27) kv S0 fin) = true := by kernel_rfl
theorem er27x20 (kv : V) : yesB (F8z 20 (nn 27) kv S0 fin) = true := by kernel_rfl
theorem er30x20 (kv : V) : yesB (F8z 20 (nn 30) kv S0 fin) = true := by kernel_rfl
theorem er32x11 (kv : V) : yesB (F8z 11 (nn 32) kv S0 fin) = true := by kernel_rfl
theorem er32x13 (kv : V) : yesB (F8z 13 (nn 32) kv S0 fin) = true := by kernel_rfl
theorem er32x31 (kv : V) : yesB (F8z 31 (nn 32) kv S0 fin) = true := by kernel_rfl
theorem er34x16 (kv : V) : yesB (F8z 16 (nn 34) kv S0 fin) = true := by kernel_rfl
theorem er35x5 (kv : V) : yesB (F8z 5 (nn 35) kv S0 fin) = true := by kernel_rfl
theorem er35x14 (kv : V) : yesB (F8z 14 (nn 35) kv S0 fin) = true := by kernel_rfl
theorem er35x16 (kv : V) : yesB (F8z 16 (nn 35) kv S0 fin) = true := by kernel_rfl
theorem er35x23 (kv : V) : yesB (F8z 23 (nn 35) kv S0 fin) = true := by kernel_rfl
theorem er35x30 (kv : V) : yesB (F8z 30 (nn 35) kv S0 fin) = true := by kernel_rfl
theorem er36x0 (kv : V) : yesB (F8z 0 (nn 36) kv S0 fin) = true := by kernel_rfl
theorem er36x21 (kv : V) : yesB (F8z 21 (nn 36) kv S0 fin) = true := by kernel_rfl
theorem er38x2 (kv : V) : yesB (F8z 2 (nn 38) kv S0 fin) = true := by kernel_rfl
theorem er39x30 (kv : V) : yesB (F8z 30 (nn 39) kv S0 fin) = true := by kernel_rfl
theorem er40x8 (kv : V) : yesB (F8z 8 (nn 40) kv S0 fin) = true := by kernel_rfl
theorem er40x17 (kv : V) : yesB (F8z 17 (nn 40) kv S0 fin) = true := by kernel_rfl
theorem er40x19 (kv : V) : yesB (F8z 19 (nn 40) kv S0 fin) = true := by kernel_rfl
theorem er40x23 (kv : V) : yesB (F8z 23 (nn 40) kv S0 fin) = true := by kernel_rfl
theorem er40x34 (kv : V) : yesB (F8z 34 (nn 40) kv S0 fin) = true := by kernel_rfl
theorem er42x2 (kv : V) : yesB (F8z 2 (nn 42) kv S0 fin) = true := by kernel_rfl
theorem er44x19 (kv : V) : yesB (F8z 19 (nn 44) kv S0 fin) = true := by kernel_rfl
theorem er44x25 (kv : V) : yesB (F8z 25 (nn 44) kv S0 fin) = true := by kernel_rfl
theorem er44x41 (kv : V) : yesB (F8z 41 (nn 44) kv S0 fin) = true := by kernel_rfl
theorem er45x7 (kv : V) : yesB (F8z 7 (nn 45) kv S0 fin) = true := by kernel_rfl
theorem er45x19 (kv : V) : yesB (F8z 19 (nn 45) kv S0 fin) = true := by kernel_rfl
theorem er45x44 (kv : V) : yesB (F8z 44 (nn 45) kv S0 fin) = true := by kernel_rfl
theorem er46x5 (kv : V) : yesB (F8z 5 (nn 46) kv S0 fin) = true := by kernel_rfl
theorem er46x7 (kv : V) : yesB (F8z 7 (nn 46) kv S0 fin) = true := by kernel_rfl
theorem er46x27 (kv : V) : yesB (F8z 27 (nn 46) kv S0 fin) = true := by kernel_rfl
theorem er50x14 (kv : V) : yesB (F8z 14 (nn 50) kv S0 fin) = true := by kernel_rfl
theorem er50x19 (kv : V) : yesB (F8z 19 (nn 50) kv S0 fin) = true := by kernel_rfl
theorem er50x35 (kv : V) : yesB (F8z 35 (nn 50) kv S0 fin) = true := by kernel_rfl
theorem er52x0 (kv : V) : yesB (F8z 0 (nn 52) kv S0 fin) = true := by kernel_rfl
theorem er52x51 (kv : V) : yesB (F8z 51 (nn 52) kv S0 fin) = true := by kernel_rfl
theorem er54x2 (kv : V) : yesB (F8z 2 (nn 54) kv S0 fin) = true := by kernel_rfl
theorem er56x19 (kv : V) : yesB (F8z 19 (nn 56) kv S0 fin) = true := by kernel_rfl
theorem er56x24 (kv : V) : yesB (F8z 24 (nn 56) kv S0 fin) = true := by kernel_rfl
theorem er56x41 (kv : V) : yesB (F8z 41 (nn 56) kv S0 fin) = true := by kernel_rfl
theorem er56x45 (kv : V) : yesB (F8z 45 (nn 56) kv S0 fin) = true := by kernel_rfl
theorem er60x50 (kv : V) : yesB (F8z 50 (nn 60) kv S0 fin) = true := by kernel_rfl
theorem er66x3 (kv : V) : yesB (F8z 3 (nn 66) kv S0 fin) = true := by kernel_rfl
theorem er66x64 (kv : V) : yesB (F8z 64 (nn 66) kv S0 fin) = true := by kernel_rfl
theorem er70x0 (kv : V) : yesB (F8z 0 (nn 70) kv S0 fin) = true := by kernel_rfl
theorem er70x2 (kv : V) : yesB (F8z 2 (nn 70) kv S0 fin) = true := by kernel_rfl
theorem er70x27 (kv : V) : yesB (F8z 27 (nn 70) kv S0 fin) = true := by kernel_rfl
theorem er70x40 (kv : V) : yesB (F8z 40 (nn 70) kv S0 fin) = true := by kernel_rfl
theorem er70x67 (kv : V) : yesB (F8z 67 (nn 70) kv S0 fin) = true := by kernel_rfl
theorem er72x14 (kv : V) : yesB (F8z 14 (nn 72) kv S0 fin) = true := by kernel_rfl
theorem er72x36 (kv : V) : yesB (F8z 36 (nn 72) kv S0 fin) = true := by kernel_rfl
theorem er72x47 (kv : V) : yesB (F8z 47 (nn 72) kv S0 fin) = true := by kernel_rfl
theorem er72x66 (kv : V) : yesB (F8z 66 (nn 72) kv S0 fin) = true := by kernel_rfl
theorem er78x9 (kv : V) : yesB (F8z 9 (nn 78) kv S0 fin) = true := by kernel_rfl
theorem er78x35 (kv : V) : yesB (F8z 35 (nn 78) kv S0 fin) = true := by kernel_rfl
theorem er78x47 (kv : V) : yesB (F8z 47 (nn 78) kv S0 fin) = true := by kernel_rfl
theorem er78x53 (kv : V) : yesB (F8z 53 (nn 78) kv S0 fin) = true := by kernel_rfl
theorem er84x37 (kv : V) : yesB (F8z 37 (nn 84) kv S0 fin) = true := by kernel_rfl
theorem er84x42 (kv : V) : yesB (F8z 42 (nn 84) kv S0 fin) = true := by kernel_rfl
theorem er90x8 (kv : V) : yesB (F8z 8 (nn 90) kv S0 fin) = true := by kernel_rfl
theorem er90x20 (kv : V) : yesB (F8z 20 (nn 90) kv S0 fin) = true := by kernel_rfl
theorem er90x29 (kv : V) : yesB (F8z 29 (nn 90) kv S0 fin) = true := by kernel_rfl
theorem er90x66 (kv : V) : yesB (F8z 66 (nn 90) kv S0 fin) = true := by kernel_rfl
theorem er90x75 (kv : V) : yesB (F8z 75 (nn 90) kv S0 fin) = true := by kernel_rfl
theorem er148x0 (kv : V) : yesB (F8z 0 (nn 148) kv S0 fin) = true := by kernel_rfl
theorem er153x0 (kv : V) : yesB (F8z 0 (nn 153) kv S0 fin) = true := by kernel_rfl
theorem er159x0 (kv : V) : yesB (F8z 0 (nn 159) kv S0 fin) = true := by kernel_rfl
theorem er183x0 (kv : V) : yesB (F8z 0 (nn 183) kv S0 fin) = true := by kernel_rfl
theorem er193x0 (kv : V) : yesB (F8z 0 (nn 193) kv S0 fin) = true := by kernel_rfl
theorem er201x0 (kv : V) : yesB (F8z 0 (nn 201) kv S0 fin) = true := by kernel_rfl
theorem er253x0 (kv : V) : yesB (F8z 0 (nn 253) kv S0 fin) = true := by kernel_rfl
end
end Go.AM
