/- Runs of the law. -/
import Derived.Test.YtndgeimkifdifaaGreatMEC
set_option maxRecDepth 1000000
set_option linter.unusedVariables false
namespace Go.AM
open Go.Proofs
noncomputable section
theorem er2x1 (kv : V) : yesB (F8z 1 (nn 2) kv S0 fin) = true := by kernel_rfl
theorem er4x3 (kv : V) : yesB (F8z 3 (nn 4) kv S0 fin) = true := by kernel_rfl
theorem er5x4 (kv : V) : yesB (F8z 4 (nn 5) kv S0 fin) = true := by kernel_rfl
theorem er9x3 (kv : V) : yesB (F8z 3 (nn 9) kv S0 fin) = true := by kernel_rfl
theorem er12x5 (kv : V) : yesB (F8z 5 (nn 12) kv S0 fin) = true := by kernel_rfl
theorem er17x4 (kv : V) : yesB (F8z 4 (nn 17) kv S0 fin) = true := by kernel_rfl
theorem er17x7 (kv : V) : yesB (F8z 7 (nn 17) kv S0 fin) = true := by kernel_rfl
theorem er17x15 (kv : V) : yesB (F8z 15 (nn 17) kv S0 fin) = true := by kernel_rfl
theorem er19x15 (kv : V) : yesB (F8z 15 (nn 19) kv S0 fin) = true := by kernel_rfl
theorem er20x4 (kv : V) : yesB (F8z 4 (nn 20) kv S0 fin) = true := by kernel_rfl
theorem er21x2 (kv : V) : yesB (F8z 2 (nn 21) kv S0 fin) = true := by kernel_rfl
theorem er21x7 (kv : V) : yesB (F8z 7 (nn 21) kv S0 fin) = true := by kernel_rfl
theorem er21x11 (kv : V) : yesB (F8z 11 (nn 21) kv S0 fin) = true := by kernel_rfl
theorem er22x18 (kv : V) : yesB (F8z 18 (nn 22) kv S0 fin) = true := by kernel_rfl
theorem er23x22 (kv : V) : yesB (F8z 22 (nn 23) kv S0 fin) = true := by kernel_rfl
theorem er24x20 (kv : V) : yesB (F8z 20 (nn 24) kv S0 fin) = true := by kernel_rfl
theorem er24x23 (kv : V) : yesB (F8z 23 (nn 24) kv S0 fin) = true := by kernel_rfl
theorem er27x17 (kv : V) : yesB (F8z 17 (nn 27) kv S0 fin) = true := by kernel_rfl
theorem er27x19 (kv : V) : yesB (F8z 19 (nn 27) kv S0 fin) = true := by kernel_rfl
theorem er32x6 (kv : V) : yesB (F8z 6 (nn 32) kv S0 fin) = true := by kernel_rfl
theorem er32x19 (kv : V) : yesB (F8z 19 (nn 32) kv S0 fin) = true := by kernel_rfl
theorem er35x7 (kv : V) : yesB (F8z 7 (nn 35) kv S0 fin) = true := by kernel_rfl
theorem er35x19 (kv : V) : yesB (F8z 19 (nn 35) kv S0 fin) = true := by kernel_rfl
theorem er35x21 (kv : V) : yesB (F8z 21 (nn 35) kv S0 fin) = true := by kernel_rfl
theorem er35x28 (kv : V) : yesB (F8z 28 (nn 35) kv S0 fin) = true := by kernel_rfl
theorem er38x5 (kv : V) : yesB (F8z 5 (nn 38) kv S0 fin) = true := by kernel_rfl
theorem er38x24 (kv : V) : yesB (F8z 24 (nn 38) kv S0 fin) = true := by kernel_rfl
theorem er39x6 (kv : V) : yesB (F8z 6 (nn 39) kv S0 fin) = true := by kernel_rfl
theorem er39x24 (kv : V) : yesB (F8z 24 (nn 39) kv S0 fin) = true := by kernel_rfl
theorem er39x32 (kv : V) : yesB (F8z 32 (nn 39) kv S0 fin) = true := by kernel_rfl
theorem er44x6 (kv : V) : yesB (F8z 6 (nn 44) kv S0 fin) = true := by kernel_rfl
theorem er45x17 (kv : V) : yesB (F8z 17 (nn 45) kv S0 fin) = true := by kernel_rfl
theorem er45x37 (kv : V) : yesB (F8z 37 (nn 45) kv S0 fin) = true := by kernel_rfl
theorem er46x0 (kv : V) : yesB (F8z 0 (nn 46) kv S0 fin) = true := by kernel_rfl
theorem er46x16 (kv : V) : yesB (F8z 16 (nn 46) kv S0 fin) = true := by kernel_rfl
theorem er46x19 (kv : V) : yesB (F8z 19 (nn 46) kv S0 fin) = true := by kernel_rfl
theorem er46x39 (kv : V) : yesB (F8z 39 (nn 46) kv S0 fin) = true := by kernel_rfl
theorem er46x45 (kv : V) : yesB (F8z 45 (nn 46) kv S0 fin) = true := by kernel_rfl
theorem er48x10 (kv : V) : yesB (F8z 10 (nn 48) kv S0 fin) = true := by kernel_rfl
theorem er48x14 (kv : V) : yesB (F8z 14 (nn 48) kv S0 fin) = true := by kernel_rfl
theorem er48x31 (kv : V) : yesB (F8z 31 (nn 48) kv S0 fin) = true := by kernel_rfl
theorem er50x26 (kv : V) : yesB (F8z 26 (nn 50) kv S0 fin) = true := by kernel_rfl
theorem er50x36 (kv : V) : yesB (F8z 36 (nn 50) kv S0 fin) = true := by kernel_rfl
theorem er52x23 (kv : V) : yesB (F8z 23 (nn 52) kv S0 fin) = true := by kernel_rfl
theorem er52x36 (kv : V) : yesB (F8z 36 (nn 52) kv S0 fin) = true := by kernel_rfl
theorem er52x47 (kv : V) : yesB (F8z 47 (nn 52) kv S0 fin) = true := by kernel_rfl
theorem er54x5 (kv : V) : yesB (F8z 5 (nn 54) kv S0 fin) = true := by kernel_rfl
theorem er54x41 (kv : V) : yesB (F8z 41 (nn 54) kv S0 fin) = true := by kernel_rfl
theorem er56x0 (kv : V) : yesB (F8z 0 (nn 56) kv S0 fin) = true := by kernel_rfl
theorem er56x3 (kv : V) : yesB (F8z 3 (nn 56) kv S0 fin) = true := by kernel_rfl
theorem er56x9 (kv : V) : yesB (F8z 9 (nn 56) kv S0 fin) = true := by kernel_rfl
theorem er56x18 (kv : V) : yesB (F8z 18 (nn 56) kv S0 fin) = true := by kernel_rfl
theorem er56x28 (kv : V) : yesB (F8z 28 (nn 56) kv S0 fin) = true := by kernel_rfl
theorem er60x24 (kv : V) : yesB (F8z 24 (nn 60) kv S0 fin) = true := by kernel_rfl
theorem er60x38 (kv : V) : yesB (F8z 38 (nn 60) kv S0 fin) = true := by kernel_rfl
theorem er60x46 (kv : V) : yesB (F8z 46 (nn 60) kv S0 fin) = true := by kernel_rfl
theorem er60x58 (kv : V) : yesB (F8z 58 (nn 60) kv S0 fin) = true := by kernel_rfl
theorem er66x14 (kv : V) : yesB (F8z 14 (nn 66) kv S0 fin) = true := by kernel_rfl
theorem er66x35 (kv : V) : yesB (F8z 35 (nn 66) kv S0 fin) = true := by kernel_rfl
theorem er66x48 (kv : V) : yesB (F8z 48 (nn 66) kv S0 fin) = true := by kernel_rfl
theorem er66x53 (kv : V) : yesB (F8z 53 (nn 66) kv S0 fin) = true := by kernel_rfl
theorem er70x10 (kv : V) : yesB (F8z 10 (nn 70) kv S0 fin) = true := by kernel_rfl
theorem er70x52 (kv : V) : yesB (F8z 52 (nn 70) kv S0 fin) = true := by kernel_rfl
theorem er72x41 (kv : V) : yesB (F8z 41 (nn 72) kv S0 fin) = true := by kernel_rfl
theorem er72x57 (kv : V) : yesB (F8z 57 (nn 72) kv S0 fin) = true := by kernel_rfl
theorem er78x2 (kv : V) : yesB (F8z 2 (nn 78) kv S0 fin) = true := by kernel_rfl
theorem er78x26 (kv : V) : yesB (F8z 26 (nn 78) kv S0 fin) = true := by kernel_rfl
theorem er84x8 (kv : V) : yesB (F8z 8 (nn 84) kv S0 fin) = true := by kernel_rfl
theorem er84x35 (kv : V) : yesB (F8z 35 (nn 84) kv S0 fin) = true := by kernel_rfl
theorem er84x52 (kv : V) : yesB (F8z 52 (nn 84) kv S0 fin) = true := by kernel_rfl
theorem er84x66 (kv : V) : yesB (F8z 66 (nn 84) kv S0 fin) = true := by kernel_rfl
theorem er84x75 (kv : V) : yesB (F8z 75 (nn 84) kv S0 fin) = true := by kernel_rfl
theorem er90x13 (kv : V) : yesB (F8z 13 (nn 90) kv S0 fin) = true := by kernel_rfl
theorem er90x25 (kv : V) : yesB (F8z 25 (nn 90) kv S0 fin) = true := by kernel_rfl
theorem er90x64 (kv : V) : yesB (F8z 64 (nn 90) kv S0 fin) = true := by kernel_rfl
theorem er90x89 (kv : V) : yesB (F8z 89 (nn 90) kv S0 fin) = true := by kernel_rfl
theorem er99x0 (kv : V) : yesB (F8z 0 (nn 99) kv S0 fin) = true := by kernel_rfl
theorem er104x0 (kv : V) : yesB (F8z 0 (nn 104) kv S0 fin) = true := by kernel_rfl
theorem er107x0 (kv : V) : yesB (F8z 0 (nn 107) kv S0 fin) = true := by kernel_rfl
theorem er127x0 (kv : V) : yesB (F8z 0 (nn 127) kv S0 fin) = true := by kernel_rfl
theorem er164x0 (kv : V) : yesB (F8z 0 (nn 164) kv S0 fin) = true := by kernel_rfl
theorem er185x0 (kv : V) : yesB (F8z 0 (nn 185) kv S0 fin) = true := by kernel_rfl
theorem er196x0 (kv : V) : yesB (F8z 0 (nn 196) kv S0 fin) = true := by kernel_rfl
theorem er198x0 (kv : V) : yesB (F8z 0 (nn 198) kv S0 fin) = true := by kernel_rfl
theorem er242x0 (kv : V) : yesB (F8z 0 (nn 242) kv S0 fin) = true := by kernel_rfl
end
end Go.AM
