/- Runs of the law. -/
import Derived.Test.YtndgeimkifdifaaGreatMEC
set_option maxRecDepth 1000000
set_option linter.unusedVariables false
namespace Go.AM
open Go.Proofs
noncomputable section
theorem er3x1 (kv : V) : yesB (F8z 1 (nn 3) kv S0 fin) = true := by kernel_rfl
theorem er6x2 (kv : V) : yesB (F8z 2 (nn 6) kv S0 fin) = true := by kernel_rfl
theorem er8x3 (kv : V) : yesB (F8z 3 (nn 8) kv S0 fin) = true := by kernel_rfl
theorem er9x5 (kv : V) : yesB (F8z 5 (nn 9) kv S0 fin) = true := by kernel_rfl
theorem er11x6 (kv : V) : yesB (F8z 6 (nn 11) kv S0 fin) = true := by kernel_rfl
theorem er12x9 (kv : V) : yesB (F8z 9 (nn 12) kv S0 fin) = true := by kernel_rfl
theorem er13x5 (kv : V) : yesB (F8z 5 (nn 13) kv S0 fin) = true := by kernel_rfl
theorem er14x8 (kv : V) : yesB (F8z 8 (nn 14) kv S0 fin) = true := by kernel_rfl
theorem er15x8 (kv : V) : yesB (F8z 8 (nn 15) kv S0 fin) = true := by kernel_rfl
theorem er17x2 (kv : V) : yesB (F8z 2 (nn 17) kv S0 fin) = true := by kernel_rfl
theorem er17x6 (kv : V) : yesB (F8z 6 (nn 17) kv S0 fin) = true := by kernel_rfl
theorem er18x14 (kv : V) : yesB (F8z 14 (nn 18) kv S0 fin) = true := by kernel_rfl
theorem er21x13 (kv : V) : yesB (F8z 13 (nn 21) kv S0 fin) = true := by kernel_rfl
theorem er22x2 (kv : V) : yesB (F8z 2 (nn 22) kv S0 fin) = true := by kernel_rfl
theorem er23x5 (kv : V) : yesB (F8z 5 (nn 23) kv S0 fin) = true := by kernel_rfl
theorem er23x16 (kv : V) : yesB (F8z 16 (nn 23) kv S0 fin) = true := by kernel_rfl
theorem er27x16 (kv : V) : yesB (F8z 16 (nn 27) kv S0 fin) = true := by kernel_rfl
theorem er27x24 (kv : V) : yesB (F8z 24 (nn 27) kv S0 fin) = true := by kernel_rfl
theorem er30x10 (kv : V) : yesB (F8z 10 (nn 30) kv S0 fin) = true := by kernel_rfl
theorem er32x21 (kv : V) : yesB (F8z 21 (nn 32) kv S0 fin) = true := by kernel_rfl
theorem er33x10 (kv : V) : yesB (F8z 10 (nn 33) kv S0 fin) = true := by kernel_rfl
theorem er33x11 (kv : V) : yesB (F8z 11 (nn 33) kv S0 fin) = true := by kernel_rfl
theorem er33x20 (kv : V) : yesB (F8z 20 (nn 33) kv S0 fin) = true := by kernel_rfl
theorem er33x22 (kv : V) : yesB (F8z 22 (nn 33) kv S0 fin) = true := by kernel_rfl
theorem er33x25 (kv : V) : yesB (F8z 25 (nn 33) kv S0 fin) = true := by kernel_rfl
theorem er34x18 (kv : V) : yesB (F8z 18 (nn 34) kv S0 fin) = true := by kernel_rfl
theorem er34x26 (kv : V) : yesB (F8z 26 (nn 34) kv S0 fin) = true := by kernel_rfl
theorem er34x27 (kv : V) : yesB (F8z 27 (nn 34) kv S0 fin) = true := by kernel_rfl
theorem er35x8 (kv : V) : yesB (F8z 8 (nn 35) kv S0 fin) = true := by kernel_rfl
theorem er35x13 (kv : V) : yesB (F8z 13 (nn 35) kv S0 fin) = true := by kernel_rfl
theorem er36x4 (kv : V) : yesB (F8z 4 (nn 36) kv S0 fin) = true := by kernel_rfl
theorem er38x20 (kv : V) : yesB (F8z 20 (nn 38) kv S0 fin) = true := by kernel_rfl
theorem er42x23 (kv : V) : yesB (F8z 23 (nn 42) kv S0 fin) = true := by kernel_rfl
theorem er42x24 (kv : V) : yesB (F8z 24 (nn 42) kv S0 fin) = true := by kernel_rfl
theorem er44x0 (kv : V) : yesB (F8z 0 (nn 44) kv S0 fin) = true := by kernel_rfl
theorem er46x29 (kv : V) : yesB (F8z 29 (nn 46) kv S0 fin) = true := by kernel_rfl
theorem er46x36 (kv : V) : yesB (F8z 36 (nn 46) kv S0 fin) = true := by kernel_rfl
theorem er48x0 (kv : V) : yesB (F8z 0 (nn 48) kv S0 fin) = true := by kernel_rfl
theorem er48x2 (kv : V) : yesB (F8z 2 (nn 48) kv S0 fin) = true := by kernel_rfl
theorem er48x6 (kv : V) : yesB (F8z 6 (nn 48) kv S0 fin) = true := by kernel_rfl
theorem er50x30 (kv : V) : yesB (F8z 30 (nn 50) kv S0 fin) = true := by kernel_rfl
theorem er52x41 (kv : V) : yesB (F8z 41 (nn 52) kv S0 fin) = true := by kernel_rfl
theorem er52x49 (kv : V) : yesB (F8z 49 (nn 52) kv S0 fin) = true := by kernel_rfl
theorem er53x0 (kv : V) : yesB (F8z 0 (nn 53) kv S0 fin) = true := by kernel_rfl
theorem er54x6 (kv : V) : yesB (F8z 6 (nn 54) kv S0 fin) = true := by kernel_rfl
theorem er54x28 (kv : V) : yesB (F8z 28 (nn 54) kv S0 fin) = true := by kernel_rfl
theorem er54x53 (kv : V) : yesB (F8z 53 (nn 54) kv S0 fin) = true := by kernel_rfl
theorem er56x20 (kv : V) : yesB (F8z 20 (nn 56) kv S0 fin) = true := by kernel_rfl
theorem er56x22 (kv : V) : yesB (F8z 22 (nn 56) kv S0 fin) = true := by kernel_rfl
theorem er56x39 (kv : V) : yesB (F8z 39 (nn 56) kv S0 fin) = true := by kernel_rfl
theorem er56x52 (kv : V) : yesB (F8z 52 (nn 56) kv S0 fin) = true := by kernel_rfl
theorem er57x0 (kv : V) : yesB (F8z 0 (nn 57) kv S0 fin) = true := by kernel_rfl
theorem er60x13 (kv : V) : yesB (F8z 13 (nn 60) kv S0 fin) = true := by kernel_rfl
theorem er60x39 (kv : V) : yesB (F8z 39 (nn 60) kv S0 fin) = true := by kernel_rfl
theorem er66x13 (kv : V) : yesB (F8z 13 (nn 66) kv S0 fin) = true := by kernel_rfl
theorem er66x23 (kv : V) : yesB (F8z 23 (nn 66) kv S0 fin) = true := by kernel_rfl
theorem er66x37 (kv : V) : yesB (F8z 37 (nn 66) kv S0 fin) = true := by kernel_rfl
theorem er66x42 (kv : V) : yesB (F8z 42 (nn 66) kv S0 fin) = true := by kernel_rfl
theorem er66x51 (kv : V) : yesB (F8z 51 (nn 66) kv S0 fin) = true := by kernel_rfl
theorem er70x9 (kv : V) : yesB (F8z 9 (nn 70) kv S0 fin) = true := by kernel_rfl
theorem er70x14 (kv : V) : yesB (F8z 14 (nn 70) kv S0 fin) = true := by kernel_rfl
theorem er70x25 (kv : V) : yesB (F8z 25 (nn 70) kv S0 fin) = true := by kernel_rfl
theorem er72x0 (kv : V) : yesB (F8z 0 (nn 72) kv S0 fin) = true := by kernel_rfl
theorem er72x3 (kv : V) : yesB (F8z 3 (nn 72) kv S0 fin) = true := by kernel_rfl
theorem er72x52 (kv : V) : yesB (F8z 52 (nn 72) kv S0 fin) = true := by kernel_rfl
theorem er72x54 (kv : V) : yesB (F8z 54 (nn 72) kv S0 fin) = true := by kernel_rfl
theorem er77x0 (kv : V) : yesB (F8z 0 (nn 77) kv S0 fin) = true := by kernel_rfl
theorem er78x13 (kv : V) : yesB (F8z 13 (nn 78) kv S0 fin) = true := by kernel_rfl
theorem er78x72 (kv : V) : yesB (F8z 72 (nn 78) kv S0 fin) = true := by kernel_rfl
theorem er84x29 (kv : V) : yesB (F8z 29 (nn 84) kv S0 fin) = true := by kernel_rfl
theorem er84x68 (kv : V) : yesB (F8z 68 (nn 84) kv S0 fin) = true := by kernel_rfl
theorem er84x80 (kv : V) : yesB (F8z 80 (nn 84) kv S0 fin) = true := by kernel_rfl
theorem er90x15 (kv : V) : yesB (F8z 15 (nn 90) kv S0 fin) = true := by kernel_rfl
theorem er90x50 (kv : V) : yesB (F8z 50 (nn 90) kv S0 fin) = true := by kernel_rfl
theorem er90x59 (kv : V) : yesB (F8z 59 (nn 90) kv S0 fin) = true := by kernel_rfl
theorem er90x62 (kv : V) : yesB (F8z 62 (nn 90) kv S0 fin) = true := by kernel_rfl
theorem er90x70 (kv : V) : yesB (F8z 70 (nn 90) kv S0 fin) = true := by kernel_rfl
theorem er90x83 (kv : V) : yesB (F8z 83 (nn 90) kv S0 fin) = true := by kernel_rfl
theorem er102x0 (kv : V) : yesB (F8z 0 (nn 102) kv S0 fin) = true := by kernel_rfl
theorem er133x0 (kv : V) : yesB (F8z 0 (nn 133) kv S0 fin) = true := by kernel_rfl
theorem er136x0 (kv : V) : yesB (F8z 0 (nn 136) kv S0 fin) = true := by kernel_rfl
theorem er138x0 (kv : V) : yesB (F8z 0 (nn 138) kv S0 fin) = true := by kernel_rfl
theorem er142x0 (kv : V) : yesB (F8z 0 (nn 142) kv S0 fin) = true := by kernel_rfl
theorem er171x0 (kv : V) : yesB (F8z 0 (nn 171) kv S0 fin) = true := by kernel_rfl
theorem er205x0 (kv : V) : yesB (F8z 0 (nn 205) kv S0 fin) = true := by kernel_rfl
theorem er234x0 (kv : V) : yesB (F8z 0 (nn 234) kv S0 fin) = true := by kernel_rfl
end
end Go.AM
