/- Runs of the law. -/
import Derived.Test.YtndgeimkifdifaaGreatMEC
set_option maxRecDepth 1000000
set_option linter.unusedVariables false
namespace Go.AM
open Go.Proofs
noncomputable section
theorem er4x1 (kv : V) : yesB (F8z 1 (nn 4) kv S0 fin) = true := by kernel_rfl
theorem er7x0 (kv : V) : yesB (F8z 0 (nn 7) kv S0 fin) = true := by kernel_rfl
theorem er9x8 (kv : V) : yesB (F8z 8 (nn 9) kv S0 fin) = true := by kernel_rfl
theorem er13x0 (kv : V) : yesB (F8z 0 (nn 13) kv S0 fin) = true := by kernel_rfl
theorem er17x3 (kv : V) : yesB (F8z 3 (nn 17) kv S0 fin) = true := by kernel_rfl
theorem er17x5 (kv : V) : yesB (F8z 5 (nn 17) kv S0 fin) = true := by kernel_rfl
theorem er18x4 (kv : V) : yesB (F8z 4 (nn 18) kv S0 fin) = true := by kernel_rfl
theorem er18x6 (kv : V) : yesB (F8z 6 (nn 18) kv S0 fin) = true := by kernel_rfl
theorem er19x12 (kv : V) : yesB (F8z 12 (nn 19) kv S0 fin) = true := by kernel_rfl
theorem er20x18 (kv : V) : yesB (F8z 18 (nn 20) kv S0 fin) = true := by kernel_rfl
theorem er22x8 (kv : V) : yesB (F8z 8 (nn 22) kv S0 fin) = true := by kernel_rfl
theorem er23x0 (kv : V) : yesB (F8z 0 (nn 23) kv S0 fin) = true := by kernel_rfl
theorem er24x7 (kv : V) : yesB (F8z 7 (nn 24) kv S0 fin) = true := by kernel_rfl
theorem er24x12 (kv : V) : yesB (F8z 12 (nn 24) kv S0 fin) = true := by kernel_rfl
theorem er24x21 (kv : V) : yesB (F8z 21 (nn 24) kv S0 fin) = true := by kernel_rfl
theorem er25x16 (kv : V) : yesB (F8z 16 (nn 25) kv S0 fin) = true := by kernel_rfl
theorem er26x9 (kv : V) : yesB (F8z 9 (nn 26) kv S0 fin) = true := by kernel_rfl
theorem er26x13 (kv : V) : yesB (F8z 13 (nn 26) kv S0 fin) = true := by kernel_rfl
theorem er26x16 (kv : V) : yesB (F8z 16 (nn 26) kv S0 fin) = true := by kernel_rfl
theorem er28x4 (kv : V) : yesB (F8z 4 (nn 28) kv S0 fin) = true := by kernel_rfl
theorem er28x13 (kv : V) : yesB (F8z 13 (nn 28) kv S0 fin) = true := by kernel_rfl
theorem er29x0 (kv : V) : yesB (F8z 0 (nn 29) kv S0 fin) = true := by kernel_rfl
theorem er33x17 (kv : V) : yesB (F8z 17 (nn 33) kv S0 fin) = true := by kernel_rfl
theorem er33x29 (kv : V) : yesB (F8z 29 (nn 33) kv S0 fin) = true := by kernel_rfl
theorem er34x7 (kv : V) : yesB (F8z 7 (nn 34) kv S0 fin) = true := by kernel_rfl
theorem er34x13 (kv : V) : yesB (F8z 13 (nn 34) kv S0 fin) = true := by kernel_rfl
theorem er35x11 (kv : V) : yesB (F8z 11 (nn 35) kv S0 fin) = true := by kernel_rfl
theorem er38x7 (kv : V) : yesB (F8z 7 (nn 38) kv S0 fin) = true := by kernel_rfl
theorem er38x31 (kv : V) : yesB (F8z 31 (nn 38) kv S0 fin) = true := by kernel_rfl
theorem er38x32 (kv : V) : yesB (F8z 32 (nn 38) kv S0 fin) = true := by kernel_rfl
theorem er38x35 (kv : V) : yesB (F8z 35 (nn 38) kv S0 fin) = true := by kernel_rfl
theorem er39x1 (kv : V) : yesB (F8z 1 (nn 39) kv S0 fin) = true := by kernel_rfl
theorem er39x3 (kv : V) : yesB (F8z 3 (nn 39) kv S0 fin) = true := by kernel_rfl
theorem er39x15 (kv : V) : yesB (F8z 15 (nn 39) kv S0 fin) = true := by kernel_rfl
theorem er39x28 (kv : V) : yesB (F8z 28 (nn 39) kv S0 fin) = true := by kernel_rfl
theorem er40x21 (kv : V) : yesB (F8z 21 (nn 40) kv S0 fin) = true := by kernel_rfl
theorem er42x12 (kv : V) : yesB (F8z 12 (nn 42) kv S0 fin) = true := by kernel_rfl
theorem er44x8 (kv : V) : yesB (F8z 8 (nn 44) kv S0 fin) = true := by kernel_rfl
theorem er44x22 (kv : V) : yesB (F8z 22 (nn 44) kv S0 fin) = true := by kernel_rfl
theorem er46x9 (kv : V) : yesB (F8z 9 (nn 46) kv S0 fin) = true := by kernel_rfl
theorem er48x39 (kv : V) : yesB (F8z 39 (nn 48) kv S0 fin) = true := by kernel_rfl
theorem er48x43 (kv : V) : yesB (F8z 43 (nn 48) kv S0 fin) = true := by kernel_rfl
theorem er48x46 (kv : V) : yesB (F8z 46 (nn 48) kv S0 fin) = true := by kernel_rfl
theorem er50x44 (kv : V) : yesB (F8z 44 (nn 50) kv S0 fin) = true := by kernel_rfl
theorem er52x10 (kv : V) : yesB (F8z 10 (nn 52) kv S0 fin) = true := by kernel_rfl
theorem er54x19 (kv : V) : yesB (F8z 19 (nn 54) kv S0 fin) = true := by kernel_rfl
theorem er54x26 (kv : V) : yesB (F8z 26 (nn 54) kv S0 fin) = true := by kernel_rfl
theorem er54x29 (kv : V) : yesB (F8z 29 (nn 54) kv S0 fin) = true := by kernel_rfl
theorem er54x50 (kv : V) : yesB (F8z 50 (nn 54) kv S0 fin) = true := by kernel_rfl
theorem er54x51 (kv : V) : yesB (F8z 51 (nn 54) kv S0 fin) = true := by kernel_rfl
theorem er60x28 (kv : V) : yesB (F8z 28 (nn 60) kv S0 fin) = true := by kernel_rfl
theorem er60x32 (kv : V) : yesB (F8z 32 (nn 60) kv S0 fin) = true := by kernel_rfl
theorem er60x44 (kv : V) : yesB (F8z 44 (nn 60) kv S0 fin) = true := by kernel_rfl
theorem er66x4 (kv : V) : yesB (F8z 4 (nn 66) kv S0 fin) = true := by kernel_rfl
theorem er66x39 (kv : V) : yesB (F8z 39 (nn 66) kv S0 fin) = true := by kernel_rfl
theorem er70x5 (kv : V) : yesB (F8z 5 (nn 70) kv S0 fin) = true := by kernel_rfl
theorem er70x23 (kv : V) : yesB (F8z 23 (nn 70) kv S0 fin) = true := by kernel_rfl
theorem er70x42 (kv : V) : yesB (F8z 42 (nn 70) kv S0 fin) = true := by kernel_rfl
theorem er70x51 (kv : V) : yesB (F8z 51 (nn 70) kv S0 fin) = true := by kernel_rfl
theorem er70x63 (kv : V) : yesB (F8z 63 (nn 70) kv S0 fin) = true := by kernel_rfl
theorem er72x1 (kv : V) : yesB (F8z 1 (nn 72) kv S0 fin) = true := by kernel_rfl
theorem er72x11 (kv : V) : yesB (F8z 11 (nn 72) kv S0 fin) = true := by kernel_rfl
theorem er72x28 (kv : V) : yesB (F8z 28 (nn 72) kv S0 fin) = true := by kernel_rfl
theorem er78x18 (kv : V) : yesB (F8z 18 (nn 78) kv S0 fin) = true := by kernel_rfl
theorem er78x20 (kv : V) : yesB (F8z 20 (nn 78) kv S0 fin) = true := by kernel_rfl
theorem er78x22 (kv : V) : yesB (F8z 22 (nn 78) kv S0 fin) = true := by kernel_rfl
theorem er78x29 (kv : V) : yesB (F8z 29 (nn 78) kv S0 fin) = true := by kernel_rfl
theorem er78x33 (kv : V) : yesB (F8z 33 (nn 78) kv S0 fin) = true := by kernel_rfl
theorem er78x38 (kv : V) : yesB (F8z 38 (nn 78) kv S0 fin) = true := by kernel_rfl
theorem er78x49 (kv : V) : yesB (F8z 49 (nn 78) kv S0 fin) = true := by kernel_rfl
theorem er84x4 (kv : V) : yesB (F8z 4 (nn 84) kv S0 fin) = true := by kernel_rfl
theorem er84x24 (kv : V) : yesB (F8z 24 (nn 84) kv S0 fin) = true := by kernel_rfl
theorem er84x46 (kv : V) : yesB (F8z 46 (nn 84) kv S0 fin) = true := by kernel_rfl
theorem er84x54 (kv : V) : yesB (F8z 54 (nn 84) kv S0 fin) = true := by kernel_rfl
theorem er90x2 (kv : V) : yesB (F8z 2 (nn 90) kv S0 fin) = true := by kernel_rfl
theorem er90x61 (kv : V) : yesB (F8z 61 (nn 90) kv S0 fin) = true := by kernel_rfl
theorem er90x68 (kv : V) : yesB (F8z 68 (nn 90) kv S0 fin) = true := by kernel_rfl
theorem er90x76 (kv : V) : yesB (F8z 76 (nn 90) kv S0 fin) = true := by kernel_rfl
theorem er106x0 (kv : V) : yesB (F8z 0 (nn 106) kv S0 fin) = true := by kernel_rfl
theorem er115x0 (kv : V) : yesB (F8z 0 (nn 115) kv S0 fin) = true := by kernel_rfl
theorem er170x0 (kv : V) : yesB (F8z 0 (nn 170) kv S0 fin) = true := by kernel_rfl
theorem er173x0 (kv : V) : yesB (F8z 0 (nn 173) kv S0 fin) = true := by kernel_rfl
theorem er182x0 (kv : V) : yesB (F8z 0 (nn 182) kv S0 fin) = true := by kernel_rfl
theorem er187x0 (kv : V) : yesB (F8z 0 (nn 187) kv S0 fin) = true := by kernel_rfl
theorem er200x0 (kv : V) : yesB (F8z 0 (nn 200) kv S0 fin) = true := by kernel_rfl
theorem er230x0 (kv : V) : yesB (F8z 0 (nn 230) kv S0 fin) = true := by kernel_rfl
end
end Go.AM
