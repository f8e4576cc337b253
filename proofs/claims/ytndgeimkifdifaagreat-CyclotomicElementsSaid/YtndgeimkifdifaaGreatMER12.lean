/- Runs of the law. -/
import Derived.Test.YtndgeimkifdifaaGreatMEC
set_option maxRecDepth 1000000
set_option linter.unusedVariables false
namespace Go.AM
open Go.Proofs
noncomputable section
theorem er2x0 (kv : V) : yesB (F8z 0 (nn 2) kv S0 fin) = true := by kernel_rfl
theorem er7x1 (kv : V) : yesB (F8z 1 (nn 7) kv S0 fin) = true := by kernel_rfl
theorem er12x8 (kv : V) : yesB (F8z 8 (nn 12) kv S0 fin) = true := by kernel_rfl
theorem er13x4 (kv : V) : yesB (F8z 4 (nn 13) kv S0 fin) = true := by kernel_rfl
theorem er14x4 (kv : V) : yesB (F8z 4 (nn 14) kv S0 fin) = true := by kernel_rfl
theorem er16x5 (kv : V) : yesB (F8z 5 (nn 16) kv S0 fin) = true := by kernel_rfl
theorem er18x8 (kv : V) : yesB (F8z 8 (nn 18) kv S0 fin) = true := by kernel_rfl
theorem er22x19 (kv : V) : yesB (F8z 19 (nn 22) kv S0 fin) = true := by kernel_rfl
theorem er23x11 (kv : V) : yesB (F8z 11 (nn 23) kv S0 fin) = true := by kernel_rfl
theorem er24x17 (kv : V) : yesB (F8z 17 (nn 24) kv S0 fin) = true := by kernel_rfl
theorem er24x19 (kv : V) : yesB (F8z 19 (nn 24) kv S0 fin) = true := by kernel_rfl
theorem er25x18 (kv : V) : yesB (F8z 18 (nn 25) kv S0 fin) = true := by kernel_rfl
theorem er27x8 (kv : V) : yesB (F8z 8 (nn 27) kv S0 fin) = true := by kernel_rfl
theorem er28x8 (kv : V) : yesB (F8z 8 (nn 28) kv S0 fin) = true := by kernel_rfl
theorem er30x2 (kv : V) : yesB (F8z 2 (nn 30) kv S0 fin) = true := by kernel_rfl
theorem er30x13 (kv : V) : yesB (F8z 13 (nn 30) kv S0 fin) = true := by kernel_rfl
theorem er30x15 (kv : V) : yesB (F8z 15 (nn 30) kv S0 fin) = true := by kernel_rfl
theorem er34x5 (kv : V) : yesB (F8z 5 (nn 34) kv S0 fin) = true := by kernel_rfl
theorem er36x5 (kv : V) : yesB (F8z 5 (nn 36) kv S0 fin) = true := by kernel_rfl
theorem er36x19 (kv : V) : yesB (F8z 19 (nn 36) kv S0 fin) = true := by kernel_rfl
theorem er36x30 (kv : V) : yesB (F8z 30 (nn 36) kv S0 fin) = true := by kernel_rfl
theorem er38x8 (kv : V) : yesB (F8z 8 (nn 38) kv S0 fin) = true := by kernel_rfl
theorem er38x13 (kv : V) : yesB (F8z 13 (nn 38) kv S0 fin) = true := by kernel_rfl
theorem er40x1 (kv : V) : yesB (F8z 1 (nn 40) kv S0 fin) = true := by kernel_rfl
theorem er40x13 (kv : V) : yesB (F8z 13 (nn 40) kv S0 fin) = true := by kernel_rfl
theorem er40x27 (kv : V) : yesB (F8z 27 (nn 40) kv S0 fin) = true := by kernel_rfl
theorem er40x30 (kv : V) : yesB (F8z 30 (nn 40) kv S0 fin) = true := by kernel_rfl
theorem er42x0 (kv : V) : yesB (F8z 0 (nn 42) kv S0 fin) = true := by kernel_rfl
theorem er44x11 (kv : V) : yesB (F8z 11 (nn 44) kv S0 fin) = true := by kernel_rfl
theorem er44x15 (kv : V) : yesB (F8z 15 (nn 44) kv S0 fin) = true := by kernel_rfl
theorem er44x35 (kv : V) : yesB (F8z 35 (nn 44) kv S0 fin) = true := by kernel_rfl
theorem er45x1 (kv : V) : yesB (F8z 1 (nn 45) kv S0 fin) = true := by kernel_rfl
theorem er45x15 (kv : V) : yesB (F8z 15 (nn 45) kv S0 fin) = true := by kernel_rfl
theorem er46x43 (kv : V) : yesB (F8z 43 (nn 46) kv S0 fin) = true := by kernel_rfl
theorem er48x12 (kv : V) : yesB (F8z 12 (nn 48) kv S0 fin) = true := by kernel_rfl
theorem er48x41 (kv : V) : yesB (F8z 41 (nn 48) kv S0 fin) = true := by kernel_rfl
theorem er48x42 (kv : V) : yesB (F8z 42 (nn 48) kv S0 fin) = true := by kernel_rfl
theorem er50x16 (kv : V) : yesB (F8z 16 (nn 50) kv S0 fin) = true := by kernel_rfl
theorem er52x25 (kv : V) : yesB (F8z 25 (nn 52) kv S0 fin) = true := by kernel_rfl
theorem er52x27 (kv : V) : yesB (F8z 27 (nn 52) kv S0 fin) = true := by kernel_rfl
theorem er54x35 (kv : V) : yesB (F8z 35 (nn 54) kv S0 fin) = true := by kernel_rfl
theorem er54x44 (kv : V) : yesB (F8z 44 (nn 54) kv S0 fin) = true := by kernel_rfl
theorem er58x0 (kv : V) : yesB (F8z 0 (nn 58) kv S0 fin) = true := by kernel_rfl
theorem er60x2 (kv : V) : yesB (F8z 2 (nn 60) kv S0 fin) = true := by kernel_rfl
theorem er60x5 (kv : V) : yesB (F8z 5 (nn 60) kv S0 fin) = true := by kernel_rfl
theorem er60x27 (kv : V) : yesB (F8z 27 (nn 60) kv S0 fin) = true := by kernel_rfl
theorem er60x33 (kv : V) : yesB (F8z 33 (nn 60) kv S0 fin) = true := by kernel_rfl
theorem er60x34 (kv : V) : yesB (F8z 34 (nn 60) kv S0 fin) = true := by kernel_rfl
theorem er60x49 (kv : V) : yesB (F8z 49 (nn 60) kv S0 fin) = true := by kernel_rfl
theorem er60x53 (kv : V) : yesB (F8z 53 (nn 60) kv S0 fin) = true := by kernel_rfl
theorem er60x57 (kv : V) : yesB (F8z 57 (nn 60) kv S0 fin) = true := by kernel_rfl
theorem er60x59 (kv : V) : yesB (F8z 59 (nn 60) kv S0 fin) = true := by kernel_rfl
theorem er66x7 (kv : V) : yesB (F8z 7 (nn 66) kv S0 fin) = true := by kernel_rfl
theorem er66x19 (kv : V) : yesB (F8z 19 (nn 66) kv S0 fin) = true := by kernel_rfl
theorem er66x32 (kv : V) : yesB (F8z 32 (nn 66) kv S0 fin) = true := by kernel_rfl
theorem er66x45 (kv : V) : yesB (F8z 45 (nn 66) kv S0 fin) = true := by kernel_rfl
theorem er70x22 (kv : V) : yesB (F8z 22 (nn 70) kv S0 fin) = true := by kernel_rfl
theorem er72x13 (kv : V) : yesB (F8z 13 (nn 72) kv S0 fin) = true := by kernel_rfl
theorem er72x19 (kv : V) : yesB (F8z 19 (nn 72) kv S0 fin) = true := by kernel_rfl
theorem er72x32 (kv : V) : yesB (F8z 32 (nn 72) kv S0 fin) = true := by kernel_rfl
theorem er72x48 (kv : V) : yesB (F8z 48 (nn 72) kv S0 fin) = true := by kernel_rfl
theorem er72x53 (kv : V) : yesB (F8z 53 (nn 72) kv S0 fin) = true := by kernel_rfl
theorem er72x68 (kv : V) : yesB (F8z 68 (nn 72) kv S0 fin) = true := by kernel_rfl
theorem er78x4 (kv : V) : yesB (F8z 4 (nn 78) kv S0 fin) = true := by kernel_rfl
theorem er78x11 (kv : V) : yesB (F8z 11 (nn 78) kv S0 fin) = true := by kernel_rfl
theorem er78x17 (kv : V) : yesB (F8z 17 (nn 78) kv S0 fin) = true := by kernel_rfl
theorem er84x5 (kv : V) : yesB (F8z 5 (nn 84) kv S0 fin) = true := by kernel_rfl
theorem er84x16 (kv : V) : yesB (F8z 16 (nn 84) kv S0 fin) = true := by kernel_rfl
theorem er84x21 (kv : V) : yesB (F8z 21 (nn 84) kv S0 fin) = true := by kernel_rfl
theorem er84x44 (kv : V) : yesB (F8z 44 (nn 84) kv S0 fin) = true := by kernel_rfl
theorem er84x56 (kv : V) : yesB (F8z 56 (nn 84) kv S0 fin) = true := by kernel_rfl
theorem er84x70 (kv : V) : yesB (F8z 70 (nn 84) kv S0 fin) = true := by kernel_rfl
theorem er84x83 (kv : V) : yesB (F8z 83 (nn 84) kv S0 fin) = true := by kernel_rfl
theorem er90x24 (kv : V) : yesB (F8z 24 (nn 90) kv S0 fin) = true := by kernel_rfl
theorem er90x78 (kv : V) : yesB (F8z 78 (nn 90) kv S0 fin) = true := by kernel_rfl
theorem er93x0 (kv : V) : yesB (F8z 0 (nn 93) kv S0 fin) = true := by kernel_rfl
theorem er110x0 (kv : V) : yesB (F8z 0 (nn 110) kv S0 fin) = true := by kernel_rfl
theorem er132x0 (kv : V) : yesB (F8z 0 (nn 132) kv S0 fin) = true := by kernel_rfl
theorem er141x0 (kv : V) : yesB (F8z 0 (nn 141) kv S0 fin) = true := by kernel_rfl
theorem er162x0 (kv : V) : yesB (F8z 0 (nn 162) kv S0 fin) = true := by kernel_rfl
theorem er178x0 (kv : V) : yesB (F8z 0 (nn 178) kv S0 fin) = true := by kernel_rfl
theorem er206x0 (kv : V) : yesB (F8z 0 (nn 206) kv S0 fin) = true := by kernel_rfl
theorem er218x0 (kv : V) : yesB (F8z 0 (nn 218) kv S0 fin) = true := by kernel_rfl
theorem er228x0 (kv : V) : yesB (F8z 0 (nn 228) kv S0 fin) = true := by kernel_rfl
theorem er243x0 (kv : V) : yesB (F8z 0 (nn 243) kv S0 fin) = true := by kernel_rfl
theorem er249x0 (kv : V) : yesB (F8z 0 (nn 249) kv S0 fin) = true := by kernel_rfl
end
end Go.AM
