/- Runs of the law. -/
import Derived.Test.YtndgeimkifdifaaGreatMEC
set_option maxRecDepth 1000000
set_option linter.unusedVariables false
namespace Go.AM
open Go.Proofs
noncomputable section
theorem er7x6 (kv : V) : yesB (F8z 6 (nn 7) kv S0 fin) = true := by kernel_rfl
theorem er10x9 (kv : V) : yesB (F8z 9 (nn 10) kv S0 fin) = true := by kernel_rfl
theorem er11x1 (kv : V) : yesB (F8z 1 (nn 11) kv S0 fin) = true := by kernel_rfl
theorem er11x8 (kv : V) : yesB (F8z 8 (nn 11) kv S0 fin) = true := by kernel_rfl
theorem er12x11 (kv : V) : yesB (F8z 11 (nn 12) kv S0 fin) = true := by kernel_rfl
theorem er13x9 (kv : V) : yesB (F8z 9 (nn 13) kv S0 fin) = true := by kernel_rfl
theorem er14x0 (kv : V) : yesB (F8z 0 (nn 14) kv S0 fin) = true := by kernel_rfl
theorem er14x11 (kv : V) : yesB (F8z 11 (nn 14) kv S0 fin) = true := by kernel_rfl
theorem er15x11 (kv : V) : yesB (F8z 11 (nn 15) kv S0 fin) = true := by kernel_rfl
theorem er16x9 (kv : V) : yesB (F8z 9 (nn 16) kv S0 fin) = true := by kernel_rfl
theorem er17x12 (kv : V) : yesB (F8z 12 (nn 17) kv S0 fin) = true := by kernel_rfl
theorem er18x3 (kv : V) : yesB (F8z 3 (nn 18) kv S0 fin) = true := by kernel_rfl
theorem er19x6 (kv : V) : yesB (F8z 6 (nn 19) kv S0 fin) = true := by kernel_rfl
theorem er20x5 (kv : V) : yesB (F8z 5 (nn 20) kv S0 fin) = true := by kernel_rfl
theorem er20x19 (kv : V) : yesB (F8z 19 (nn 20) kv S0 fin) = true := by kernel_rfl
theorem er21x15 (kv : V) : yesB (F8z 15 (nn 21) kv S0 fin) = true := by kernel_rfl
theorem er22x12 (kv : V) : yesB (F8z 12 (nn 22) kv S0 fin) = true := by kernel_rfl
theorem er23x18 (kv : V) : yesB (F8z 18 (nn 23) kv S0 fin) = true := by kernel_rfl
theorem er24x10 (kv : V) : yesB (F8z 10 (nn 24) kv S0 fin) = true := by kernel_rfl
theorem er25x10 (kv : V) : yesB (F8z 10 (nn 25) kv S0 fin) = true := by kernel_rfl
theorem er26x1 (kv : V) : yesB (F8z 1 (nn 26) kv S0 fin) = true := by kernel_rfl
theorem er26x11 (kv : V) : yesB (F8z 11 (nn 26) kv S0 fin) = true := by kernel_rfl
theorem er28x26 (kv : V) : yesB (F8z 26 (nn 28) kv S0 fin) = true := by kernel_rfl
theorem er30x29 (kv : V) : yesB (F8z 29 (nn 30) kv S0 fin) = true := by kernel_rfl
theorem er32x5 (kv : V) : yesB (F8z 5 (nn 32) kv S0 fin) = true := by kernel_rfl
theorem er32x16 (kv : V) : yesB (F8z 16 (nn 32) kv S0 fin) = true := by kernel_rfl
theorem er32x22 (kv : V) : yesB (F8z 22 (nn 32) kv S0 fin) = true := by kernel_rfl
theorem er32x24 (kv : V) : yesB (F8z 24 (nn 32) kv S0 fin) = true := by kernel_rfl
theorem er33x0 (kv : V) : yesB (F8z 0 (nn 33) kv S0 fin) = true := by kernel_rfl
theorem er33x23 (kv : V) : yesB (F8z 23 (nn 33) kv S0 fin) = true := by kernel_rfl
theorem er34x21 (kv : V) : yesB (F8z 21 (nn 34) kv S0 fin) = true := by kernel_rfl
theorem er34x23 (kv : V) : yesB (F8z 23 (nn 34) kv S0 fin) = true := by kernel_rfl
theorem er35x32 (kv : V) : yesB (F8z 32 (nn 35) kv S0 fin) = true := by kernel_rfl
theorem er38x6 (kv : V) : yesB (F8z 6 (nn 38) kv S0 fin) = true := by kernel_rfl
theorem er38x9 (kv : V) : yesB (F8z 9 (nn 38) kv S0 fin) = true := by kernel_rfl
theorem er38x23 (kv : V) : yesB (F8z 23 (nn 38) kv S0 fin) = true := by kernel_rfl
theorem er42x5 (kv : V) : yesB (F8z 5 (nn 42) kv S0 fin) = true := by kernel_rfl
theorem er42x30 (kv : V) : yesB (F8z 30 (nn 42) kv S0 fin) = true := by kernel_rfl
theorem er44x7 (kv : V) : yesB (F8z 7 (nn 44) kv S0 fin) = true := by kernel_rfl
theorem er44x27 (kv : V) : yesB (F8z 27 (nn 44) kv S0 fin) = true := by kernel_rfl
theorem er44x31 (kv : V) : yesB (F8z 31 (nn 44) kv S0 fin) = true := by kernel_rfl
theorem er44x38 (kv : V) : yesB (F8z 38 (nn 44) kv S0 fin) = true := by kernel_rfl
theorem er48x13 (kv : V) : yesB (F8z 13 (nn 48) kv S0 fin) = true := by kernel_rfl
theorem er48x27 (kv : V) : yesB (F8z 27 (nn 48) kv S0 fin) = true := by kernel_rfl
theorem er52x32 (kv : V) : yesB (F8z 32 (nn 52) kv S0 fin) = true := by kernel_rfl
theorem er54x8 (kv : V) : yesB (F8z 8 (nn 54) kv S0 fin) = true := by kernel_rfl
theorem er54x45 (kv : V) : yesB (F8z 45 (nn 54) kv S0 fin) = true := by kernel_rfl
theorem er54x47 (kv : V) : yesB (F8z 47 (nn 54) kv S0 fin) = true := by kernel_rfl
theorem er56x8 (kv : V) : yesB (F8z 8 (nn 56) kv S0 fin) = true := by kernel_rfl
theorem er56x42 (kv : V) : yesB (F8z 42 (nn 56) kv S0 fin) = true := by kernel_rfl
theorem er60x30 (kv : V) : yesB (F8z 30 (nn 60) kv S0 fin) = true := by kernel_rfl
theorem er61x0 (kv : V) : yesB (F8z 0 (nn 61) kv S0 fin) = true := by kernel_rfl
theorem er66x18 (kv : V) : yesB (F8z 18 (nn 66) kv S0 fin) = true := by kernel_rfl
theorem er66x22 (kv : V) : yesB (F8z 22 (nn 66) kv S0 fin) = true := by kernel_rfl
theorem er66x28 (kv : V) : yesB (F8z 28 (nn 66) kv S0 fin) = true := by kernel_rfl
theorem er66x29 (kv : V) : yesB (F8z 29 (nn 66) kv S0 fin) = true := by kernel_rfl
theorem er70x1 (kv : V) : yesB (F8z 1 (nn 70) kv S0 fin) = true := by kernel_rfl
theorem er70x17 (kv : V) : yesB (F8z 17 (nn 70) kv S0 fin) = true := by kernel_rfl
theorem er70x29 (kv : V) : yesB (F8z 29 (nn 70) kv S0 fin) = true := by kernel_rfl
theorem er70x57 (kv : V) : yesB (F8z 57 (nn 70) kv S0 fin) = true := by kernel_rfl
theorem er70x68 (kv : V) : yesB (F8z 68 (nn 70) kv S0 fin) = true := by kernel_rfl
theorem er72x5 (kv : V) : yesB (F8z 5 (nn 72) kv S0 fin) = true := by kernel_rfl
theorem er72x71 (kv : V) : yesB (F8z 71 (nn 72) kv S0 fin) = true := by kernel_rfl
theorem er74x0 (kv : V) : yesB (F8z 0 (nn 74) kv S0 fin) = true := by kernel_rfl
theorem er78x19 (kv : V) : yesB (F8z 19 (nn 78) kv S0 fin) = true := by kernel_rfl
theorem er84x3 (kv : V) : yesB (F8z 3 (nn 84) kv S0 fin) = true := by kernel_rfl
theorem er84x9 (kv : V) : yesB (F8z 9 (nn 84) kv S0 fin) = true := by kernel_rfl
theorem er84x12 (kv : V) : yesB (F8z 12 (nn 84) kv S0 fin) = true := by kernel_rfl
theorem er84x20 (kv : V) : yesB (F8z 20 (nn 84) kv S0 fin) = true := by kernel_rfl
theorem er84x25 (kv : V) : yesB (F8z 25 (nn 84) kv S0 fin) = true := by kernel_rfl
theorem er84x32 (kv : V) : yesB (F8z 32 (nn 84) kv S0 fin) = true := by kernel_rfl
theorem er84x47 (kv : V) : yesB (F8z 47 (nn 84) kv S0 fin) = true := by kernel_rfl
theorem er84x53 (kv : V) : yesB (F8z 53 (nn 84) kv S0 fin) = true := by kernel_rfl
theorem er84x65 (kv : V) : yesB (F8z 65 (nn 84) kv S0 fin) = true := by kernel_rfl
theorem er90x27 (kv : V) : yesB (F8z 27 (nn 90) kv S0 fin) = true := by kernel_rfl
theorem er90x34 (kv : V) : yesB (F8z 34 (nn 90) kv S0 fin) = true := by kernel_rfl
theorem er90x60 (kv : V) : yesB (F8z 60 (nn 90) kv S0 fin) = true := by kernel_rfl
theorem er90x71 (kv : V) : yesB (F8z 71 (nn 90) kv S0 fin) = true := by kernel_rfl
theorem er90x74 (kv : V) : yesB (F8z 74 (nn 90) kv S0 fin) = true := by kernel_rfl
theorem er109x0 (kv : V) : yesB (F8z 0 (nn 109) kv S0 fin) = true := by kernel_rfl
theorem er126x0 (kv : V) : yesB (F8z 0 (nn 126) kv S0 fin) = true := by kernel_rfl
theorem er192x0 (kv : V) : yesB (F8z 0 (nn 192) kv S0 fin) = true := by kernel_rfl
theorem er219x0 (kv : V) : yesB (F8z 0 (nn 219) kv S0 fin) = true := by kernel_rfl
theorem er238x0 (kv : V) : yesB (F8z 0 (nn 238) kv S0 fin) = true := by kernel_rfl
theorem er244x0 (kv : V) : yesB (F8z 0 (nn 244) kv S0 fin) = true := by kernel_rfl
end
end Go.AM
