/- Runs of the law. -/
import Derived.Test.YtndgeimkifdifaaGreatMEC
set_option maxRecDepth 1000000
set_option linter.unusedVariables false
namespace Go.AM
open Go.Proofs
noncomputable section
theorem er7x4 (kv : V) : yesB (F8z 4 (nn 7) kv S0 fin) = true := by kernel_rfl
theorem er8x7 (kv : V) : yesB (F8z 7 (nn 8) kv S0 fin) = true := by kernel_rfl
theorem er10x7 (kv : V) : yesB (F8z 7 (nn 10) kv S0 fin) = true := by kernel_rfl
theorem er13x3 (kv : V) : yesB (F8z 3 (nn 13) kv S0 fin) = true := by kernel_rfl
theorem er13x8 (kv : V) : yesB (F8z 8 (nn 13) kv S0 fin) = true := by kernel_rfl
theorem er14x1 (kv : V) : yesB (F8z 1 (nn 14) kv S0 fin) = true := by kernel_rfl
theorem er15x4 (kv : V) : yesB (F8z 4 (nn 15) kv S0 fin) = true := by kernel_rfl
theorem er15x5 (kv : V) : yesB (F8z 5 (nn 15) kv S0 fin) = true := by kernel_rfl
theorem er15x12 (kv : V) : yesB (F8z 12 (nn 15) kv S0 fin) = true := by kernel_rfl
theorem er17x8 (kv : V) : yesB (F8z 8 (nn 17) kv S0 fin) = true := by kernel_rfl
theorem er17x11 (kv : V) : yesB (F8z 11 (nn 17) kv S0 fin) = true := by kernel_rfl
theorem er20x15 (kv : V) : yesB (F8z 15 (nn 20) kv S0 fin) = true := by kernel_rfl
theorem er24x8 (kv : V) : yesB (F8z 8 (nn 24) kv S0 fin) = true := by kernel_rfl
theorem er25x23 (kv : V) : yesB (F8z 23 (nn 25) kv S0 fin) = true := by kernel_rfl
theorem er26x14 (kv : V) : yesB (F8z 14 (nn 26) kv S0 fin) = true := by kernel_rfl
theorem er27x14 (kv : V) : yesB (F8z 14 (nn 27) kv S0 fin) = true := by kernel_rfl
theorem er28x2 (kv : V) : yesB (F8z 2 (nn 28) kv S0 fin) = true := by kernel_rfl
theorem er28x7 (kv : V) : yesB (F8z 7 (nn 28) kv S0 fin) = true := by kernel_rfl
theorem er28x22 (kv : V) : yesB (F8z 22 (nn 28) kv S0 fin) = true := by kernel_rfl
theorem er28x24 (kv : V) : yesB (F8z 24 (nn 28) kv S0 fin) = true := by kernel_rfl
theorem er28x27 (kv : V) : yesB (F8z 27 (nn 28) kv S0 fin) = true := by kernel_rfl
theorem er30x26 (kv : V) : yesB (F8z 26 (nn 30) kv S0 fin) = true := by kernel_rfl
theorem er32x25 (kv : V) : yesB (F8z 25 (nn 32) kv S0 fin) = true := by kernel_rfl
theorem er33x18 (kv : V) : yesB (F8z 18 (nn 33) kv S0 fin) = true := by kernel_rfl
theorem er34x30 (kv : V) : yesB (F8z 30 (nn 34) kv S0 fin) = true := by kernel_rfl
theorem er35x3 (kv : V) : yesB (F8z 3 (nn 35) kv S0 fin) = true := by kernel_rfl
theorem er35x27 (kv : V) : yesB (F8z 27 (nn 35) kv S0 fin) = true := by kernel_rfl
theorem er35x33 (kv : V) : yesB (F8z 33 (nn 35) kv S0 fin) = true := by kernel_rfl
theorem er36x15 (kv : V) : yesB (F8z 15 (nn 36) kv S0 fin) = true := by kernel_rfl
theorem er36x32 (kv : V) : yesB (F8z 32 (nn 36) kv S0 fin) = true := by kernel_rfl
theorem er38x21 (kv : V) : yesB (F8z 21 (nn 38) kv S0 fin) = true := by kernel_rfl
theorem er38x25 (kv : V) : yesB (F8z 25 (nn 38) kv S0 fin) = true := by kernel_rfl
theorem er39x22 (kv : V) : yesB (F8z 22 (nn 39) kv S0 fin) = true := by kernel_rfl
theorem er39x34 (kv : V) : yesB (F8z 34 (nn 39) kv S0 fin) = true := by kernel_rfl
theorem er40x25 (kv : V) : yesB (F8z 25 (nn 40) kv S0 fin) = true := by kernel_rfl
theorem er44x3 (kv : V) : yesB (F8z 3 (nn 44) kv S0 fin) = true := by kernel_rfl
theorem er44x5 (kv : V) : yesB (F8z 5 (nn 44) kv S0 fin) = true := by kernel_rfl
theorem er44x10 (kv : V) : yesB (F8z 10 (nn 44) kv S0 fin) = true := by kernel_rfl
theorem er45x5 (kv : V) : yesB (F8z 5 (nn 45) kv S0 fin) = true := by kernel_rfl
theorem er45x31 (kv : V) : yesB (F8z 31 (nn 45) kv S0 fin) = true := by kernel_rfl
theorem er46x11 (kv : V) : yesB (F8z 11 (nn 46) kv S0 fin) = true := by kernel_rfl
theorem er46x33 (kv : V) : yesB (F8z 33 (nn 46) kv S0 fin) = true := by kernel_rfl
theorem er48x1 (kv : V) : yesB (F8z 1 (nn 48) kv S0 fin) = true := by kernel_rfl
theorem er48x4 (kv : V) : yesB (F8z 4 (nn 48) kv S0 fin) = true := by kernel_rfl
theorem er50x12 (kv : V) : yesB (F8z 12 (nn 50) kv S0 fin) = true := by kernel_rfl
theorem er50x41 (kv : V) : yesB (F8z 41 (nn 50) kv S0 fin) = true := by kernel_rfl
theorem er52x12 (kv : V) : yesB (F8z 12 (nn 52) kv S0 fin) = true := by kernel_rfl
theorem er52x17 (kv : V) : yesB (F8z 17 (nn 52) kv S0 fin) = true := by kernel_rfl
theorem er52x24 (kv : V) : yesB (F8z 24 (nn 52) kv S0 fin) = true := by kernel_rfl
theorem er54x12 (kv : V) : yesB (F8z 12 (nn 54) kv S0 fin) = true := by kernel_rfl
theorem er54x32 (kv : V) : yesB (F8z 32 (nn 54) kv S0 fin) = true := by kernel_rfl
theorem er56x11 (kv : V) : yesB (F8z 11 (nn 56) kv S0 fin) = true := by kernel_rfl
theorem er56x31 (kv : V) : yesB (F8z 31 (nn 56) kv S0 fin) = true := by kernel_rfl
theorem er56x36 (kv : V) : yesB (F8z 36 (nn 56) kv S0 fin) = true := by kernel_rfl
theorem er60x7 (kv : V) : yesB (F8z 7 (nn 60) kv S0 fin) = true := by kernel_rfl
theorem er60x16 (kv : V) : yesB (F8z 16 (nn 60) kv S0 fin) = true := by kernel_rfl
theorem er60x23 (kv : V) : yesB (F8z 23 (nn 60) kv S0 fin) = true := by kernel_rfl
theorem er62x0 (kv : V) : yesB (F8z 0 (nn 62) kv S0 fin) = true := by kernel_rfl
theorem er66x46 (kv : V) : yesB (F8z 46 (nn 66) kv S0 fin) = true := by kernel_rfl
theorem er66x55 (kv : V) : yesB (F8z 55 (nn 66) kv S0 fin) = true := by kernel_rfl
theorem er70x48 (kv : V) : yesB (F8z 48 (nn 70) kv S0 fin) = true := by kernel_rfl
theorem er72x18 (kv : V) : yesB (F8z 18 (nn 72) kv S0 fin) = true := by kernel_rfl
theorem er72x26 (kv : V) : yesB (F8z 26 (nn 72) kv S0 fin) = true := by kernel_rfl
theorem er72x60 (kv : V) : yesB (F8z 60 (nn 72) kv S0 fin) = true := by kernel_rfl
theorem er76x0 (kv : V) : yesB (F8z 0 (nn 76) kv S0 fin) = true := by kernel_rfl
theorem er78x7 (kv : V) : yesB (F8z 7 (nn 78) kv S0 fin) = true := by kernel_rfl
theorem er78x30 (kv : V) : yesB (F8z 30 (nn 78) kv S0 fin) = true := by kernel_rfl
theorem er78x36 (kv : V) : yesB (F8z 36 (nn 78) kv S0 fin) = true := by kernel_rfl
theorem er82x0 (kv : V) : yesB (F8z 0 (nn 82) kv S0 fin) = true := by kernel_rfl
theorem er84x13 (kv : V) : yesB (F8z 13 (nn 84) kv S0 fin) = true := by kernel_rfl
theorem er84x17 (kv : V) : yesB (F8z 17 (nn 84) kv S0 fin) = true := by kernel_rfl
theorem er84x40 (kv : V) : yesB (F8z 40 (nn 84) kv S0 fin) = true := by kernel_rfl
theorem er84x43 (kv : V) : yesB (F8z 43 (nn 84) kv S0 fin) = true := by kernel_rfl
theorem er84x64 (kv : V) : yesB (F8z 64 (nn 84) kv S0 fin) = true := by kernel_rfl
theorem er84x71 (kv : V) : yesB (F8z 71 (nn 84) kv S0 fin) = true := by kernel_rfl
theorem er84x78 (kv : V) : yesB (F8z 78 (nn 84) kv S0 fin) = true := by kernel_rfl
theorem er90x40 (kv : V) : yesB (F8z 40 (nn 90) kv S0 fin) = true := by kernel_rfl
theorem er90x56 (kv : V) : yesB (F8z 56 (nn 90) kv S0 fin) = true := by kernel_rfl
theorem er90x86 (kv : V) : yesB (F8z 86 (nn 90) kv S0 fin) = true := by kernel_rfl
theorem er118x0 (kv : V) : yesB (F8z 0 (nn 118) kv S0 fin) = true := by kernel_rfl
theorem er163x0 (kv : V) : yesB (F8z 0 (nn 163) kv S0 fin) = true := by kernel_rfl
theorem er214x0 (kv : V) : yesB (F8z 0 (nn 214) kv S0 fin) = true := by kernel_rfl
theorem er231x0 (kv : V) : yesB (F8z 0 (nn 231) kv S0 fin) = true := by kernel_rfl
theorem er246x0 (kv : V) : yesB (F8z 0 (nn 246) kv S0 fin) = true := by kernel_rfl
theorem er256x0 (kv : V) : yesB (F8z 0 (nn 256) kv S0 fin) = true := by kernel_rfl
end
end Go.AM
