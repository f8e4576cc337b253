/- Roots at 3, 2: the long polynomial is told by its run. -/
import Derived.Test.YtpendgpnikmohaaGreatR49
import Derived.Test.YtpendgpnikmohaaGreatM9
import Derived.Test.YtpendgpnikmohaaGreatM35
set_option maxRecDepth 1000000
namespace Go.AM
open Go.Proofs
noncomputable section
def F12n : Gn 1 := cur 1 (memoF [] [(.i .i64 35)] mv35 mo35)
def F12o : Gn 1 := cur 1 (orF (un 1 F12n) (un 1 F12))
theorem K12o : FOK Tryz.prog 12 (un 1 F12o) := cur_ok 1 (orF_ok (cur_ok 1 m35) K12)
def F5n : Gn 2 := G5 (C5 sayT F12o F19 F24 F25)
theorem run3_2 : yesB (F5n (.i .u8 3) (.i .u8 2) S0 fun v S => some (v, S)) = true := by kernel_rfl
end
end Go.AM
