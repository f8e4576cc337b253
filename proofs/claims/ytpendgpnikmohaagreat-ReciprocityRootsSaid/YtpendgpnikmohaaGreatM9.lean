/- Texts of the functions in the machine, and its runs. -/
import Derived.Test.YtpendgpnikmohaaGreatR49
import Derived.Test.YtpendgpnikmohaaGreatXM6
set_option maxRecDepth 1000000
namespace Go.AM
open Go.Proofs
noncomputable section
def mo9 : List (Pos × List V) := [((.i (.i (.o (.o (.o (.i (.o (.o (.i .h))))))))), [(.b false), (.s [1]), (.s [1]), (.b true), (.s [2]), (.s [1]), (.b true), (.s [3]), (.s [1]), (.b false), (.s [1]), (.s [1]), (.b false), (.s [1]), (.s [1])])]
def mv9 : V := (.tu [(.sl (.i (.i (.o (.o (.o (.i (.o (.o (.i .h))))))))) 0 5 5), (.i .i64 0)])
theorem ms9 : stat [] [(.i .i64 9)] mv9 mo9 = true := by kernel_rfl
theorem mr9 : runOk (un 1 F12 [(.i .i64 9)] (mkS []) fun v S => some (v, S)) mv9 mo9 = true := by kernel_rfl
theorem m9 : FOK Tryz.prog 12 (memoF [] [(.i .i64 9)] mv9 mo9) := memo_ok K12 ms9 mr9
end
end Go.AM
