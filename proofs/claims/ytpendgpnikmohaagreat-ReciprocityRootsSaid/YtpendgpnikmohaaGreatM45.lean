/- Texts of the functions in the machine, and its runs. -/
import Derived.Test.YtpendgpnikmohaaGreatR49
import Derived.Test.YtpendgpnikmohaaGreatXM6
set_option maxRecDepth 1000000
namespace Go.AM
open Go.Proofs
noncomputable section
def mo45 : List (Pos × List V) := [((.o (.i (.i (.o (.o (.o (.o (.o (.i (.i (.i (.o (.o (.o .h)))))))))))))), [(.b true), (.s [1]), (.s [1]), (.b false), (.s [11]), (.s [1]), (.b false), (.s [66]), (.s [1]), (.b true), (.s [220]), (.s [1]), (.b true), (.s [2, 203]), (.s [1]), (.b false), (.s [5, 7]), (.s [1]), (.b false), (.s [11, 187]), (.s [1]), (.b true), (.s [13, 104]), (.s [1]), (.b true), (.s [25, 35]), (.s [1]), (.b false), (.s [19, 141]), (.s [1]), (.b false), (.s [31, 72]), (.s [1]), (.b true), (.s [17, 16]), (.s [1]), (.b true), (.s [24, 44]), (.s [1]), (.b false), (.s [9, 76]), (.s [1]), (.b false), (.s [11, 244]), (.s [1]), (.b true), (.s [3, 48]), (.s [1]), (.b true), (.s [3, 201]), (.s [1]), (.b false), (.s [171]), (.s [1]), (.b false), (.s [190]), (.s [1]), (.b true), (.s [20]), (.s [1]), (.b true), (.s [21]), (.s [1]), (.b false), (.s [1]), (.s [1]), (.b false), (.s [1]), (.s [1])])]
def mv45 : V := (.tu [(.sl (.o (.i (.i (.o (.o (.o (.o (.o (.i (.i (.i (.o (.o (.o .h)))))))))))))) 0 23 23), (.i .i64 0)])
theorem ms45 : stat [] [(.i .i64 45)] mv45 mo45 = true := by kernel_rfl
theorem mr45 : runOk (un 1 F12 [(.i .i64 45)] (mkS []) fun v S => some (v, S)) mv45 mo45 = true := by kernel_rfl
theorem m45 : FOK Tryz.prog 12 (memoF [] [(.i .i64 45)] mv45 mo45) := memo_ok K12 ms45 mr45
end
end Go.AM
