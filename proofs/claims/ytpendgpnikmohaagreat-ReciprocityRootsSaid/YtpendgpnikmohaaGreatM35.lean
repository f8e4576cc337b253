/- Texts of the functions in the machine, and its runs. -/
import Derived.Test.YtpendgpnikmohaaGreatR49
import Derived.Test.YtpendgpnikmohaaGreatXM6
set_option maxRecDepth 1000000
namespace Go.AM
open Go.Proofs
noncomputable section
def mo35 : List (Pos × List V) := [((.i (.o (.o (.i (.i (.o (.o (.i (.i (.i (.o (.i (.o .h))))))))))))), [(.b false), (.s [1]), (.s [1]), (.b false), (.s [9]), (.s [1]), (.b true), (.s [36]), (.s [1]), (.b true), (.s [120]), (.s [1]), (.b false), (.s [210]), (.s [1]), (.b false), (.s [1, 206]), (.s [1]), (.b true), (.s [1, 206]), (.s [1]), (.b true), (.s [3, 24]), (.s [1]), (.b false), (.s [1, 239]), (.s [1]), (.b false), (.s [2, 203]), (.s [1]), (.b true), (.s [1, 30]), (.s [1]), (.b true), (.s [1, 108]), (.s [1]), (.b false), (.s [91]), (.s [1]), (.b false), (.s [105]), (.s [1]), (.b true), (.s [15]), (.s [1]), (.b true), (.s [16]), (.s [1]), (.b false), (.s [1]), (.s [1]), (.b false), (.s [1]), (.s [1])])]
def mv35 : V := (.tu [(.sl (.i (.o (.o (.i (.i (.o (.o (.i (.i (.i (.o (.i (.o .h))))))))))))) 0 18 18), (.i .i64 0)])
theorem ms35 : stat [] [(.i .i64 35)] mv35 mo35 = true := by kernel_rfl
theorem mr35 : runOk (un 1 F12 [(.i .i64 35)] (mkS []) fun v S => some (v, S)) mv35 mo35 = true := by kernel_rfl
theorem m35 : FOK Tryz.prog 12 (memoF [] [(.i .i64 35)] mv35 mo35) := memo_ok K12 ms35 mr35
end
end Go.AM
