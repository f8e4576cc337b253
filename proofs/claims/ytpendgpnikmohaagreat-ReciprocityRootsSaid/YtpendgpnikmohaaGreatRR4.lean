/- Roots at 4, 2: the long polynomial and the long products are told by their runs. -/
import Derived.Test.YtpendgpnikmohaaGreatR49
import Derived.Test.YtpendgpnikmohaaGreatM9
import Derived.Test.YtpendgpnikmohaaGreatM45
set_option maxRecDepth 1000000
set_option linter.unusedVariables false
namespace Go.AM
open Go.Proofs
noncomputable section
def uo0 : List (Pos × List V) := [((.i (.o (.o (.i (.o (.o (.o (.i (.o (.o (.o .h))))))))))), [(.b false), (.s []), (.s [1]), (.b false), (.s []), (.s [1]), (.b false), (.s []), (.s [1]), (.b false), (.s []), (.s [1]), (.b false), (.s []), (.s [1]), (.b false), (.s []), (.s [1]), (.b false), (.s []), (.s [1]), (.b false), (.s []), (.s [1]), (.b false), (.s []), (.s [1]), (.b false), (.s []), (.s [1]), (.b false), (.s []), (.s [1]), (.b false), (.s []), (.s [1]), (.b false), (.s []), (.s [1]), (.b false), (.s []), (.s [1]), (.b false), (.s []), (.s [1]), (.b false), (.s []), (.s [1]), (.b false), (.s []), (.s [1]), (.b false), (.s []), (.s [1]), (.b false), (.s [1]), (.s [1]), (.b true), (.s [2]), (.s [1]), (.b true), (.s [3]), (.s [1]), (.b false), (.s [1]), (.s [1]), (.b false), (.s [1]), (.s [1])])]
def uv0 : V := (.so (.i (.o (.o (.i (.o (.o (.o (.i (.o (.o (.o .h))))))))))) 0 23 23 3)
def ub0 : List (List V) := [[(.b false), (.s []), (.s [1]), (.b false), (.s []), (.s [1]), (.b false), (.s []), (.s [1]), (.b false), (.s []), (.s [1]), (.b false), (.s []), (.s [1]), (.b false), (.s []), (.s [1]), (.b false), (.s []), (.s [1]), (.b false), (.s []), (.s [1]), (.b false), (.s []), (.s [1]), (.b false), (.s []), (.s [1]), (.b false), (.s []), (.s [1]), (.b false), (.s []), (.s [1]), (.b false), (.s []), (.s [1]), (.b false), (.s []), (.s [1]), (.b false), (.s []), (.s [1]), (.b false), (.s []), (.s [1]), (.b false), (.s []), (.s [1]), (.b false), (.s []), (.s [1]), (.b false), (.s [1]), (.s [1])], [(.b false), (.s [1]), (.s [1]), (.b true), (.s [2]), (.s [1]), (.b true), (.s [3]), (.s [1]), (.b false), (.s [1]), (.s [1]), (.b false), (.s [1]), (.s [1])]]
def ua0 : List V := [(.so .h 0 19 19 3), (.sl (.o .h) 0 5 5)]
theorem us0 : stat ub0 ua0 uv0 uo0 = true := by kernel_rfl
theorem ur0 : runOk (un 2 F20 ua0 (mkS ub0) fun v S => some (v, S)) uv0 uo0 = true := by kernel_rfl
theorem u0 : FOK Tryz.prog 20 (memoF ub0 ua0 uv0 uo0) := memo_ok K20 us0 ur0
def uo1 : List (Pos × List V) := [((.i (.o (.o (.i (.o (.i (.o (.i (.i (.i .h)))))))))), [(.b false), (.s []), (.s [1]), (.b false), (.s []), (.s [1]), (.b false), (.s []), (.s [1]), (.b false), (.s []), (.s [1]), (.b false), (.s []), (.s [1]), (.b false), (.s []), (.s [1]), (.b false), (.s []), (.s [1]), (.b false), (.s []), (.s [1]), (.b false), (.s []), (.s [1]), (.b false), (.s []), (.s [1]), (.b false), (.s []), (.s [1]), (.b false), (.s []), (.s [1]), (.b false), (.s []), (.s [1]), (.b false), (.s []), (.s [1]), (.b false), (.s []), (.s [1]), (.b false), (.s []), (.s [1]), (.b true), (.s [18]), (.s [1]), (.b false), (.s [36]), (.s [1]), (.b false), (.s [54]), (.s [1]), (.b true), (.s [18]), (.s [1]), (.b true), (.s [18]), (.s [1])])]
def uv1 : V := (.so (.i (.o (.o (.i (.o (.i (.o (.i (.i (.i .h)))))))))) 0 21 21 3)
def ub1 : List (List V) := [[(.b false), (.s []), (.s [1]), (.b false), (.s []), (.s [1]), (.b false), (.s []), (.s [1]), (.b false), (.s []), (.s [1]), (.b false), (.s []), (.s [1]), (.b false), (.s []), (.s [1]), (.b false), (.s []), (.s [1]), (.b false), (.s []), (.s [1]), (.b false), (.s []), (.s [1]), (.b false), (.s []), (.s [1]), (.b false), (.s []), (.s [1]), (.b false), (.s []), (.s [1]), (.b false), (.s []), (.s [1]), (.b false), (.s []), (.s [1]), (.b false), (.s []), (.s [1]), (.b false), (.s []), (.s [1]), (.b true), (.s [18]), (.s [1])], [(.b false), (.s [1]), (.s [1]), (.b true), (.s [2]), (.s [1]), (.b true), (.s [3]), (.s [1]), (.b false), (.s [1]), (.s [1]), (.b false), (.s [1]), (.s [1])]]
def ua1 : List V := [(.so .h 0 17 17 3), (.sl (.o .h) 0 5 5)]
theorem us1 : stat ub1 ua1 uv1 uo1 = true := by kernel_rfl
theorem ur1 : runOk (un 2 F20 ua1 (mkS ub1) fun v S => some (v, S)) uv1 uo1 = true := by kernel_rfl
theorem u1 : FOK Tryz.prog 20 (memoF ub1 ua1 uv1 uo1) := memo_ok K20 us1 ur1
def uo2 : List (Pos × List V) := [((.i (.o (.i (.o (.i (.o (.i (.i (.o (.i .h)))))))))), [(.b false), (.s []), (.s [1]), (.b false), (.s []), (.s [1]), (.b false), (.s []), (.s [1]), (.b false), (.s []), (.s [1]), (.b false), (.s []), (.s [1]), (.b false), (.s []), (.s [1]), (.b false), (.s []), (.s [1]), (.b false), (.s []), (.s [1]), (.b false), (.s []), (.s [1]), (.b false), (.s []), (.s [1]), (.b false), (.s []), (.s [1]), (.b false), (.s []), (.s [1]), (.b false), (.s []), (.s [1]), (.b false), (.s []), (.s [1]), (.b false), (.s [135]), (.s [1]), (.b true), (.s [1, 14]), (.s [1]), (.b true), (.s [1, 149]), (.s [1]), (.b false), (.s [135]), (.s [1]), (.b false), (.s [135]), (.s [1])])]
def uv2 : V := (.so (.i (.o (.i (.o (.i (.o (.i (.i (.o (.i .h)))))))))) 0 19 19 3)
def ub2 : List (List V) := [[(.b false), (.s []), (.s [1]), (.b false), (.s []), (.s [1]), (.b false), (.s []), (.s [1]), (.b false), (.s []), (.s [1]), (.b false), (.s []), (.s [1]), (.b false), (.s []), (.s [1]), (.b false), (.s []), (.s [1]), (.b false), (.s []), (.s [1]), (.b false), (.s []), (.s [1]), (.b false), (.s []), (.s [1]), (.b false), (.s []), (.s [1]), (.b false), (.s []), (.s [1]), (.b false), (.s []), (.s [1]), (.b false), (.s []), (.s [1]), (.b false), (.s [135]), (.s [1])], [(.b false), (.s [1]), (.s [1]), (.b true), (.s [2]), (.s [1]), (.b true), (.s [3]), (.s [1]), (.b false), (.s [1]), (.s [1]), (.b false), (.s [1]), (.s [1])]]
def ua2 : List V := [(.so .h 0 15 15 3), (.sl (.o .h) 0 5 5)]
theorem us2 : stat ub2 ua2 uv2 uo2 = true := by kernel_rfl
theorem ur2 : runOk (un 2 F20 ua2 (mkS ub2) fun v S => some (v, S)) uv2 uo2 = true := by kernel_rfl
theorem u2 : FOK Tryz.prog 20 (memoF ub2 ua2 uv2 uo2) := memo_ok K20 us2 ur2
def uo3 : List (Pos × List V) := [((.i (.o (.o (.o (.o (.o (.o (.o (.o (.i .h)))))))))), [(.b false), (.s []), (.s [1]), (.b false), (.s []), (.s [1]), (.b false), (.s []), (.s [1]), (.b false), (.s []), (.s [1]), (.b false), (.s []), (.s [1]), (.b false), (.s []), (.s [1]), (.b false), (.s []), (.s [1]), (.b false), (.s []), (.s [1]), (.b false), (.s []), (.s [1]), (.b false), (.s []), (.s [1]), (.b false), (.s []), (.s [1]), (.b false), (.s []), (.s [1]), (.b true), (.s [2, 34]), (.s [1]), (.b false), (.s [4, 68]), (.s [1]), (.b false), (.s [6, 102]), (.s [1]), (.b true), (.s [2, 34]), (.s [1]), (.b true), (.s [2, 34]), (.s [1])])]
def uv3 : V := (.so (.i (.o (.o (.o (.o (.o (.o (.o (.o (.i .h)))))))))) 0 17 17 3)
def ub3 : List (List V) := [[(.b false), (.s []), (.s [1]), (.b false), (.s []), (.s [1]), (.b false), (.s []), (.s [1]), (.b false), (.s []), (.s [1]), (.b false), (.s []), (.s [1]), (.b false), (.s []), (.s [1]), (.b false), (.s []), (.s [1]), (.b false), (.s []), (.s [1]), (.b false), (.s []), (.s [1]), (.b false), (.s []), (.s [1]), (.b false), (.s []), (.s [1]), (.b false), (.s []), (.s [1]), (.b true), (.s [2, 34]), (.s [1])], [(.b false), (.s [1]), (.s [1]), (.b true), (.s [2]), (.s [1]), (.b true), (.s [3]), (.s [1]), (.b false), (.s [1]), (.s [1]), (.b false), (.s [1]), (.s [1])]]
def ua3 : List V := [(.so .h 0 13 13 3), (.sl (.o .h) 0 5 5)]
theorem us3 : stat ub3 ua3 uv3 uo3 = true := by kernel_rfl
theorem ur3 : runOk (un 2 F20 ua3 (mkS ub3) fun v S => some (v, S)) uv3 uo3 = true := by kernel_rfl
theorem u3 : FOK Tryz.prog 20 (memoF ub3 ua3 uv3 uo3) := memo_ok K20 us3 ur3
def uo4 : List (Pos × List V) := [((.i (.o (.i (.o (.o (.i (.o (.o (.i (.o .h)))))))))), [(.b false), (.s []), (.s [1]), (.b false), (.s []), (.s [1]), (.b false), (.s []), (.s [1]), (.b false), (.s []), (.s [1]), (.b false), (.s []), (.s [1]), (.b false), (.s []), (.s [1]), (.b false), (.s []), (.s [1]), (.b false), (.s []), (.s [1]), (.b false), (.s []), (.s [1]), (.b false), (.s []), (.s [1]), (.b false), (.s [5, 7]), (.s [1]), (.b true), (.s [10, 14]), (.s [1]), (.b true), (.s [15, 21]), (.s [1]), (.b false), (.s [5, 7]), (.s [1]), (.b false), (.s [5, 7]), (.s [1])])]
def uv4 : V := (.so (.i (.o (.i (.o (.o (.i (.o (.o (.i (.o .h)))))))))) 0 15 15 3)
def ub4 : List (List V) := [[(.b false), (.s []), (.s [1]), (.b false), (.s []), (.s [1]), (.b false), (.s []), (.s [1]), (.b false), (.s []), (.s [1]), (.b false), (.s []), (.s [1]), (.b false), (.s []), (.s [1]), (.b false), (.s []), (.s [1]), (.b false), (.s []), (.s [1]), (.b false), (.s []), (.s [1]), (.b false), (.s []), (.s [1]), (.b false), (.s [5, 7]), (.s [1])], [(.b false), (.s [1]), (.s [1]), (.b true), (.s [2]), (.s [1]), (.b true), (.s [3]), (.s [1]), (.b false), (.s [1]), (.s [1]), (.b false), (.s [1]), (.s [1])]]
def ua4 : List V := [(.so .h 0 11 11 3), (.sl (.o .h) 0 5 5)]
theorem us4 : stat ub4 ua4 uv4 uo4 = true := by kernel_rfl
theorem ur4 : runOk (un 2 F20 ua4 (mkS ub4) fun v S => some (v, S)) uv4 uo4 = true := by kernel_rfl
theorem u4 : FOK Tryz.prog 20 (memoF ub4 ua4 uv4 uo4) := memo_ok K20 us4 ur4
def uo5 : List (Pos × List V) := [((.o (.i (.o (.o (.o (.i (.o (.i (.o (.o .h)))))))))), [(.b false), (.s []), (.s [1]), (.b false), (.s []), (.s [1]), (.b false), (.s []), (.s [1]), (.b false), (.s []), (.s [1]), (.b false), (.s []), (.s [1]), (.b false), (.s []), (.s [1]), (.b false), (.s []), (.s [1]), (.b false), (.s []), (.s [1]), (.b false), (.s []), (.s [1]), (.b false), (.s [1]), (.s [1]), (.b true), (.s [2]), (.s [1]), (.b true), (.s [3]), (.s [1]), (.b false), (.s [1]), (.s [1]), (.b false), (.s [1]), (.s [1])])]
def uv5 : V := (.so (.o (.i (.o (.o (.o (.i (.o (.i (.o (.o .h)))))))))) 0 14 14 3)
def ub5 : List (List V) := [[(.b false), (.s []), (.s [1]), (.b false), (.s []), (.s [1]), (.b false), (.s []), (.s [1]), (.b false), (.s []), (.s [1]), (.b false), (.s []), (.s [1]), (.b false), (.s []), (.s [1]), (.b false), (.s []), (.s [1]), (.b false), (.s []), (.s [1]), (.b false), (.s []), (.s [1]), (.b false), (.s [1]), (.s [1])], [(.b false), (.s [1]), (.s [1]), (.b true), (.s [2]), (.s [1]), (.b true), (.s [3]), (.s [1]), (.b false), (.s [1]), (.s [1]), (.b false), (.s [1]), (.s [1])]]
def ua5 : List V := [(.so .h 0 10 10 3), (.sl (.o .h) 0 5 5)]
theorem us5 : stat ub5 ua5 uv5 uo5 = true := by kernel_rfl
theorem ur5 : runOk (un 2 F20 ua5 (mkS ub5) fun v S => some (v, S)) uv5 uo5 = true := by kernel_rfl
theorem u5 : FOK Tryz.prog 20 (memoF ub5 ua5 uv5 uo5) := memo_ok K20 us5 ur5
def uo6 : List (Pos × List V) := [((.i (.o (.i (.o (.o (.o (.i (.o (.o (.o .h)))))))))), [(.b false), (.s []), (.s [1]), (.b false), (.s []), (.s [1]), (.b false), (.s []), (.s [1]), (.b false), (.s []), (.s [1]), (.b false), (.s []), (.s [1]), (.b false), (.s []), (.s [1]), (.b false), (.s []), (.s [1]), (.b false), (.s []), (.s [1]), (.b true), (.s [6, 246]), (.s [1]), (.b false), (.s [13, 236]), (.s [1]), (.b false), (.s [20, 226]), (.s [1]), (.b true), (.s [6, 246]), (.s [1]), (.b true), (.s [6, 246]), (.s [1])])]
def uv6 : V := (.so (.i (.o (.i (.o (.o (.o (.i (.o (.o (.o .h)))))))))) 0 13 13 3)
def ub6 : List (List V) := [[(.b false), (.s []), (.s [1]), (.b false), (.s []), (.s [1]), (.b false), (.s []), (.s [1]), (.b false), (.s []), (.s [1]), (.b false), (.s []), (.s [1]), (.b false), (.s []), (.s [1]), (.b false), (.s []), (.s [1]), (.b false), (.s []), (.s [1]), (.b true), (.s [6, 246]), (.s [1])], [(.b false), (.s [1]), (.s [1]), (.b true), (.s [2]), (.s [1]), (.b true), (.s [3]), (.s [1]), (.b false), (.s [1]), (.s [1]), (.b false), (.s [1]), (.s [1])]]
def ua6 : List V := [(.so .h 0 9 9 3), (.sl (.o .h) 0 5 5)]
theorem us6 : stat ub6 ua6 uv6 uo6 = true := by kernel_rfl
theorem ur6 : runOk (un 2 F20 ua6 (mkS ub6) fun v S => some (v, S)) uv6 uo6 = true := by kernel_rfl
theorem u6 : FOK Tryz.prog 20 (memoF ub6 ua6 uv6 uo6) := memo_ok K20 us6 ur6
def uo7 : List (Pos × List V) := [((.o (.i (.o (.o (.o (.o (.i (.i (.i .h))))))))), [(.b false), (.s []), (.s [1]), (.b false), (.s []), (.s [1]), (.b false), (.s []), (.s [1]), (.b false), (.s []), (.s [1]), (.b false), (.s []), (.s [1]), (.b false), (.s []), (.s [1]), (.b false), (.s []), (.s [1]), (.b true), (.s [9]), (.s [1]), (.b false), (.s [18]), (.s [1]), (.b false), (.s [27]), (.s [1]), (.b true), (.s [9]), (.s [1]), (.b true), (.s [9]), (.s [1])])]
def uv7 : V := (.so (.o (.i (.o (.o (.o (.o (.i (.i (.i .h))))))))) 0 12 12 3)
def ub7 : List (List V) := [[(.b false), (.s []), (.s [1]), (.b false), (.s []), (.s [1]), (.b false), (.s []), (.s [1]), (.b false), (.s []), (.s [1]), (.b false), (.s []), (.s [1]), (.b false), (.s []), (.s [1]), (.b false), (.s []), (.s [1]), (.b true), (.s [9]), (.s [1])], [(.b false), (.s [1]), (.s [1]), (.b true), (.s [2]), (.s [1]), (.b true), (.s [3]), (.s [1]), (.b false), (.s [1]), (.s [1]), (.b false), (.s [1]), (.s [1])]]
def ua7 : List V := [(.so .h 0 8 8 3), (.sl (.o .h) 0 5 5)]
theorem us7 : stat ub7 ua7 uv7 uo7 = true := by kernel_rfl
theorem ur7 : runOk (un 2 F20 ua7 (mkS ub7) fun v S => some (v, S)) uv7 uo7 = true := by kernel_rfl
theorem u7 : FOK Tryz.prog 20 (memoF ub7 ua7 uv7 uo7) := memo_ok K20 us7 ur7
def uo8 : List (Pos × List V) := [((.i (.o (.o (.i (.o (.i (.i (.o (.i .h))))))))), [(.b false), (.s []), (.s [1]), (.b false), (.s []), (.s [1]), (.b false), (.s []), (.s [1]), (.b false), (.s []), (.s [1]), (.b false), (.s []), (.s [1]), (.b false), (.s []), (.s [1]), (.b false), (.s [5, 106]), (.s [1]), (.b true), (.s [10, 212]), (.s [1]), (.b true), (.s [16, 62]), (.s [1]), (.b false), (.s [5, 106]), (.s [1]), (.b false), (.s [5, 106]), (.s [1])])]
def uv8 : V := (.so (.i (.o (.o (.i (.o (.i (.i (.o (.i .h))))))))) 0 11 11 3)
def ub8 : List (List V) := [[(.b false), (.s []), (.s [1]), (.b false), (.s []), (.s [1]), (.b false), (.s []), (.s [1]), (.b false), (.s []), (.s [1]), (.b false), (.s []), (.s [1]), (.b false), (.s []), (.s [1]), (.b false), (.s [5, 106]), (.s [1])], [(.b false), (.s [1]), (.s [1]), (.b true), (.s [2]), (.s [1]), (.b true), (.s [3]), (.s [1]), (.b false), (.s [1]), (.s [1]), (.b false), (.s [1]), (.s [1])]]
def ua8 : List V := [(.so .h 0 7 7 3), (.sl (.o .h) 0 5 5)]
theorem us8 : stat ub8 ua8 uv8 uo8 = true := by kernel_rfl
theorem ur8 : runOk (un 2 F20 ua8 (mkS ub8) fun v S => some (v, S)) uv8 uo8 = true := by kernel_rfl
theorem u8 : FOK Tryz.prog 20 (memoF ub8 ua8 uv8 uo8) := memo_ok K20 us8 ur8
def uo9 : List (Pos × List V) := [((.o (.i (.i (.o (.o (.i (.i (.i (.o .h))))))))), [(.b false), (.s []), (.s [1]), (.b false), (.s []), (.s [1]), (.b false), (.s []), (.s [1]), (.b false), (.s []), (.s [1]), (.b false), (.s []), (.s [1]), (.b false), (.s [27]), (.s [1]), (.b true), (.s [54]), (.s [1]), (.b true), (.s [81]), (.s [1]), (.b false), (.s [27]), (.s [1]), (.b false), (.s [27]), (.s [1])])]
def uv9 : V := (.so (.o (.i (.i (.o (.o (.i (.i (.i (.o .h))))))))) 0 10 10 3)
def ub9 : List (List V) := [[(.b false), (.s []), (.s [1]), (.b false), (.s []), (.s [1]), (.b false), (.s []), (.s [1]), (.b false), (.s []), (.s [1]), (.b false), (.s []), (.s [1]), (.b false), (.s [27]), (.s [1])], [(.b false), (.s [1]), (.s [1]), (.b true), (.s [2]), (.s [1]), (.b true), (.s [3]), (.s [1]), (.b false), (.s [1]), (.s [1]), (.b false), (.s [1]), (.s [1])]]
def ua9 : List V := [(.so .h 0 6 6 3), (.sl (.o .h) 0 5 5)]
theorem us9 : stat ub9 ua9 uv9 uo9 = true := by kernel_rfl
theorem ur9 : runOk (un 2 F20 ua9 (mkS ub9) fun v S => some (v, S)) uv9 uo9 = true := by kernel_rfl
theorem u9 : FOK Tryz.prog 20 (memoF ub9 ua9 uv9 uo9) := memo_ok K20 us9 ur9
def uo10 : List (Pos × List V) := [((.i (.o (.o (.i (.o (.o (.o (.i (.o .h))))))))), [(.b false), (.s []), (.s [1]), (.b false), (.s []), (.s [1]), (.b false), (.s []), (.s [1]), (.b false), (.s []), (.s [1]), (.b true), (.s [2, 28]), (.s [1]), (.b false), (.s [4, 56]), (.s [1]), (.b false), (.s [6, 84]), (.s [1]), (.b true), (.s [2, 28]), (.s [1]), (.b true), (.s [2, 28]), (.s [1])])]
def uv10 : V := (.so (.i (.o (.o (.i (.o (.o (.o (.i (.o .h))))))))) 0 9 9 3)
def ub10 : List (List V) := [[(.b false), (.s []), (.s [1]), (.b false), (.s []), (.s [1]), (.b false), (.s []), (.s [1]), (.b false), (.s []), (.s [1]), (.b true), (.s [2, 28]), (.s [1])], [(.b false), (.s [1]), (.s [1]), (.b true), (.s [2]), (.s [1]), (.b true), (.s [3]), (.s [1]), (.b false), (.s [1]), (.s [1]), (.b false), (.s [1]), (.s [1])]]
def ua10 : List V := [(.so .h 0 5 5 3), (.sl (.o .h) 0 5 5)]
theorem us10 : stat ub10 ua10 uv10 uo10 = true := by kernel_rfl
theorem ur10 : runOk (un 2 F20 ua10 (mkS ub10) fun v S => some (v, S)) uv10 uo10 = true := by kernel_rfl
theorem u10 : FOK Tryz.prog 20 (memoF ub10 ua10 uv10 uo10) := memo_ok K20 us10 ur10
def uo11 : List (Pos × List V) := [((.o (.i (.i (.o (.o (.o (.o (.o (.o .h))))))))), [(.b false), (.s []), (.s [1]), (.b false), (.s []), (.s [1]), (.b false), (.s []), (.s [1]), (.b true), (.s [30]), (.s [1]), (.b false), (.s [60]), (.s [1]), (.b false), (.s [90]), (.s [1]), (.b true), (.s [30]), (.s [1]), (.b true), (.s [30]), (.s [1])])]
def uv11 : V := (.so (.o (.i (.i (.o (.o (.o (.o (.o (.o .h))))))))) 0 8 8 3)
def ub11 : List (List V) := [[(.b false), (.s []), (.s [1]), (.b false), (.s []), (.s [1]), (.b false), (.s []), (.s [1]), (.b true), (.s [30]), (.s [1])], [(.b false), (.s [1]), (.s [1]), (.b true), (.s [2]), (.s [1]), (.b true), (.s [3]), (.s [1]), (.b false), (.s [1]), (.s [1]), (.b false), (.s [1]), (.s [1])]]
def ua11 : List V := [(.so .h 0 4 4 3), (.sl (.o .h) 0 5 5)]
theorem us11 : stat ub11 ua11 uv11 uo11 = true := by kernel_rfl
theorem ur11 : runOk (un 2 F20 ua11 (mkS ub11) fun v S => some (v, S)) uv11 uo11 = true := by kernel_rfl
theorem u11 : FOK Tryz.prog 20 (memoF ub11 ua11 uv11 uo11) := memo_ok K20 us11 ur11
def uo12 : List (Pos × List V) := [((.i (.o (.o (.i (.i (.o (.o (.i .h)))))))), [(.b false), (.s []), (.s [1]), (.b false), (.s []), (.s [1]), (.b false), (.s [81]), (.s [1]), (.b true), (.s [162]), (.s [1]), (.b true), (.s [243]), (.s [1]), (.b false), (.s [81]), (.s [1]), (.b false), (.s [81]), (.s [1])])]
def uv12 : V := (.so (.i (.o (.o (.i (.i (.o (.o (.i .h)))))))) 0 7 7 3)
def ub12 : List (List V) := [[(.b false), (.s []), (.s [1]), (.b false), (.s []), (.s [1]), (.b false), (.s [81]), (.s [1])], [(.b false), (.s [1]), (.s [1]), (.b true), (.s [2]), (.s [1]), (.b true), (.s [3]), (.s [1]), (.b false), (.s [1]), (.s [1]), (.b false), (.s [1]), (.s [1])]]
def ua12 : List V := [(.so .h 0 3 3 3), (.sl (.o .h) 0 5 5)]
theorem us12 : stat ub12 ua12 uv12 uo12 = true := by kernel_rfl
theorem ur12 : runOk (un 2 F20 ua12 (mkS ub12) fun v S => some (v, S)) uv12 uo12 = true := by kernel_rfl
theorem u12 : FOK Tryz.prog 20 (memoF ub12 ua12 uv12 uo12) := memo_ok K20 us12 ur12
def F20u : Gn 2 := cur 2 (orF (memoF ub0 ua0 uv0 uo0) (orF (memoF ub1 ua1 uv1 uo1) (orF (memoF ub2 ua2 uv2 uo2) (orF (memoF ub3 ua3 uv3 uo3) (orF (memoF ub4 ua4 uv4 uo4) (orF (memoF ub5 ua5 uv5 uo5) (orF (memoF ub6 ua6 uv6 uo6) (orF (memoF ub7 ua7 uv7 uo7) (orF (memoF ub8 ua8 uv8 uo8) (orF (memoF ub9 ua9 uv9 uo9) (orF (memoF ub10 ua10 uv10 uo10) (orF (memoF ub11 ua11 uv11 uo11) (orF (memoF ub12 ua12 uv12 uo12) (un 2 F20))))))))))))))
theorem K20u : FOK Tryz.prog 20 (un 2 F20u) := cur_ok 2 (orF_ok u0 (orF_ok u1 (orF_ok u2 (orF_ok u3 (orF_ok u4 (orF_ok u5 (orF_ok u6 (orF_ok u7 (orF_ok u8 (orF_ok u9 (orF_ok u10 (orF_ok u11 (orF_ok u12 K20)))))))))))))
def F48u : Gn 2 := G48 (C48 F20u F24 F39 F41 F42 F51 F80)
theorem K48u : FOK Tryz.prog 48 (un 2 F48u) := fokP (.cons K20u (.cons K24 (.cons K39 (.cons K41 (.cons K42 (.cons K51 (.cons K80 .nil))))))) .nil hm Tryz.func48 (by kernel_rfl) (D48 F20u F24 F39 F41 F42 F51 F80) (H48 _)
def F19u : Gn 2 := G19 (C19 F48u)
theorem K19u : FOK Tryz.prog 19 (un 2 F19u) := fokP (.cons K48u .nil) .nil hm Tryz.func19 (by kernel_rfl) (D19 F48u) (H19 _)
def F12m : Gn 1 := cur 1 (orF (memoF [] [(.i .i64 9)] mv9 mo9) (memoF [] [(.i .i64 45)] mv45 mo45))
theorem K12m : FOK Tryz.prog 12 (un 1 F12m) := cur_ok 1 (orF_ok m9 m45)
def F5m : Gn 2 := G5 (C5 sayT F12m F19u F24 F25)
theorem run4_2 : yesB (F5m (.i .u8 4) (.i .u8 2) S0 fun v S => some (v, S)) = true := by kernel_rfl
end
end Go.AM
