/- Cyclotomic polynomials, by their runs. -/
import Derived.Test.YtndgeimkifdifaaGreatR48
import Derived.Test.YtndgeimkifdifaaGreatXM
set_option maxRecDepth 1000000
set_option linter.unusedVariables false
namespace Go.AM
open Go.Proofs
noncomputable section
def Qp (l : List Nat) (r : List V) : List V := .b false :: .s l :: .s [1] :: r
def Qm (l : List Nat) (r : List V) : List V := .b true :: .s l :: .s [1] :: r
def Qz (r : List V) : List V := .b false :: .s [] :: .s [1] :: r
def Q1 (r : List V) : List V := .b false :: .s [1] :: .s [1] :: r
def qy0 : List V := (Qm [1] (Q1 []))
def qy1 : List V := (Q1 (Q1 []))
def qy2 : List V := (Q1 (Q1 (Q1 [])))
def qy3 : List V := (Q1 (Qz (Q1 [])))
def qy4 : List V := (Q1 (Q1 (Q1 (Q1 (Q1 [])))))
def qy5 : List V := (Q1 (Qm [1] (Q1 [])))
def qy6 : List V := (Q1 (Q1 (Q1 (Q1 (Q1 (Q1 (Q1 [])))))))
def qy7 : List V := (Q1 (Qz (Qz (Qz (Q1 [])))))
def qy8 : List V := (Q1 (Qz (Qz (Q1 (Qz (Qz (Q1 [])))))))
def qy9 : List V := (Q1 (Qm [1] (Q1 (Qm [1] (Q1 [])))))
def qy10 : List V := (Q1 (Q1 (Q1 (Q1 (Q1 (Q1 (Q1 (Q1 (Q1 (Q1 (Q1 [])))))))))))
def qy11 : List V := (Q1 (Qz (Qm [1] (Qz (Q1 [])))))
def qy12 : List V := (Q1 (Q1 (Q1 (Q1 (Q1 (Q1 (Q1 (Q1 (Q1 (Q1 (Q1 (Q1 (Q1 [])))))))))))))
def qy13 : List V := (Q1 (Qm [1] (Q1 (Qm [1] (Q1 (Qm [1] (Q1 [])))))))
def qy14 : List V := (Q1 (Qm [1] (Qz (Q1 (Qm [1] (Q1 (Qz (Qm [1] (Q1 [])))))))))
def qy15 : List V := (Q1 (Qz (Qz (Qz (Qz (Qz (Qz (Qz (Q1 [])))))))))
def qy16 : List V := (Q1 (Q1 (Q1 (Q1 (Q1 (Q1 (Q1 (Q1 (Q1 (Q1 (Q1 (Q1 (Q1 (Q1 (Q1 (Q1 (Q1 [])))))))))))))))))
def qy17 : List V := (Q1 (Qz (Qz (Qm [1] (Qz (Qz (Q1 [])))))))
def qy18 : List V := (Q1 (Q1 (Q1 (Q1 (Q1 (Q1 (Q1 (Q1 (Q1 (Q1 (Q1 (Q1 (Q1 (Q1 (Q1 (Q1 (Q1 (Q1 (Q1 [])))))))))))))))))))
def qy19 : List V := (Q1 (Qz (Qm [1] (Qz (Q1 (Qz (Qm [1] (Qz (Q1 [])))))))))
def qy20 : List V := (Q1 (Qm [1] (Qz (Q1 (Qm [1] (Qz (Q1 (Qz (Qm [1] (Q1 (Qz (Qm [1] (Q1 [])))))))))))))
def qy21 : List V := (Q1 (Qm [1] (Q1 (Qm [1] (Q1 (Qm [1] (Q1 (Qm [1] (Q1 (Qm [1] (Q1 [])))))))))))
def qy22 : List V := (Q1 (Q1 (Q1 (Q1 (Q1 (Q1 (Q1 (Q1 (Q1 (Q1 (Q1 (Q1 (Q1 (Q1 (Q1 (Q1 (Q1 (Q1 (Q1 (Q1 (Q1 (Q1 (Q1 [])))))))))))))))))))))))
def qy23 : List V := (Q1 (Qz (Qz (Qz (Qm [1] (Qz (Qz (Qz (Q1 [])))))))))
def qy24 : List V := (Q1 (Qz (Qz (Qz (Qz (Q1 (Qz (Qz (Qz (Qz (Q1 (Qz (Qz (Qz (Qz (Q1 (Qz (Qz (Qz (Qz (Q1 [])))))))))))))))))))))
def qy25 : List V := (Q1 (Qm [1] (Q1 (Qm [1] (Q1 (Qm [1] (Q1 (Qm [1] (Q1 (Qm [1] (Q1 (Qm [1] (Q1 [])))))))))))))
def qy26 : List V := (Q1 (Qz (Qz (Qz (Qz (Qz (Qz (Qz (Qz (Q1 (Qz (Qz (Qz (Qz (Qz (Qz (Qz (Qz (Q1 [])))))))))))))))))))
def qy27 : List V := (Q1 (Qz (Qm [1] (Qz (Q1 (Qz (Qm [1] (Qz (Q1 (Qz (Qm [1] (Qz (Q1 [])))))))))))))
def qy28 : List V := (Q1 (Q1 (Q1 (Q1 (Q1 (Q1 (Q1 (Q1 (Q1 (Q1 (Q1 (Q1 (Q1 (Q1 (Q1 (Q1 (Q1 (Q1 (Q1 (Q1 (Q1 (Q1 (Q1 (Q1 (Q1 (Q1 (Q1 (Q1 (Q1 [])))))))))))))))))))))))))))))
def qy29 : List V := (Q1 (Q1 (Qz (Qm [1] (Qm [1] (Qm [1] (Qz (Q1 (Q1 [])))))))))
def qhb3 : List (List V) := []
def qha3 : List V := [(.i .i64 4)]
def qhv3 : V := (.tu [(.sl (.i (.o (.o (.i .h)))) 0 3 3), (.i .i64 0)])
def qho3 : List (Pos × List V) := [((.i (.o (.o (.i .h)))), qy3)]
theorem qhs3 : stat qhb3 qha3 qhv3 qho3 = true := by kernel_rfl
theorem qhr3 : runOk (un 1 F12 qha3 (mkS qhb3) fun v S => some (v, S)) qhv3 qho3 = true := by kernel_rfl
theorem qhm3 : FOK Tryz.prog 12 (memoF qhb3 qha3 qhv3 qho3) := memo_ok K12 qhs3 qhr3
def qhb4 : List (List V) := []
def qha4 : List V := [(.i .i64 5)]
def qhv4 : V := (.tu [(.sl (.i (.o (.o (.o .h)))) 0 5 5), (.i .i64 0)])
def qho4 : List (Pos × List V) := [((.i (.o (.o (.o .h)))), qy4)]
theorem qhs4 : stat qhb4 qha4 qhv4 qho4 = true := by kernel_rfl
theorem qhr4 : runOk (un 1 F12 qha4 (mkS qhb4) fun v S => some (v, S)) qhv4 qho4 = true := by kernel_rfl
theorem qhm4 : FOK Tryz.prog 12 (memoF qhb4 qha4 qhv4 qho4) := memo_ok K12 qhs4 qhr4
def qhb5 : List (List V) := []
def qha5 : List V := [(.i .i64 6)]
def qhv5 : V := (.tu [(.sl (.i (.o (.i (.o (.o .h))))) 0 3 3), (.i .i64 0)])
def qho5 : List (Pos × List V) := [((.i (.o (.i (.o (.o .h))))), qy5)]
theorem qhs5 : stat qhb5 qha5 qhv5 qho5 = true := by kernel_rfl
theorem qhr5 : runOk (un 1 F12 qha5 (mkS qhb5) fun v S => some (v, S)) qhv5 qho5 = true := by kernel_rfl
theorem qhm5 : FOK Tryz.prog 12 (memoF qhb5 qha5 qhv5 qho5) := memo_ok K12 qhs5 qhr5
def qhb6 : List (List V) := []
def qha6 : List V := [(.i .i64 7)]
def qhv6 : V := (.tu [(.sl (.i (.o (.i (.o .h)))) 0 7 7), (.i .i64 0)])
def qho6 : List (Pos × List V) := [((.i (.o (.i (.o .h)))), qy6)]
theorem qhs6 : stat qhb6 qha6 qhv6 qho6 = true := by kernel_rfl
theorem qhr6 : runOk (un 1 F12 qha6 (mkS qhb6) fun v S => some (v, S)) qhv6 qho6 = true := by kernel_rfl
theorem qhm6 : FOK Tryz.prog 12 (memoF qhb6 qha6 qhv6 qho6) := memo_ok K12 qhs6 qhr6
def qhb7 : List (List V) := []
def qha7 : List V := [(.i .i64 8)]
def qhv7 : V := (.tu [(.sl (.i (.o (.i (.o (.i .h))))) 0 5 5), (.i .i64 0)])
def qho7 : List (Pos × List V) := [((.i (.o (.i (.o (.i .h))))), qy7)]
theorem qhs7 : stat qhb7 qha7 qhv7 qho7 = true := by kernel_rfl
theorem qhr7 : runOk (un 1 F12 qha7 (mkS qhb7) fun v S => some (v, S)) qhv7 qho7 = true := by kernel_rfl
theorem qhm7 : FOK Tryz.prog 12 (memoF qhb7 qha7 qhv7 qho7) := memo_ok K12 qhs7 qhr7
def qhb8 : List (List V) := []
def qha8 : List V := [(.i .i64 9)]
def qhv8 : V := (.tu [(.sl (.i (.o (.o (.o (.o .h))))) 0 7 7), (.i .i64 0)])
def qho8 : List (Pos × List V) := [((.i (.o (.o (.o (.o .h))))), qy8)]
theorem qhs8 : stat qhb8 qha8 qhv8 qho8 = true := by kernel_rfl
theorem qhr8 : runOk (un 1 F12 qha8 (mkS qhb8) fun v S => some (v, S)) qhv8 qho8 = true := by kernel_rfl
theorem qhm8 : FOK Tryz.prog 12 (memoF qhb8 qha8 qhv8 qho8) := memo_ok K12 qhs8 qhr8
def qhb9 : List (List V) := []
def qha9 : List V := [(.i .i64 10)]
def qhv9 : V := (.tu [(.sl (.i (.o (.o (.i (.o .h))))) 0 5 5), (.i .i64 0)])
def qho9 : List (Pos × List V) := [((.i (.o (.o (.i (.o .h))))), qy9)]
theorem qhs9 : stat qhb9 qha9 qhv9 qho9 = true := by kernel_rfl
theorem qhr9 : runOk (un 1 F12 qha9 (mkS qhb9) fun v S => some (v, S)) qhv9 qho9 = true := by kernel_rfl
theorem qhm9 : FOK Tryz.prog 12 (memoF qhb9 qha9 qhv9 qho9) := memo_ok K12 qhs9 qhr9
def qhb10 : List (List V) := []
def qha10 : List V := [(.i .i64 11)]
def qhv10 : V := (.tu [(.sl (.i (.o (.i (.i .h)))) 0 11 11), (.i .i64 0)])
def qho10 : List (Pos × List V) := [((.i (.o (.i (.i .h)))), qy10)]
theorem qhs10 : stat qhb10 qha10 qhv10 qho10 = true := by kernel_rfl
theorem qhr10 : runOk (un 1 F12 qha10 (mkS qhb10) fun v S => some (v, S)) qhv10 qho10 = true := by kernel_rfl
theorem qhm10 : FOK Tryz.prog 12 (memoF qhb10 qha10 qhv10 qho10) := memo_ok K12 qhs10 qhr10
def qhb11 : List (List V) := []
def qha11 : List V := [(.i .i64 12)]
def qhv11 : V := (.tu [(.sl (.i (.o (.i (.o (.o (.i .h)))))) 0 5 5), (.i .i64 0)])
def qho11 : List (Pos × List V) := [((.i (.o (.i (.o (.o (.i .h)))))), qy11)]
theorem qhs11 : stat qhb11 qha11 qhv11 qho11 = true := by kernel_rfl
theorem qhr11 : runOk (un 1 F12 qha11 (mkS qhb11) fun v S => some (v, S)) qhv11 qho11 = true := by kernel_rfl
theorem qhm11 : FOK Tryz.prog 12 (memoF qhb11 qha11 qhv11 qho11) := memo_ok K12 qhs11 qhr11
def qhb12 : List (List V) := []
def qha12 : List V := [(.i .i64 13)]
def qhv12 : V := (.tu [(.sl (.i (.o (.o (.o (.o .h))))) 0 13 13), (.i .i64 0)])
def qho12 : List (Pos × List V) := [((.i (.o (.o (.o (.o .h))))), qy12)]
theorem qhs12 : stat qhb12 qha12 qhv12 qho12 = true := by kernel_rfl
theorem qhr12 : runOk (un 1 F12 qha12 (mkS qhb12) fun v S => some (v, S)) qhv12 qho12 = true := by kernel_rfl
theorem qhm12 : FOK Tryz.prog 12 (memoF qhb12 qha12 qhv12 qho12) := memo_ok K12 qhs12 qhr12
def qhb13 : List (List V) := []
def qha13 : List V := [(.i .i64 14)]
def qhv13 : V := (.tu [(.sl (.i (.o (.i (.i (.o .h))))) 0 7 7), (.i .i64 0)])
def qho13 : List (Pos × List V) := [((.i (.o (.i (.i (.o .h))))), qy13)]
theorem qhs13 : stat qhb13 qha13 qhv13 qho13 = true := by kernel_rfl
theorem qhr13 : runOk (un 1 F12 qha13 (mkS qhb13) fun v S => some (v, S)) qhv13 qho13 = true := by kernel_rfl
theorem qhm13 : FOK Tryz.prog 12 (memoF qhb13 qha13 qhv13 qho13) := memo_ok K12 qhs13 qhr13
def qhb14 : List (List V) := []
def qha14 : List V := [(.i .i64 15)]
def qhv14 : V := (.tu [(.sl (.i (.o (.o (.o (.i .h))))) 0 9 9), (.i .i64 0)])
def qho14 : List (Pos × List V) := [((.i (.o (.o (.o (.i .h))))), qy14)]
theorem qhs14 : stat qhb14 qha14 qhv14 qho14 = true := by kernel_rfl
theorem qhr14 : runOk (un 1 F12 qha14 (mkS qhb14) fun v S => some (v, S)) qhv14 qho14 = true := by kernel_rfl
theorem qhm14 : FOK Tryz.prog 12 (memoF qhb14 qha14 qhv14 qho14) := memo_ok K12 qhs14 qhr14
def qhb15 : List (List V) := []
def qha15 : List V := [(.i .i64 16)]
def qhv15 : V := (.tu [(.sl (.i (.o (.i (.i (.o (.i .h)))))) 0 9 9), (.i .i64 0)])
def qho15 : List (Pos × List V) := [((.i (.o (.i (.i (.o (.i .h)))))), qy15)]
theorem qhs15 : stat qhb15 qha15 qhv15 qho15 = true := by kernel_rfl
theorem qhr15 : runOk (un 1 F12 qha15 (mkS qhb15) fun v S => some (v, S)) qhv15 qho15 = true := by kernel_rfl
theorem qhm15 : FOK Tryz.prog 12 (memoF qhb15 qha15 qhv15 qho15) := memo_ok K12 qhs15 qhr15
def qhb16 : List (List V) := []
def qha16 : List V := [(.i .i64 17)]
def qhv16 : V := (.tu [(.sl (.i (.o (.o (.i (.o .h))))) 0 17 17), (.i .i64 0)])
def qho16 : List (Pos × List V) := [((.i (.o (.o (.i (.o .h))))), qy16)]
theorem qhs16 : stat qhb16 qha16 qhv16 qho16 = true := by kernel_rfl
theorem qhr16 : runOk (un 1 F12 qha16 (mkS qhb16) fun v S => some (v, S)) qhv16 qho16 = true := by kernel_rfl
theorem qhm16 : FOK Tryz.prog 12 (memoF qhb16 qha16 qhv16 qho16) := memo_ok K12 qhs16 qhr16
def qhb17 : List (List V) := []
def qha17 : List V := [(.i .i64 18)]
def qhv17 : V := (.tu [(.sl (.i (.o (.o (.i (.o (.i .h)))))) 0 7 7), (.i .i64 0)])
def qho17 : List (Pos × List V) := [((.i (.o (.o (.i (.o (.i .h)))))), qy17)]
theorem qhs17 : stat qhb17 qha17 qhv17 qho17 = true := by kernel_rfl
theorem qhr17 : runOk (un 1 F12 qha17 (mkS qhb17) fun v S => some (v, S)) qhv17 qho17 = true := by kernel_rfl
theorem qhm17 : FOK Tryz.prog 12 (memoF qhb17 qha17 qhv17 qho17) := memo_ok K12 qhs17 qhr17
def qhb18 : List (List V) := []
def qha18 : List V := [(.i .i64 19)]
def qhv18 : V := (.tu [(.sl (.i (.o (.i (.i (.o .h))))) 0 19 19), (.i .i64 0)])
def qho18 : List (Pos × List V) := [((.i (.o (.i (.i (.o .h))))), qy18)]
theorem qhs18 : stat qhb18 qha18 qhv18 qho18 = true := by kernel_rfl
theorem qhr18 : runOk (un 1 F12 qha18 (mkS qhb18) fun v S => some (v, S)) qhv18 qho18 = true := by kernel_rfl
theorem qhm18 : FOK Tryz.prog 12 (memoF qhb18 qha18 qhv18 qho18) := memo_ok K12 qhs18 qhr18
def qhb19 : List (List V) := []
def qha19 : List V := [(.i .i64 20)]
def qhv19 : V := (.tu [(.sl (.i (.o (.i (.i (.o (.i .h)))))) 0 9 9), (.i .i64 0)])
def qho19 : List (Pos × List V) := [((.i (.o (.i (.i (.o (.i .h)))))), qy19)]
theorem qhs19 : stat qhb19 qha19 qhv19 qho19 = true := by kernel_rfl
theorem qhr19 : runOk (un 1 F12 qha19 (mkS qhb19) fun v S => some (v, S)) qhv19 qho19 = true := by kernel_rfl
theorem qhm19 : FOK Tryz.prog 12 (memoF qhb19 qha19 qhv19 qho19) := memo_ok K12 qhs19 qhr19
def qhb20 : List (List V) := []
def qha20 : List V := [(.i .i64 21)]
def qhv20 : V := (.tu [(.sl (.i (.o (.o (.i (.i .h))))) 0 13 13), (.i .i64 0)])
def qho20 : List (Pos × List V) := [((.i (.o (.o (.i (.i .h))))), qy20)]
theorem qhs20 : stat qhb20 qha20 qhv20 qho20 = true := by kernel_rfl
theorem qhr20 : runOk (un 1 F12 qha20 (mkS qhb20) fun v S => some (v, S)) qhv20 qho20 = true := by kernel_rfl
theorem qhm20 : FOK Tryz.prog 12 (memoF qhb20 qha20 qhv20 qho20) := memo_ok K12 qhs20 qhr20
def qhb21 : List (List V) := []
def qha21 : List V := [(.i .i64 22)]
def qhv21 : V := (.tu [(.sl (.i (.o (.i (.o (.i .h))))) 0 11 11), (.i .i64 0)])
def qho21 : List (Pos × List V) := [((.i (.o (.i (.o (.i .h))))), qy21)]
theorem qhs21 : stat qhb21 qha21 qhv21 qho21 = true := by kernel_rfl
theorem qhr21 : runOk (un 1 F12 qha21 (mkS qhb21) fun v S => some (v, S)) qhv21 qho21 = true := by kernel_rfl
theorem qhm21 : FOK Tryz.prog 12 (memoF qhb21 qha21 qhv21 qho21) := memo_ok K12 qhs21 qhr21
def qhb22 : List (List V) := []
def qha22 : List V := [(.i .i64 23)]
def qhv22 : V := (.tu [(.sl (.i (.o (.i (.o (.i .h))))) 0 23 23), (.i .i64 0)])
def qho22 : List (Pos × List V) := [((.i (.o (.i (.o (.i .h))))), qy22)]
theorem qhs22 : stat qhb22 qha22 qhv22 qho22 = true := by kernel_rfl
theorem qhr22 : runOk (un 1 F12 qha22 (mkS qhb22) fun v S => some (v, S)) qhv22 qho22 = true := by kernel_rfl
theorem qhm22 : FOK Tryz.prog 12 (memoF qhb22 qha22 qhv22 qho22) := memo_ok K12 qhs22 qhr22
end
end Go.AM
