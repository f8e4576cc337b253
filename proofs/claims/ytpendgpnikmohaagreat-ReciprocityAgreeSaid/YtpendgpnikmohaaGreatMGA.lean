/- The half cyclotomic polynomials of the primes up to 31, by their runs. -/
import Derived.Test.YtpendgpnikmohaaGreatRGM
import Derived.Test.YtpendgpnikmohaaGreatXM
set_option maxRecDepth 1000000
set_option linter.unusedVariables false
namespace Go.AM
open Go.Proofs
noncomputable section
def Qp (l : List Nat) (r : List V) : List V := .b false :: .s l :: .s [1] :: r
def Qm (l : List Nat) (r : List V) : List V := .b true :: .s l :: .s [1] :: r
def Qz (r : List V) : List V := .b false :: .s [] :: .s [1] :: r
def Q1 (r : List V) : List V := .b false :: .s [1] :: .s [1] :: r
def gy0 : List V := (Qm [1] (Qm [2] (Q1 (Q1 []))))
def gy1 : List V := (Q1 (Q1 []))
def gy2 : List V := (Qm [1] (Q1 (Q1 [])))
def gy3 : List V := (Q1 (Qp [3] (Qm [3] (Qm [4] (Q1 (Q1 []))))))
def gy4 : List V := (Qm [1] (Qp [3] (Qp [6] (Qm [4] (Qm [5] (Q1 (Q1 [])))))))
def gy5 : List V := (Q1 (Qm [4] (Qm [10] (Qp [10] (Qp [15] (Qm [6] (Qm [7] (Q1 (Q1 [])))))))))
def gy6 : List V := (Q1 (Qp [5] (Qm [10] (Qm [20] (Qp [15] (Qp [21] (Qm [7] (Qm [8] (Q1 (Q1 []))))))))))
def gy7 : List V := (Qm [1] (Qm [6] (Qp [15] (Qp [35] (Qm [35] (Qm [56] (Qp [28] (Qp [36] (Qm [9] (Qm [10] (Q1 (Q1 []))))))))))))
def gy8 : List V := (Qm [1] (Qp [7] (Qp [28] (Qm [56] (Qm [126] (Qp [126] (Qp [210] (Qm [120] (Qm [165] (Qp [55] (Qp [66] (Qm [12] (Qm [13] (Q1 (Q1 [])))))))))))))))
def gy9 : List V := (Qm [1] (Qm [8] (Qp [28] (Qp [84] (Qm [126] (Qm [252] (Qp [210] (Qp [1,74] (Qm [165] (Qm [220] (Qp [66] (Qp [78] (Qm [13] (Qm [14] (Q1 (Q1 []))))))))))))))))
def ghb0 : List (List V) := []
def gha0 : List V := [(.i .i64 7)]
def ghv0 : V := (.sl (.i (.i (.i (.i (.i (.o (.i (.i .h)))))))) 0 4 4)
def gho0 : List (Pos × List V) := [((.i (.i (.i (.i (.i (.o (.i (.i .h)))))))), gy0)]
theorem ghs0 : stat ghb0 gha0 ghv0 gho0 = true := by kernel_rfl
theorem ghr0 : runOk (un 1 F38 gha0 (mkS ghb0) fun v S => some (v, S)) ghv0 gho0 = true := by kernel_rfl
theorem ghm0 : FOK Tryz.prog 38 (memoF ghb0 gha0 ghv0 gho0) := memo_ok K38 ghs0 ghr0
def ghb1 : List (List V) := []
def gha1 : List V := [(.i .i64 3)]
def ghv1 : V := (.sl (.i (.o (.o (.o (.o .h))))) 0 2 2)
def gho1 : List (Pos × List V) := [((.i (.o (.o (.o (.o .h))))), gy1)]
theorem ghs1 : stat ghb1 gha1 ghv1 gho1 = true := by kernel_rfl
theorem ghr1 : runOk (un 1 F38 gha1 (mkS ghb1) fun v S => some (v, S)) ghv1 gho1 = true := by kernel_rfl
theorem ghm1 : FOK Tryz.prog 38 (memoF ghb1 gha1 ghv1 gho1) := memo_ok K38 ghs1 ghr1
def ghb2 : List (List V) := []
def gha2 : List V := [(.i .i64 5)]
def ghv2 : V := (.sl (.o (.i (.i (.i (.i (.o (.i .h))))))) 0 3 3)
def gho2 : List (Pos × List V) := [((.o (.i (.i (.i (.i (.o (.i .h))))))), gy2)]
theorem ghs2 : stat ghb2 gha2 ghv2 gho2 = true := by kernel_rfl
theorem ghr2 : runOk (un 1 F38 gha2 (mkS ghb2) fun v S => some (v, S)) ghv2 gho2 = true := by kernel_rfl
theorem ghm2 : FOK Tryz.prog 38 (memoF ghb2 gha2 ghv2 gho2) := memo_ok K38 ghs2 ghr2
def ghb3 : List (List V) := []
def gha3 : List V := [(.i .i64 11)]
def ghv3 : V := (.sl (.i (.i (.o (.i (.o (.i (.o (.i (.o (.o .h)))))))))) 0 6 6)
def gho3 : List (Pos × List V) := [((.i (.i (.o (.i (.o (.i (.o (.i (.o (.o .h)))))))))), gy3)]
theorem ghs3 : stat ghb3 gha3 ghv3 gho3 = true := by kernel_rfl
theorem ghr3 : runOk (un 1 F38 gha3 (mkS ghb3) fun v S => some (v, S)) ghv3 gho3 = true := by kernel_rfl
theorem ghm3 : FOK Tryz.prog 38 (memoF ghb3 gha3 ghv3 gho3) := memo_ok K38 ghs3 ghr3
def ghb4 : List (List V) := []
def gha4 : List V := [(.i .i64 13)]
def ghv4 : V := (.sl (.o (.i (.i (.o (.i (.i (.i (.o (.o (.i .h)))))))))) 0 7 7)
def gho4 : List (Pos × List V) := [((.o (.i (.i (.o (.i (.i (.i (.o (.o (.i .h)))))))))), gy4)]
theorem ghs4 : stat ghb4 gha4 ghv4 gho4 = true := by kernel_rfl
theorem ghr4 : runOk (un 1 F38 gha4 (mkS ghb4) fun v S => some (v, S)) ghv4 gho4 = true := by kernel_rfl
theorem ghm4 : FOK Tryz.prog 38 (memoF ghb4 gha4 ghv4 gho4) := memo_ok K38 ghs4 ghr4
def ghb5 : List (List V) := []
def gha5 : List V := [(.i .i64 17)]
def ghv5 : V := (.sl (.i (.i (.i (.o (.i (.o (.i (.i (.o (.i (.o .h))))))))))) 0 9 9)
def gho5 : List (Pos × List V) := [((.i (.i (.i (.o (.i (.o (.i (.i (.o (.i (.o .h))))))))))), gy5)]
theorem ghs5 : stat ghb5 gha5 ghv5 gho5 = true := by kernel_rfl
theorem ghr5 : runOk (un 1 F38 gha5 (mkS ghb5) fun v S => some (v, S)) ghv5 gho5 = true := by kernel_rfl
theorem ghm5 : FOK Tryz.prog 38 (memoF ghb5 gha5 ghv5 gho5) := memo_ok K38 ghs5 ghr5
def ghb6 : List (List V) := []
def gha6 : List V := [(.i .i64 19)]
def ghv6 : V := (.sl (.i (.o (.i (.i (.o (.i (.i (.o (.i (.o (.i .h))))))))))) 0 10 10)
def gho6 : List (Pos × List V) := [((.i (.o (.i (.i (.o (.i (.i (.o (.i (.o (.i .h))))))))))), gy6)]
theorem ghs6 : stat ghb6 gha6 ghv6 gho6 = true := by kernel_rfl
theorem ghr6 : runOk (un 1 F38 gha6 (mkS ghb6) fun v S => some (v, S)) ghv6 gho6 = true := by kernel_rfl
theorem ghm6 : FOK Tryz.prog 38 (memoF ghb6 gha6 ghv6 gho6) := memo_ok K38 ghs6 ghr6
def ghb7 : List (List V) := []
def gha7 : List V := [(.i .i64 23)]
def ghv7 : V := (.sl (.i (.i (.o (.o (.o (.i (.i (.o (.i (.i (.o (.o .h)))))))))))) 0 12 12)
def gho7 : List (Pos × List V) := [((.i (.i (.o (.o (.o (.i (.i (.o (.i (.i (.o (.o .h)))))))))))), gy7)]
theorem ghs7 : stat ghb7 gha7 ghv7 gho7 = true := by kernel_rfl
theorem ghr7 : runOk (un 1 F38 gha7 (mkS ghb7) fun v S => some (v, S)) ghv7 gho7 = true := by kernel_rfl
theorem ghm7 : FOK Tryz.prog 38 (memoF ghb7 gha7 ghv7 gho7) := memo_ok K38 ghs7 ghr7
def ghb8 : List (List V) := []
def gha8 : List V := [(.i .i64 29)]
def ghv8 : V := (.sl (.o (.i (.i (.i (.o (.o (.i (.o (.o (.i (.i (.i .h)))))))))))) 0 15 15)
def gho8 : List (Pos × List V) := [((.o (.i (.i (.i (.o (.o (.i (.o (.o (.i (.i (.i .h)))))))))))), gy8)]
theorem ghs8 : stat ghb8 gha8 ghv8 gho8 = true := by kernel_rfl
theorem ghr8 : runOk (un 1 F38 gha8 (mkS ghb8) fun v S => some (v, S)) ghv8 gho8 = true := by kernel_rfl
theorem ghm8 : FOK Tryz.prog 38 (memoF ghb8 gha8 ghv8 gho8) := memo_ok K38 ghs8 ghr8
def ghb9 : List (List V) := []
def gha9 : List V := [(.i .i64 31)]
def ghv9 : V := (.sl (.i (.o (.o (.i (.i (.i (.i (.o (.o (.i (.o (.o (.o .h))))))))))))) 0 16 16)
def gho9 : List (Pos × List V) := [((.i (.o (.o (.i (.i (.i (.i (.o (.o (.i (.o (.o (.o .h))))))))))))), gy9)]
theorem ghs9 : stat ghb9 gha9 ghv9 gho9 = true := by kernel_rfl
theorem ghr9 : runOk (un 1 F38 gha9 (mkS ghb9) fun v S => some (v, S)) ghv9 gho9 = true := by kernel_rfl
theorem ghm9 : FOK Tryz.prog 38 (memoF ghb9 gha9 ghv9 gho9) := memo_ok K38 ghs9 ghr9
end
end Go.AM
