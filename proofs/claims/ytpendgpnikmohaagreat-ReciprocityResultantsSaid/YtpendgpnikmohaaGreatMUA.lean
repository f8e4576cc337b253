/- The half cyclotomic polynomials of the primes up to 31, by their runs. -/
import Derived.Test.YtpendgpnikmohaaGreatRRM
import Derived.Test.YtpendgpnikmohaaGreatXM7
set_option maxRecDepth 1000000
set_option linter.unusedVariables false
namespace Go.AM
open Go.Proofs
noncomputable section
def Qp (l : List Nat) (r : List V) : List V := .b false :: .s l :: .s [1] :: r
def Qm (l : List Nat) (r : List V) : List V := .b true :: .s l :: .s [1] :: r
def Qz (r : List V) : List V := .b false :: .s [] :: .s [1] :: r
def Q1 (r : List V) : List V := .b false :: .s [1] :: .s [1] :: r
def uy0 : List V := (Qm [1] (Qm [2] (Q1 (Q1 []))))
def uy1 : List V := (Q1 (Q1 []))
def uy2 : List V := (Qm [1] (Q1 (Q1 [])))
def uy3 : List V := (Q1 (Qp [3] (Qm [3] (Qm [4] (Q1 (Q1 []))))))
def uy4 : List V := (Qm [1] (Qp [3] (Qp [6] (Qm [4] (Qm [5] (Q1 (Q1 [])))))))
def uy5 : List V := (Q1 (Qm [4] (Qm [10] (Qp [10] (Qp [15] (Qm [6] (Qm [7] (Q1 (Q1 [])))))))))
def uy6 : List V := (Q1 (Qp [5] (Qm [10] (Qm [20] (Qp [15] (Qp [21] (Qm [7] (Qm [8] (Q1 (Q1 []))))))))))
def uy7 : List V := (Qm [1] (Qm [6] (Qp [15] (Qp [35] (Qm [35] (Qm [56] (Qp [28] (Qp [36] (Qm [9] (Qm [10] (Q1 (Q1 []))))))))))))
def uy8 : List V := (Qm [1] (Qp [7] (Qp [28] (Qm [56] (Qm [126] (Qp [126] (Qp [210] (Qm [120] (Qm [165] (Qp [55] (Qp [66] (Qm [12] (Qm [13] (Q1 (Q1 [])))))))))))))))
def uy9 : List V := (Qm [1] (Qm [8] (Qp [28] (Qp [84] (Qm [126] (Qm [252] (Qp [210] (Qp [1,74] (Qm [165] (Qm [220] (Qp [66] (Qp [78] (Qm [13] (Qm [14] (Q1 (Q1 []))))))))))))))))
def uhb0 : List (List V) := []
def uha0 : List V := [(.i .i64 7)]
def uhv0 : V := (.sl (.i (.i (.i (.i (.i (.o (.i (.i .h)))))))) 0 4 4)
def uho0 : List (Pos × List V) := [((.i (.i (.i (.i (.i (.o (.i (.i .h)))))))), uy0)]
theorem uhs0 : stat uhb0 uha0 uhv0 uho0 = true := by kernel_rfl
theorem uhr0 : runOk (un 1 F38 uha0 (mkS uhb0) fun v S => some (v, S)) uhv0 uho0 = true := by kernel_rfl
theorem uhm0 : FOK Tryz.prog 38 (memoF uhb0 uha0 uhv0 uho0) := memo_ok K38 uhs0 uhr0
def uhb1 : List (List V) := []
def uha1 : List V := [(.i .i64 3)]
def uhv1 : V := (.sl (.i (.o (.o (.o (.o .h))))) 0 2 2)
def uho1 : List (Pos × List V) := [((.i (.o (.o (.o (.o .h))))), uy1)]
theorem uhs1 : stat uhb1 uha1 uhv1 uho1 = true := by kernel_rfl
theorem uhr1 : runOk (un 1 F38 uha1 (mkS uhb1) fun v S => some (v, S)) uhv1 uho1 = true := by kernel_rfl
theorem uhm1 : FOK Tryz.prog 38 (memoF uhb1 uha1 uhv1 uho1) := memo_ok K38 uhs1 uhr1
def uhb2 : List (List V) := []
def uha2 : List V := [(.i .i64 5)]
def uhv2 : V := (.sl (.o (.i (.i (.i (.i (.o (.i .h))))))) 0 3 3)
def uho2 : List (Pos × List V) := [((.o (.i (.i (.i (.i (.o (.i .h))))))), uy2)]
theorem uhs2 : stat uhb2 uha2 uhv2 uho2 = true := by kernel_rfl
theorem uhr2 : runOk (un 1 F38 uha2 (mkS uhb2) fun v S => some (v, S)) uhv2 uho2 = true := by kernel_rfl
theorem uhm2 : FOK Tryz.prog 38 (memoF uhb2 uha2 uhv2 uho2) := memo_ok K38 uhs2 uhr2
def uhb3 : List (List V) := []
def uha3 : List V := [(.i .i64 11)]
def uhv3 : V := (.sl (.i (.i (.o (.i (.o (.i (.o (.i (.o (.o .h)))))))))) 0 6 6)
def uho3 : List (Pos × List V) := [((.i (.i (.o (.i (.o (.i (.o (.i (.o (.o .h)))))))))), uy3)]
theorem uhs3 : stat uhb3 uha3 uhv3 uho3 = true := by kernel_rfl
theorem uhr3 : runOk (un 1 F38 uha3 (mkS uhb3) fun v S => some (v, S)) uhv3 uho3 = true := by kernel_rfl
theorem uhm3 : FOK Tryz.prog 38 (memoF uhb3 uha3 uhv3 uho3) := memo_ok K38 uhs3 uhr3
def uhb4 : List (List V) := []
def uha4 : List V := [(.i .i64 13)]
def uhv4 : V := (.sl (.o (.i (.i (.o (.i (.i (.i (.o (.o (.i .h)))))))))) 0 7 7)
def uho4 : List (Pos × List V) := [((.o (.i (.i (.o (.i (.i (.i (.o (.o (.i .h)))))))))), uy4)]
theorem uhs4 : stat uhb4 uha4 uhv4 uho4 = true := by kernel_rfl
theorem uhr4 : runOk (un 1 F38 uha4 (mkS uhb4) fun v S => some (v, S)) uhv4 uho4 = true := by kernel_rfl
theorem uhm4 : FOK Tryz.prog 38 (memoF uhb4 uha4 uhv4 uho4) := memo_ok K38 uhs4 uhr4
def uhb5 : List (List V) := []
def uha5 : List V := [(.i .i64 17)]
def uhv5 : V := (.sl (.i (.i (.i (.o (.i (.o (.i (.i (.o (.i (.o .h))))))))))) 0 9 9)
def uho5 : List (Pos × List V) := [((.i (.i (.i (.o (.i (.o (.i (.i (.o (.i (.o .h))))))))))), uy5)]
theorem uhs5 : stat uhb5 uha5 uhv5 uho5 = true := by kernel_rfl
theorem uhr5 : runOk (un 1 F38 uha5 (mkS uhb5) fun v S => some (v, S)) uhv5 uho5 = true := by kernel_rfl
theorem uhm5 : FOK Tryz.prog 38 (memoF uhb5 uha5 uhv5 uho5) := memo_ok K38 uhs5 uhr5
def uhb6 : List (List V) := []
def uha6 : List V := [(.i .i64 19)]
def uhv6 : V := (.sl (.i (.o (.i (.i (.o (.i (.i (.o (.i (.o (.i .h))))))))))) 0 10 10)
def uho6 : List (Pos × List V) := [((.i (.o (.i (.i (.o (.i (.i (.o (.i (.o (.i .h))))))))))), uy6)]
theorem uhs6 : stat uhb6 uha6 uhv6 uho6 = true := by kernel_rfl
theorem uhr6 : runOk (un 1 F38 uha6 (mkS uhb6) fun v S => some (v, S)) uhv6 uho6 = true := by kernel_rfl
theorem uhm6 : FOK Tryz.prog 38 (memoF uhb6 uha6 uhv6 uho6) := memo_ok K38 uhs6 uhr6
def uhb7 : List (List V) := []
def uha7 : List V := [(.i .i64 23)]
def uhv7 : V := (.sl (.i (.i (.o (.o (.o (.i (.i (.o (.i (.i (.o (.o .h)))))))))))) 0 12 12)
def uho7 : List (Pos × List V) := [((.i (.i (.o (.o (.o (.i (.i (.o (.i (.i (.o (.o .h)))))))))))), uy7)]
theorem uhs7 : stat uhb7 uha7 uhv7 uho7 = true := by kernel_rfl
theorem uhr7 : runOk (un 1 F38 uha7 (mkS uhb7) fun v S => some (v, S)) uhv7 uho7 = true := by kernel_rfl
theorem uhm7 : FOK Tryz.prog 38 (memoF uhb7 uha7 uhv7 uho7) := memo_ok K38 uhs7 uhr7
def uhb8 : List (List V) := []
def uha8 : List V := [(.i .i64 29)]
def uhv8 : V := (.sl (.o (.i (.i (.i (.o (.o (.i (.o (.o (.i (.i (.i .h)))))))))))) 0 15 15)
def uho8 : List (Pos × List V) := [((.o (.i (.i (.i (.o (.o (.i (.o (.o (.i (.i (.i .h)))))))))))), uy8)]
theorem uhs8 : stat uhb8 uha8 uhv8 uho8 = true := by kernel_rfl
theorem uhr8 : runOk (un 1 F38 uha8 (mkS uhb8) fun v S => some (v, S)) uhv8 uho8 = true := by kernel_rfl
theorem uhm8 : FOK Tryz.prog 38 (memoF uhb8 uha8 uhv8 uho8) := memo_ok K38 uhs8 uhr8
def uhb9 : List (List V) := []
def uha9 : List V := [(.i .i64 31)]
def uhv9 : V := (.sl (.i (.o (.o (.i (.i (.i (.i (.o (.o (.i (.o (.o (.o .h))))))))))))) 0 16 16)
def uho9 : List (Pos × List V) := [((.i (.o (.o (.i (.i (.i (.i (.o (.o (.i (.o (.o (.o .h))))))))))))), uy9)]
theorem uhs9 : stat uhb9 uha9 uhv9 uho9 = true := by kernel_rfl
theorem uhr9 : runOk (un 1 F38 uha9 (mkS uhb9) fun v S => some (v, S)) uhv9 uho9 = true := by kernel_rfl
theorem uhm9 : FOK Tryz.prog 38 (memoF uhb9 uha9 uhv9 uho9) := memo_ok K38 uhs9 uhr9
end
end Go.AM
