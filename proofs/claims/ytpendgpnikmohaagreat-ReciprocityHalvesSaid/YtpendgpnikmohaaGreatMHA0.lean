/- Sums, differences and products of these polynomials, by their runs. -/
import Derived.Test.YtpendgpnikmohaaGreatRH
import Derived.Test.YtpendgpnikmohaaGreatXM6
import Derived.Test.YtpendgpnikmohaaGreatMHD
set_option maxRecDepth 1000000
set_option linter.unusedVariables false
namespace Go.AM
open Go.Proofs
noncomputable section
def hb0 : List (List V) := [[(.b false), (.s [1]), (.s [1])], y0]
def ha0 : List V := [(.sl .h 0 1 1), (.sl (.o .h) 0 2 2)]
def hv0 : V := (.sl (.i .h) 0 2 2)
def ho0 : List (Pos × List V) := [((.i .h), y1)]
theorem hs0 : stat hb0 ha0 hv0 ho0 = true := by kernel_rfl
theorem hr0 : runOk (un 2 F71 ha0 (mkS hb0) fun v S => some (v, S)) hv0 ho0 = true := by kernel_rfl
theorem hm0 : FOK Tryz.prog 71 (memoF hb0 ha0 hv0 ho0) := memo_ok K71 hs0 hr0
def hb1 : List (List V) := [y0]
def ha1 : List V := [(.sl .h 0 2 2), (.sl .h 0 2 2)]
def hv1 : V := (.sl (.o .h) 0 3 3)
def ho1 : List (Pos × List V) := [((.o .h), y2)]
theorem hs1 : stat hb1 ha1 hv1 ho1 = true := by kernel_rfl
theorem hr1 : runOk (un 2 F73 ha1 (mkS hb1) fun v S => some (v, S)) hv1 ho1 = true := by kernel_rfl
theorem hm1 : FOK Tryz.prog 73 (memoF hb1 ha1 hv1 ho1) := memo_ok K73 hs1 hr1
def hb2 : List (List V) := [y2, [(.b false), (.s [2]), (.s [1])]]
def ha2 : List V := [(.sl .h 0 3 3), (.sl (.o .h) 0 1 1)]
def hv2 : V := (.sl (.i .h) 0 3 3)
def ho2 : List (Pos × List V) := [((.i .h), y3)]
theorem hs2 : stat hb2 ha2 hv2 ho2 = true := by kernel_rfl
theorem hr2 : runOk (un 2 F72 ha2 (mkS hb2) fun v S => some (v, S)) hv2 ho2 = true := by kernel_rfl
theorem hm2 : FOK Tryz.prog 72 (memoF hb2 ha2 hv2 ho2) := memo_ok K72 hs2 hr2
def hb3 : List (List V) := [y1, y3]
def ha3 : List V := [(.sl .h 0 2 2), (.sl (.o .h) 0 3 3)]
def hv3 : V := (.sl (.i .h) 0 3 3)
def ho3 : List (Pos × List V) := [((.i .h), y4)]
theorem hs3 : stat hb3 ha3 hv3 ho3 = true := by kernel_rfl
theorem hr3 : runOk (un 2 F71 ha3 (mkS hb3) fun v S => some (v, S)) hv3 ho3 = true := by kernel_rfl
theorem hm3 : FOK Tryz.prog 71 (memoF hb3 ha3 hv3 ho3) := memo_ok K71 hs3 hr3
def hb4 : List (List V) := [y0, y3]
def ha4 : List V := [(.sl .h 0 2 2), (.sl (.o .h) 0 3 3)]
def hv4 : V := (.sl (.i .h) 0 4 4)
def ho4 : List (Pos × List V) := [((.i .h), y5)]
theorem hs4 : stat hb4 ha4 hv4 ho4 = true := by kernel_rfl
theorem hr4 : runOk (un 2 F73 ha4 (mkS hb4) fun v S => some (v, S)) hv4 ho4 = true := by kernel_rfl
theorem hm4 : FOK Tryz.prog 73 (memoF hb4 ha4 hv4 ho4) := memo_ok K73 hs4 hr4
def hb5 : List (List V) := [y5, y0]
def ha5 : List V := [(.sl .h 0 4 4), (.sl (.o .h) 0 2 2)]
def hv5 : V := (.sl (.i .h) 0 4 4)
def ho5 : List (Pos × List V) := [((.i .h), y6)]
theorem hs5 : stat hb5 ha5 hv5 ho5 = true := by kernel_rfl
theorem hr5 : runOk (un 2 F72 ha5 (mkS hb5) fun v S => some (v, S)) hv5 ho5 = true := by kernel_rfl
theorem hm5 : FOK Tryz.prog 72 (memoF hb5 ha5 hv5 ho5) := memo_ok K72 hs5 hr5
def hb6 : List (List V) := [y4, y6]
def ha6 : List V := [(.sl .h 0 3 3), (.sl (.o .h) 0 4 4)]
def hv6 : V := (.sl (.i .h) 0 4 4)
def ho6 : List (Pos × List V) := [((.i .h), y7)]
theorem hs6 : stat hb6 ha6 hv6 ho6 = true := by kernel_rfl
theorem hr6 : runOk (un 2 F71 ha6 (mkS hb6) fun v S => some (v, S)) hv6 ho6 = true := by kernel_rfl
theorem hm6 : FOK Tryz.prog 71 (memoF hb6 ha6 hv6 ho6) := memo_ok K71 hs6 hr6
def hb7 : List (List V) := [y0, y6]
def ha7 : List V := [(.sl .h 0 2 2), (.sl (.o .h) 0 4 4)]
def hv7 : V := (.sl (.i .h) 0 5 5)
def ho7 : List (Pos × List V) := [((.i .h), y8)]
theorem hs7 : stat hb7 ha7 hv7 ho7 = true := by kernel_rfl
theorem hr7 : runOk (un 2 F73 ha7 (mkS hb7) fun v S => some (v, S)) hv7 ho7 = true := by kernel_rfl
theorem hm7 : FOK Tryz.prog 73 (memoF hb7 ha7 hv7 ho7) := memo_ok K73 hs7 hr7
def hb8 : List (List V) := [y8, y3]
def ha8 : List V := [(.sl .h 0 5 5), (.sl (.o .h) 0 3 3)]
def hv8 : V := (.sl (.i .h) 0 5 5)
def ho8 : List (Pos × List V) := [((.i .h), y9)]
theorem hs8 : stat hb8 ha8 hv8 ho8 = true := by kernel_rfl
theorem hr8 : runOk (un 2 F72 ha8 (mkS hb8) fun v S => some (v, S)) hv8 ho8 = true := by kernel_rfl
theorem hm8 : FOK Tryz.prog 72 (memoF hb8 ha8 hv8 ho8) := memo_ok K72 hs8 hr8
def hb9 : List (List V) := [y7, y9]
def ha9 : List V := [(.sl .h 0 4 4), (.sl (.o .h) 0 5 5)]
def hv9 : V := (.sl (.i .h) 0 5 5)
def ho9 : List (Pos × List V) := [((.i .h), y10)]
theorem hs9 : stat hb9 ha9 hv9 ho9 = true := by kernel_rfl
theorem hr9 : runOk (un 2 F71 ha9 (mkS hb9) fun v S => some (v, S)) hv9 ho9 = true := by kernel_rfl
theorem hm9 : FOK Tryz.prog 71 (memoF hb9 ha9 hv9 ho9) := memo_ok K71 hs9 hr9
def hb10 : List (List V) := [y0, y9]
def ha10 : List V := [(.sl .h 0 2 2), (.sl (.o .h) 0 5 5)]
def hv10 : V := (.sl (.i .h) 0 6 6)
def ho10 : List (Pos × List V) := [((.i .h), y11)]
theorem hs10 : stat hb10 ha10 hv10 ho10 = true := by kernel_rfl
theorem hr10 : runOk (un 2 F73 ha10 (mkS hb10) fun v S => some (v, S)) hv10 ho10 = true := by kernel_rfl
theorem hm10 : FOK Tryz.prog 73 (memoF hb10 ha10 hv10 ho10) := memo_ok K73 hs10 hr10
def hb11 : List (List V) := [y11, y6]
def ha11 : List V := [(.sl .h 0 6 6), (.sl (.o .h) 0 4 4)]
def hv11 : V := (.sl (.i .h) 0 6 6)
def ho11 : List (Pos × List V) := [((.i .h), y12)]
theorem hs11 : stat hb11 ha11 hv11 ho11 = true := by kernel_rfl
theorem hr11 : runOk (un 2 F72 ha11 (mkS hb11) fun v S => some (v, S)) hv11 ho11 = true := by kernel_rfl
theorem hm11 : FOK Tryz.prog 72 (memoF hb11 ha11 hv11 ho11) := memo_ok K72 hs11 hr11
def hb12 : List (List V) := [y10, y12]
def ha12 : List V := [(.sl .h 0 5 5), (.sl (.o .h) 0 6 6)]
def hv12 : V := (.sl (.i .h) 0 6 6)
def ho12 : List (Pos × List V) := [((.i .h), y13)]
theorem hs12 : stat hb12 ha12 hv12 ho12 = true := by kernel_rfl
theorem hr12 : runOk (un 2 F71 ha12 (mkS hb12) fun v S => some (v, S)) hv12 ho12 = true := by kernel_rfl
theorem hm12 : FOK Tryz.prog 71 (memoF hb12 ha12 hv12 ho12) := memo_ok K71 hs12 hr12
def hb13 : List (List V) := [y0, y12]
def ha13 : List V := [(.sl .h 0 2 2), (.sl (.o .h) 0 6 6)]
def hv13 : V := (.sl (.i .h) 0 7 7)
def ho13 : List (Pos × List V) := [((.i .h), y14)]
theorem hs13 : stat hb13 ha13 hv13 ho13 = true := by kernel_rfl
theorem hr13 : runOk (un 2 F73 ha13 (mkS hb13) fun v S => some (v, S)) hv13 ho13 = true := by kernel_rfl
theorem hm13 : FOK Tryz.prog 73 (memoF hb13 ha13 hv13 ho13) := memo_ok K73 hs13 hr13
def hb14 : List (List V) := [y14, y9]
def ha14 : List V := [(.sl .h 0 7 7), (.sl (.o .h) 0 5 5)]
def hv14 : V := (.sl (.i .h) 0 7 7)
def ho14 : List (Pos × List V) := [((.i .h), y15)]
theorem hs14 : stat hb14 ha14 hv14 ho14 = true := by kernel_rfl
theorem hr14 : runOk (un 2 F72 ha14 (mkS hb14) fun v S => some (v, S)) hv14 ho14 = true := by kernel_rfl
theorem hm14 : FOK Tryz.prog 72 (memoF hb14 ha14 hv14 ho14) := memo_ok K72 hs14 hr14
def hb15 : List (List V) := [y13, y15]
def ha15 : List V := [(.sl .h 0 6 6), (.sl (.o .h) 0 7 7)]
def hv15 : V := (.sl (.i .h) 0 7 7)
def ho15 : List (Pos × List V) := [((.i .h), y16)]
theorem hs15 : stat hb15 ha15 hv15 ho15 = true := by kernel_rfl
theorem hr15 : runOk (un 2 F71 ha15 (mkS hb15) fun v S => some (v, S)) hv15 ho15 = true := by kernel_rfl
theorem hm15 : FOK Tryz.prog 71 (memoF hb15 ha15 hv15 ho15) := memo_ok K71 hs15 hr15
def hb16 : List (List V) := [y0, y15]
def ha16 : List V := [(.sl .h 0 2 2), (.sl (.o .h) 0 7 7)]
def hv16 : V := (.sl (.i .h) 0 8 8)
def ho16 : List (Pos × List V) := [((.i .h), y17)]
theorem hs16 : stat hb16 ha16 hv16 ho16 = true := by kernel_rfl
theorem hr16 : runOk (un 2 F73 ha16 (mkS hb16) fun v S => some (v, S)) hv16 ho16 = true := by kernel_rfl
theorem hm16 : FOK Tryz.prog 73 (memoF hb16 ha16 hv16 ho16) := memo_ok K73 hs16 hr16
def hb17 : List (List V) := [y17, y12]
def ha17 : List V := [(.sl .h 0 8 8), (.sl (.o .h) 0 6 6)]
def hv17 : V := (.sl (.i .h) 0 8 8)
def ho17 : List (Pos × List V) := [((.i .h), y18)]
theorem hs17 : stat hb17 ha17 hv17 ho17 = true := by kernel_rfl
theorem hr17 : runOk (un 2 F72 ha17 (mkS hb17) fun v S => some (v, S)) hv17 ho17 = true := by kernel_rfl
theorem hm17 : FOK Tryz.prog 72 (memoF hb17 ha17 hv17 ho17) := memo_ok K72 hs17 hr17
def hb18 : List (List V) := [y16, y18]
def ha18 : List V := [(.sl .h 0 7 7), (.sl (.o .h) 0 8 8)]
def hv18 : V := (.sl (.i .h) 0 8 8)
def ho18 : List (Pos × List V) := [((.i .h), y19)]
theorem hs18 : stat hb18 ha18 hv18 ho18 = true := by kernel_rfl
theorem hr18 : runOk (un 2 F71 ha18 (mkS hb18) fun v S => some (v, S)) hv18 ho18 = true := by kernel_rfl
theorem hm18 : FOK Tryz.prog 71 (memoF hb18 ha18 hv18 ho18) := memo_ok K71 hs18 hr18
def hb19 : List (List V) := [y0, y18]
def ha19 : List V := [(.sl .h 0 2 2), (.sl (.o .h) 0 8 8)]
def hv19 : V := (.sl (.i .h) 0 9 9)
def ho19 : List (Pos × List V) := [((.i .h), y20)]
theorem hs19 : stat hb19 ha19 hv19 ho19 = true := by kernel_rfl
theorem hr19 : runOk (un 2 F73 ha19 (mkS hb19) fun v S => some (v, S)) hv19 ho19 = true := by kernel_rfl
theorem hm19 : FOK Tryz.prog 73 (memoF hb19 ha19 hv19 ho19) := memo_ok K73 hs19 hr19
def hb20 : List (List V) := [y20, y15]
def ha20 : List V := [(.sl .h 0 9 9), (.sl (.o .h) 0 7 7)]
def hv20 : V := (.sl (.i .h) 0 9 9)
def ho20 : List (Pos × List V) := [((.i .h), y21)]
theorem hs20 : stat hb20 ha20 hv20 ho20 = true := by kernel_rfl
theorem hr20 : runOk (un 2 F72 ha20 (mkS hb20) fun v S => some (v, S)) hv20 ho20 = true := by kernel_rfl
theorem hm20 : FOK Tryz.prog 72 (memoF hb20 ha20 hv20 ho20) := memo_ok K72 hs20 hr20
def hb21 : List (List V) := [y19, y21]
def ha21 : List V := [(.sl .h 0 8 8), (.sl (.o .h) 0 9 9)]
def hv21 : V := (.sl (.i .h) 0 9 9)
def ho21 : List (Pos × List V) := [((.i .h), y22)]
theorem hs21 : stat hb21 ha21 hv21 ho21 = true := by kernel_rfl
theorem hr21 : runOk (un 2 F71 ha21 (mkS hb21) fun v S => some (v, S)) hv21 ho21 = true := by kernel_rfl
theorem hm21 : FOK Tryz.prog 71 (memoF hb21 ha21 hv21 ho21) := memo_ok K71 hs21 hr21
def hb22 : List (List V) := [y0, y21]
def ha22 : List V := [(.sl .h 0 2 2), (.sl (.o .h) 0 9 9)]
def hv22 : V := (.sl (.i .h) 0 10 10)
def ho22 : List (Pos × List V) := [((.i .h), y23)]
theorem hs22 : stat hb22 ha22 hv22 ho22 = true := by kernel_rfl
theorem hr22 : runOk (un 2 F73 ha22 (mkS hb22) fun v S => some (v, S)) hv22 ho22 = true := by kernel_rfl
theorem hm22 : FOK Tryz.prog 73 (memoF hb22 ha22 hv22 ho22) := memo_ok K73 hs22 hr22
def hb23 : List (List V) := [y23, y18]
def ha23 : List V := [(.sl .h 0 10 10), (.sl (.o .h) 0 8 8)]
def hv23 : V := (.sl (.i .h) 0 10 10)
def ho23 : List (Pos × List V) := [((.i .h), y24)]
theorem hs23 : stat hb23 ha23 hv23 ho23 = true := by kernel_rfl
theorem hr23 : runOk (un 2 F72 ha23 (mkS hb23) fun v S => some (v, S)) hv23 ho23 = true := by kernel_rfl
theorem hm23 : FOK Tryz.prog 72 (memoF hb23 ha23 hv23 ho23) := memo_ok K72 hs23 hr23
def hb24 : List (List V) := [y22, y24]
def ha24 : List V := [(.sl .h 0 9 9), (.sl (.o .h) 0 10 10)]
def hv24 : V := (.sl (.i .h) 0 10 10)
def ho24 : List (Pos × List V) := [((.i .h), y25)]
theorem hs24 : stat hb24 ha24 hv24 ho24 = true := by kernel_rfl
theorem hr24 : runOk (un 2 F71 ha24 (mkS hb24) fun v S => some (v, S)) hv24 ho24 = true := by kernel_rfl
theorem hm24 : FOK Tryz.prog 71 (memoF hb24 ha24 hv24 ho24) := memo_ok K71 hs24 hr24
def hb25 : List (List V) := [y0, y24]
def ha25 : List V := [(.sl .h 0 2 2), (.sl (.o .h) 0 10 10)]
def hv25 : V := (.sl (.i .h) 0 11 11)
def ho25 : List (Pos × List V) := [((.i .h), y26)]
theorem hs25 : stat hb25 ha25 hv25 ho25 = true := by kernel_rfl
theorem hr25 : runOk (un 2 F73 ha25 (mkS hb25) fun v S => some (v, S)) hv25 ho25 = true := by kernel_rfl
theorem hm25 : FOK Tryz.prog 73 (memoF hb25 ha25 hv25 ho25) := memo_ok K73 hs25 hr25
def hb26 : List (List V) := [y26, y21]
def ha26 : List V := [(.sl .h 0 11 11), (.sl (.o .h) 0 9 9)]
def hv26 : V := (.sl (.i .h) 0 11 11)
def ho26 : List (Pos × List V) := [((.i .h), y27)]
theorem hs26 : stat hb26 ha26 hv26 ho26 = true := by kernel_rfl
theorem hr26 : runOk (un 2 F72 ha26 (mkS hb26) fun v S => some (v, S)) hv26 ho26 = true := by kernel_rfl
theorem hm26 : FOK Tryz.prog 72 (memoF hb26 ha26 hv26 ho26) := memo_ok K72 hs26 hr26
def hb27 : List (List V) := [y25, y27]
def ha27 : List V := [(.sl .h 0 10 10), (.sl (.o .h) 0 11 11)]
def hv27 : V := (.sl (.i .h) 0 11 11)
def ho27 : List (Pos × List V) := [((.i .h), y28)]
theorem hs27 : stat hb27 ha27 hv27 ho27 = true := by kernel_rfl
theorem hr27 : runOk (un 2 F71 ha27 (mkS hb27) fun v S => some (v, S)) hv27 ho27 = true := by kernel_rfl
theorem hm27 : FOK Tryz.prog 71 (memoF hb27 ha27 hv27 ho27) := memo_ok K71 hs27 hr27
def hb28 : List (List V) := [y0, y27]
def ha28 : List V := [(.sl .h 0 2 2), (.sl (.o .h) 0 11 11)]
def hv28 : V := (.sl (.i .h) 0 12 12)
def ho28 : List (Pos × List V) := [((.i .h), y29)]
theorem hs28 : stat hb28 ha28 hv28 ho28 = true := by kernel_rfl
theorem hr28 : runOk (un 2 F73 ha28 (mkS hb28) fun v S => some (v, S)) hv28 ho28 = true := by kernel_rfl
theorem hm28 : FOK Tryz.prog 73 (memoF hb28 ha28 hv28 ho28) := memo_ok K73 hs28 hr28
def hb29 : List (List V) := [y29, y24]
def ha29 : List V := [(.sl .h 0 12 12), (.sl (.o .h) 0 10 10)]
def hv29 : V := (.sl (.i .h) 0 12 12)
def ho29 : List (Pos × List V) := [((.i .h), y30)]
theorem hs29 : stat hb29 ha29 hv29 ho29 = true := by kernel_rfl
theorem hr29 : runOk (un 2 F72 ha29 (mkS hb29) fun v S => some (v, S)) hv29 ho29 = true := by kernel_rfl
theorem hm29 : FOK Tryz.prog 72 (memoF hb29 ha29 hv29 ho29) := memo_ok K72 hs29 hr29
def hb30 : List (List V) := [y28, y30]
def ha30 : List V := [(.sl .h 0 11 11), (.sl (.o .h) 0 12 12)]
def hv30 : V := (.sl (.i .h) 0 12 12)
def ho30 : List (Pos × List V) := [((.i .h), y31)]
theorem hs30 : stat hb30 ha30 hv30 ho30 = true := by kernel_rfl
theorem hr30 : runOk (un 2 F71 ha30 (mkS hb30) fun v S => some (v, S)) hv30 ho30 = true := by kernel_rfl
theorem hm30 : FOK Tryz.prog 71 (memoF hb30 ha30 hv30 ho30) := memo_ok K71 hs30 hr30
def hb31 : List (List V) := [y0, y30]
def ha31 : List V := [(.sl .h 0 2 2), (.sl (.o .h) 0 12 12)]
def hv31 : V := (.sl (.i .h) 0 13 13)
def ho31 : List (Pos × List V) := [((.i .h), y32)]
theorem hs31 : stat hb31 ha31 hv31 ho31 = true := by kernel_rfl
theorem hr31 : runOk (un 2 F73 ha31 (mkS hb31) fun v S => some (v, S)) hv31 ho31 = true := by kernel_rfl
theorem hm31 : FOK Tryz.prog 73 (memoF hb31 ha31 hv31 ho31) := memo_ok K73 hs31 hr31
def hb32 : List (List V) := [y32, y27]
def ha32 : List V := [(.sl .h 0 13 13), (.sl (.o .h) 0 11 11)]
def hv32 : V := (.sl (.i .h) 0 13 13)
def ho32 : List (Pos × List V) := [((.i .h), y33)]
theorem hs32 : stat hb32 ha32 hv32 ho32 = true := by kernel_rfl
theorem hr32 : runOk (un 2 F72 ha32 (mkS hb32) fun v S => some (v, S)) hv32 ho32 = true := by kernel_rfl
theorem hm32 : FOK Tryz.prog 72 (memoF hb32 ha32 hv32 ho32) := memo_ok K72 hs32 hr32
def hb33 : List (List V) := [y31, y33]
def ha33 : List V := [(.sl .h 0 12 12), (.sl (.o .h) 0 13 13)]
def hv33 : V := (.sl (.i .h) 0 13 13)
def ho33 : List (Pos × List V) := [((.i .h), y34)]
theorem hs33 : stat hb33 ha33 hv33 ho33 = true := by kernel_rfl
theorem hr33 : runOk (un 2 F71 ha33 (mkS hb33) fun v S => some (v, S)) hv33 ho33 = true := by kernel_rfl
theorem hm33 : FOK Tryz.prog 71 (memoF hb33 ha33 hv33 ho33) := memo_ok K71 hs33 hr33
def hb34 : List (List V) := [y0, y33]
def ha34 : List V := [(.sl .h 0 2 2), (.sl (.o .h) 0 13 13)]
def hv34 : V := (.sl (.i .h) 0 14 14)
def ho34 : List (Pos × List V) := [((.i .h), y35)]
theorem hs34 : stat hb34 ha34 hv34 ho34 = true := by kernel_rfl
theorem hr34 : runOk (un 2 F73 ha34 (mkS hb34) fun v S => some (v, S)) hv34 ho34 = true := by kernel_rfl
theorem hm34 : FOK Tryz.prog 73 (memoF hb34 ha34 hv34 ho34) := memo_ok K73 hs34 hr34
def hb35 : List (List V) := [y35, y30]
def ha35 : List V := [(.sl .h 0 14 14), (.sl (.o .h) 0 12 12)]
def hv35 : V := (.sl (.i .h) 0 14 14)
def ho35 : List (Pos × List V) := [((.i .h), y36)]
theorem hs35 : stat hb35 ha35 hv35 ho35 = true := by kernel_rfl
theorem hr35 : runOk (un 2 F72 ha35 (mkS hb35) fun v S => some (v, S)) hv35 ho35 = true := by kernel_rfl
theorem hm35 : FOK Tryz.prog 72 (memoF hb35 ha35 hv35 ho35) := memo_ok K72 hs35 hr35
def hb36 : List (List V) := [y34, y36]
def ha36 : List V := [(.sl .h 0 13 13), (.sl (.o .h) 0 14 14)]
def hv36 : V := (.sl (.i .h) 0 14 14)
def ho36 : List (Pos × List V) := [((.i .h), y37)]
theorem hs36 : stat hb36 ha36 hv36 ho36 = true := by kernel_rfl
theorem hr36 : runOk (un 2 F71 ha36 (mkS hb36) fun v S => some (v, S)) hv36 ho36 = true := by kernel_rfl
theorem hm36 : FOK Tryz.prog 71 (memoF hb36 ha36 hv36 ho36) := memo_ok K71 hs36 hr36
def hb37 : List (List V) := [y0, y36]
def ha37 : List V := [(.sl .h 0 2 2), (.sl (.o .h) 0 14 14)]
def hv37 : V := (.sl (.i .h) 0 15 15)
def ho37 : List (Pos × List V) := [((.i .h), y38)]
theorem hs37 : stat hb37 ha37 hv37 ho37 = true := by kernel_rfl
theorem hr37 : runOk (un 2 F73 ha37 (mkS hb37) fun v S => some (v, S)) hv37 ho37 = true := by kernel_rfl
theorem hm37 : FOK Tryz.prog 73 (memoF hb37 ha37 hv37 ho37) := memo_ok K73 hs37 hr37
def hb38 : List (List V) := [y38, y33]
def ha38 : List V := [(.sl .h 0 15 15), (.sl (.o .h) 0 13 13)]
def hv38 : V := (.sl (.i .h) 0 15 15)
def ho38 : List (Pos × List V) := [((.i .h), y39)]
theorem hs38 : stat hb38 ha38 hv38 ho38 = true := by kernel_rfl
theorem hr38 : runOk (un 2 F72 ha38 (mkS hb38) fun v S => some (v, S)) hv38 ho38 = true := by kernel_rfl
theorem hm38 : FOK Tryz.prog 72 (memoF hb38 ha38 hv38 ho38) := memo_ok K72 hs38 hr38
def hb39 : List (List V) := [y37, y39]
def ha39 : List V := [(.sl .h 0 14 14), (.sl (.o .h) 0 15 15)]
def hv39 : V := (.sl (.i .h) 0 15 15)
def ho39 : List (Pos × List V) := [((.i .h), y40)]
theorem hs39 : stat hb39 ha39 hv39 ho39 = true := by kernel_rfl
theorem hr39 : runOk (un 2 F71 ha39 (mkS hb39) fun v S => some (v, S)) hv39 ho39 = true := by kernel_rfl
theorem hm39 : FOK Tryz.prog 71 (memoF hb39 ha39 hv39 ho39) := memo_ok K71 hs39 hr39
def hb40 : List (List V) := [y0, y39]
def ha40 : List V := [(.sl .h 0 2 2), (.sl (.o .h) 0 15 15)]
def hv40 : V := (.sl (.i .h) 0 16 16)
def ho40 : List (Pos × List V) := [((.i .h), y41)]
theorem hs40 : stat hb40 ha40 hv40 ho40 = true := by kernel_rfl
theorem hr40 : runOk (un 2 F73 ha40 (mkS hb40) fun v S => some (v, S)) hv40 ho40 = true := by kernel_rfl
theorem hm40 : FOK Tryz.prog 73 (memoF hb40 ha40 hv40 ho40) := memo_ok K73 hs40 hr40
def hb41 : List (List V) := [y41, y36]
def ha41 : List V := [(.sl .h 0 16 16), (.sl (.o .h) 0 14 14)]
def hv41 : V := (.sl (.i .h) 0 16 16)
def ho41 : List (Pos × List V) := [((.i .h), y42)]
theorem hs41 : stat hb41 ha41 hv41 ho41 = true := by kernel_rfl
theorem hr41 : runOk (un 2 F72 ha41 (mkS hb41) fun v S => some (v, S)) hv41 ho41 = true := by kernel_rfl
theorem hm41 : FOK Tryz.prog 72 (memoF hb41 ha41 hv41 ho41) := memo_ok K72 hs41 hr41
def hb42 : List (List V) := [y40, y42]
def ha42 : List V := [(.sl .h 0 15 15), (.sl (.o .h) 0 16 16)]
def hv42 : V := (.sl (.i .h) 0 16 16)
def ho42 : List (Pos × List V) := [((.i .h), y43)]
theorem hs42 : stat hb42 ha42 hv42 ho42 = true := by kernel_rfl
theorem hr42 : runOk (un 2 F71 ha42 (mkS hb42) fun v S => some (v, S)) hv42 ho42 = true := by kernel_rfl
theorem hm42 : FOK Tryz.prog 71 (memoF hb42 ha42 hv42 ho42) := memo_ok K71 hs42 hr42
def hb43 : List (List V) := [y0, y42]
def ha43 : List V := [(.sl .h 0 2 2), (.sl (.o .h) 0 16 16)]
def hv43 : V := (.sl (.i .h) 0 17 17)
def ho43 : List (Pos × List V) := [((.i .h), y44)]
theorem hs43 : stat hb43 ha43 hv43 ho43 = true := by kernel_rfl
theorem hr43 : runOk (un 2 F73 ha43 (mkS hb43) fun v S => some (v, S)) hv43 ho43 = true := by kernel_rfl
theorem hm43 : FOK Tryz.prog 73 (memoF hb43 ha43 hv43 ho43) := memo_ok K73 hs43 hr43
def hb44 : List (List V) := [y44, y39]
def ha44 : List V := [(.sl .h 0 17 17), (.sl (.o .h) 0 15 15)]
def hv44 : V := (.sl (.i .h) 0 17 17)
def ho44 : List (Pos × List V) := [((.i .h), y45)]
theorem hs44 : stat hb44 ha44 hv44 ho44 = true := by kernel_rfl
theorem hr44 : runOk (un 2 F72 ha44 (mkS hb44) fun v S => some (v, S)) hv44 ho44 = true := by kernel_rfl
theorem hm44 : FOK Tryz.prog 72 (memoF hb44 ha44 hv44 ho44) := memo_ok K72 hs44 hr44
def hb45 : List (List V) := [y43, y45]
def ha45 : List V := [(.sl .h 0 16 16), (.sl (.o .h) 0 17 17)]
def hv45 : V := (.sl (.i .h) 0 17 17)
def ho45 : List (Pos × List V) := [((.i .h), y46)]
theorem hs45 : stat hb45 ha45 hv45 ho45 = true := by kernel_rfl
theorem hr45 : runOk (un 2 F71 ha45 (mkS hb45) fun v S => some (v, S)) hv45 ho45 = true := by kernel_rfl
theorem hm45 : FOK Tryz.prog 71 (memoF hb45 ha45 hv45 ho45) := memo_ok K71 hs45 hr45
def hb46 : List (List V) := [y0, y45]
def ha46 : List V := [(.sl .h 0 2 2), (.sl (.o .h) 0 17 17)]
def hv46 : V := (.sl (.i .h) 0 18 18)
def ho46 : List (Pos × List V) := [((.i .h), y47)]
theorem hs46 : stat hb46 ha46 hv46 ho46 = true := by kernel_rfl
theorem hr46 : runOk (un 2 F73 ha46 (mkS hb46) fun v S => some (v, S)) hv46 ho46 = true := by kernel_rfl
theorem hm46 : FOK Tryz.prog 73 (memoF hb46 ha46 hv46 ho46) := memo_ok K73 hs46 hr46
def hb47 : List (List V) := [y47, y42]
def ha47 : List V := [(.sl .h 0 18 18), (.sl (.o .h) 0 16 16)]
def hv47 : V := (.sl (.i .h) 0 18 18)
def ho47 : List (Pos × List V) := [((.i .h), y48)]
theorem hs47 : stat hb47 ha47 hv47 ho47 = true := by kernel_rfl
theorem hr47 : runOk (un 2 F72 ha47 (mkS hb47) fun v S => some (v, S)) hv47 ho47 = true := by kernel_rfl
theorem hm47 : FOK Tryz.prog 72 (memoF hb47 ha47 hv47 ho47) := memo_ok K72 hs47 hr47
def hb48 : List (List V) := [y46, y48]
def ha48 : List V := [(.sl .h 0 17 17), (.sl (.o .h) 0 18 18)]
def hv48 : V := (.sl (.i .h) 0 18 18)
def ho48 : List (Pos × List V) := [((.i .h), y49)]
theorem hs48 : stat hb48 ha48 hv48 ho48 = true := by kernel_rfl
theorem hr48 : runOk (un 2 F71 ha48 (mkS hb48) fun v S => some (v, S)) hv48 ho48 = true := by kernel_rfl
theorem hm48 : FOK Tryz.prog 71 (memoF hb48 ha48 hv48 ho48) := memo_ok K71 hs48 hr48
def hb49 : List (List V) := [y0, y48]
def ha49 : List V := [(.sl .h 0 2 2), (.sl (.o .h) 0 18 18)]
def hv49 : V := (.sl (.i .h) 0 19 19)
def ho49 : List (Pos × List V) := [((.i .h), y50)]
theorem hs49 : stat hb49 ha49 hv49 ho49 = true := by kernel_rfl
theorem hr49 : runOk (un 2 F73 ha49 (mkS hb49) fun v S => some (v, S)) hv49 ho49 = true := by kernel_rfl
theorem hm49 : FOK Tryz.prog 73 (memoF hb49 ha49 hv49 ho49) := memo_ok K73 hs49 hr49
def hb50 : List (List V) := [y50, y45]
def ha50 : List V := [(.sl .h 0 19 19), (.sl (.o .h) 0 17 17)]
def hv50 : V := (.sl (.i .h) 0 19 19)
def ho50 : List (Pos × List V) := [((.i .h), y51)]
theorem hs50 : stat hb50 ha50 hv50 ho50 = true := by kernel_rfl
theorem hr50 : runOk (un 2 F72 ha50 (mkS hb50) fun v S => some (v, S)) hv50 ho50 = true := by kernel_rfl
theorem hm50 : FOK Tryz.prog 72 (memoF hb50 ha50 hv50 ho50) := memo_ok K72 hs50 hr50
def hb51 : List (List V) := [y49, y51]
def ha51 : List V := [(.sl .h 0 18 18), (.sl (.o .h) 0 19 19)]
def hv51 : V := (.sl (.i .h) 0 19 19)
def ho51 : List (Pos × List V) := [((.i .h), y52)]
theorem hs51 : stat hb51 ha51 hv51 ho51 = true := by kernel_rfl
theorem hr51 : runOk (un 2 F71 ha51 (mkS hb51) fun v S => some (v, S)) hv51 ho51 = true := by kernel_rfl
theorem hm51 : FOK Tryz.prog 71 (memoF hb51 ha51 hv51 ho51) := memo_ok K71 hs51 hr51
def hb52 : List (List V) := [y0, y51]
def ha52 : List V := [(.sl .h 0 2 2), (.sl (.o .h) 0 19 19)]
def hv52 : V := (.sl (.i .h) 0 20 20)
def ho52 : List (Pos × List V) := [((.i .h), y53)]
theorem hs52 : stat hb52 ha52 hv52 ho52 = true := by kernel_rfl
theorem hr52 : runOk (un 2 F73 ha52 (mkS hb52) fun v S => some (v, S)) hv52 ho52 = true := by kernel_rfl
theorem hm52 : FOK Tryz.prog 73 (memoF hb52 ha52 hv52 ho52) := memo_ok K73 hs52 hr52
def hb53 : List (List V) := [y53, y48]
def ha53 : List V := [(.sl .h 0 20 20), (.sl (.o .h) 0 18 18)]
def hv53 : V := (.sl (.i .h) 0 20 20)
def ho53 : List (Pos × List V) := [((.i .h), y54)]
theorem hs53 : stat hb53 ha53 hv53 ho53 = true := by kernel_rfl
theorem hr53 : runOk (un 2 F72 ha53 (mkS hb53) fun v S => some (v, S)) hv53 ho53 = true := by kernel_rfl
theorem hm53 : FOK Tryz.prog 72 (memoF hb53 ha53 hv53 ho53) := memo_ok K72 hs53 hr53
def hb54 : List (List V) := [y52, y54]
def ha54 : List V := [(.sl .h 0 19 19), (.sl (.o .h) 0 20 20)]
def hv54 : V := (.sl (.i .h) 0 20 20)
def ho54 : List (Pos × List V) := [((.i .h), y55)]
theorem hs54 : stat hb54 ha54 hv54 ho54 = true := by kernel_rfl
theorem hr54 : runOk (un 2 F71 ha54 (mkS hb54) fun v S => some (v, S)) hv54 ho54 = true := by kernel_rfl
theorem hm54 : FOK Tryz.prog 71 (memoF hb54 ha54 hv54 ho54) := memo_ok K71 hs54 hr54
def hb55 : List (List V) := [y0, y54]
def ha55 : List V := [(.sl .h 0 2 2), (.sl (.o .h) 0 20 20)]
def hv55 : V := (.sl (.i .h) 0 21 21)
def ho55 : List (Pos × List V) := [((.i .h), y56)]
theorem hs55 : stat hb55 ha55 hv55 ho55 = true := by kernel_rfl
theorem hr55 : runOk (un 2 F73 ha55 (mkS hb55) fun v S => some (v, S)) hv55 ho55 = true := by kernel_rfl
theorem hm55 : FOK Tryz.prog 73 (memoF hb55 ha55 hv55 ho55) := memo_ok K73 hs55 hr55
def hb56 : List (List V) := [y56, y51]
def ha56 : List V := [(.sl .h 0 21 21), (.sl (.o .h) 0 19 19)]
def hv56 : V := (.sl (.i .h) 0 21 21)
def ho56 : List (Pos × List V) := [((.i .h), y57)]
theorem hs56 : stat hb56 ha56 hv56 ho56 = true := by kernel_rfl
theorem hr56 : runOk (un 2 F72 ha56 (mkS hb56) fun v S => some (v, S)) hv56 ho56 = true := by kernel_rfl
theorem hm56 : FOK Tryz.prog 72 (memoF hb56 ha56 hv56 ho56) := memo_ok K72 hs56 hr56
def hb57 : List (List V) := [y55, y57]
def ha57 : List V := [(.sl .h 0 20 20), (.sl (.o .h) 0 21 21)]
def hv57 : V := (.sl (.i .h) 0 21 21)
def ho57 : List (Pos × List V) := [((.i .h), y58)]
theorem hs57 : stat hb57 ha57 hv57 ho57 = true := by kernel_rfl
theorem hr57 : runOk (un 2 F71 ha57 (mkS hb57) fun v S => some (v, S)) hv57 ho57 = true := by kernel_rfl
theorem hm57 : FOK Tryz.prog 71 (memoF hb57 ha57 hv57 ho57) := memo_ok K71 hs57 hr57
def hb58 : List (List V) := [y0, y57]
def ha58 : List V := [(.sl .h 0 2 2), (.sl (.o .h) 0 21 21)]
def hv58 : V := (.sl (.i .h) 0 22 22)
def ho58 : List (Pos × List V) := [((.i .h), y59)]
theorem hs58 : stat hb58 ha58 hv58 ho58 = true := by kernel_rfl
theorem hr58 : runOk (un 2 F73 ha58 (mkS hb58) fun v S => some (v, S)) hv58 ho58 = true := by kernel_rfl
theorem hm58 : FOK Tryz.prog 73 (memoF hb58 ha58 hv58 ho58) := memo_ok K73 hs58 hr58
def hb59 : List (List V) := [y59, y54]
def ha59 : List V := [(.sl .h 0 22 22), (.sl (.o .h) 0 20 20)]
def hv59 : V := (.sl (.i .h) 0 22 22)
def ho59 : List (Pos × List V) := [((.i .h), y60)]
theorem hs59 : stat hb59 ha59 hv59 ho59 = true := by kernel_rfl
theorem hr59 : runOk (un 2 F72 ha59 (mkS hb59) fun v S => some (v, S)) hv59 ho59 = true := by kernel_rfl
theorem hm59 : FOK Tryz.prog 72 (memoF hb59 ha59 hv59 ho59) := memo_ok K72 hs59 hr59
def hb60 : List (List V) := [y58, y60]
def ha60 : List V := [(.sl .h 0 21 21), (.sl (.o .h) 0 22 22)]
def hv60 : V := (.sl (.i .h) 0 22 22)
def ho60 : List (Pos × List V) := [((.i .h), y61)]
theorem hs60 : stat hb60 ha60 hv60 ho60 = true := by kernel_rfl
theorem hr60 : runOk (un 2 F71 ha60 (mkS hb60) fun v S => some (v, S)) hv60 ho60 = true := by kernel_rfl
theorem hm60 : FOK Tryz.prog 71 (memoF hb60 ha60 hv60 ho60) := memo_ok K71 hs60 hr60
def hb61 : List (List V) := [y0, y60]
def ha61 : List V := [(.sl .h 0 2 2), (.sl (.o .h) 0 22 22)]
def hv61 : V := (.sl (.i .h) 0 23 23)
def ho61 : List (Pos × List V) := [((.i .h), y62)]
theorem hs61 : stat hb61 ha61 hv61 ho61 = true := by kernel_rfl
theorem hr61 : runOk (un 2 F73 ha61 (mkS hb61) fun v S => some (v, S)) hv61 ho61 = true := by kernel_rfl
theorem hm61 : FOK Tryz.prog 73 (memoF hb61 ha61 hv61 ho61) := memo_ok K73 hs61 hr61
def hb62 : List (List V) := [y62, y57]
def ha62 : List V := [(.sl .h 0 23 23), (.sl (.o .h) 0 21 21)]
def hv62 : V := (.sl (.i .h) 0 23 23)
def ho62 : List (Pos × List V) := [((.i .h), y63)]
theorem hs62 : stat hb62 ha62 hv62 ho62 = true := by kernel_rfl
theorem hr62 : runOk (un 2 F72 ha62 (mkS hb62) fun v S => some (v, S)) hv62 ho62 = true := by kernel_rfl
theorem hm62 : FOK Tryz.prog 72 (memoF hb62 ha62 hv62 ho62) := memo_ok K72 hs62 hr62
def hb63 : List (List V) := [y61, y63]
def ha63 : List V := [(.sl .h 0 22 22), (.sl (.o .h) 0 23 23)]
def hv63 : V := (.sl (.i .h) 0 23 23)
def ho63 : List (Pos × List V) := [((.i .h), y64)]
theorem hs63 : stat hb63 ha63 hv63 ho63 = true := by kernel_rfl
theorem hr63 : runOk (un 2 F71 ha63 (mkS hb63) fun v S => some (v, S)) hv63 ho63 = true := by kernel_rfl
theorem hm63 : FOK Tryz.prog 71 (memoF hb63 ha63 hv63 ho63) := memo_ok K71 hs63 hr63
def hb64 : List (List V) := [y0, y63]
def ha64 : List V := [(.sl .h 0 2 2), (.sl (.o .h) 0 23 23)]
def hv64 : V := (.sl (.i .h) 0 24 24)
def ho64 : List (Pos × List V) := [((.i .h), y65)]
theorem hs64 : stat hb64 ha64 hv64 ho64 = true := by kernel_rfl
theorem hr64 : runOk (un 2 F73 ha64 (mkS hb64) fun v S => some (v, S)) hv64 ho64 = true := by kernel_rfl
theorem hm64 : FOK Tryz.prog 73 (memoF hb64 ha64 hv64 ho64) := memo_ok K73 hs64 hr64
def hb65 : List (List V) := [y65, y60]
def ha65 : List V := [(.sl .h 0 24 24), (.sl (.o .h) 0 22 22)]
def hv65 : V := (.sl (.i .h) 0 24 24)
def ho65 : List (Pos × List V) := [((.i .h), y66)]
theorem hs65 : stat hb65 ha65 hv65 ho65 = true := by kernel_rfl
theorem hr65 : runOk (un 2 F72 ha65 (mkS hb65) fun v S => some (v, S)) hv65 ho65 = true := by kernel_rfl
theorem hm65 : FOK Tryz.prog 72 (memoF hb65 ha65 hv65 ho65) := memo_ok K72 hs65 hr65
def hb66 : List (List V) := [y64, y66]
def ha66 : List V := [(.sl .h 0 23 23), (.sl (.o .h) 0 24 24)]
def hv66 : V := (.sl (.i .h) 0 24 24)
def ho66 : List (Pos × List V) := [((.i .h), y67)]
theorem hs66 : stat hb66 ha66 hv66 ho66 = true := by kernel_rfl
theorem hr66 : runOk (un 2 F71 ha66 (mkS hb66) fun v S => some (v, S)) hv66 ho66 = true := by kernel_rfl
theorem hm66 : FOK Tryz.prog 71 (memoF hb66 ha66 hv66 ho66) := memo_ok K71 hs66 hr66
def hb67 : List (List V) := [y0, y66]
def ha67 : List V := [(.sl .h 0 2 2), (.sl (.o .h) 0 24 24)]
def hv67 : V := (.sl (.i .h) 0 25 25)
def ho67 : List (Pos × List V) := [((.i .h), y68)]
theorem hs67 : stat hb67 ha67 hv67 ho67 = true := by kernel_rfl
theorem hr67 : runOk (un 2 F73 ha67 (mkS hb67) fun v S => some (v, S)) hv67 ho67 = true := by kernel_rfl
theorem hm67 : FOK Tryz.prog 73 (memoF hb67 ha67 hv67 ho67) := memo_ok K73 hs67 hr67
def hb68 : List (List V) := [y68, y63]
def ha68 : List V := [(.sl .h 0 25 25), (.sl (.o .h) 0 23 23)]
def hv68 : V := (.sl (.i .h) 0 25 25)
def ho68 : List (Pos × List V) := [((.i .h), y69)]
theorem hs68 : stat hb68 ha68 hv68 ho68 = true := by kernel_rfl
theorem hr68 : runOk (un 2 F72 ha68 (mkS hb68) fun v S => some (v, S)) hv68 ho68 = true := by kernel_rfl
theorem hm68 : FOK Tryz.prog 72 (memoF hb68 ha68 hv68 ho68) := memo_ok K72 hs68 hr68
def hb69 : List (List V) := [y67, y69]
def ha69 : List V := [(.sl .h 0 24 24), (.sl (.o .h) 0 25 25)]
def hv69 : V := (.sl (.i .h) 0 25 25)
def ho69 : List (Pos × List V) := [((.i .h), y70)]
theorem hs69 : stat hb69 ha69 hv69 ho69 = true := by kernel_rfl
theorem hr69 : runOk (un 2 F71 ha69 (mkS hb69) fun v S => some (v, S)) hv69 ho69 = true := by kernel_rfl
theorem hm69 : FOK Tryz.prog 71 (memoF hb69 ha69 hv69 ho69) := memo_ok K71 hs69 hr69
def hb70 : List (List V) := [y0, y69]
def ha70 : List V := [(.sl .h 0 2 2), (.sl (.o .h) 0 25 25)]
def hv70 : V := (.sl (.i .h) 0 26 26)
def ho70 : List (Pos × List V) := [((.i .h), y71)]
theorem hs70 : stat hb70 ha70 hv70 ho70 = true := by kernel_rfl
theorem hr70 : runOk (un 2 F73 ha70 (mkS hb70) fun v S => some (v, S)) hv70 ho70 = true := by kernel_rfl
theorem hm70 : FOK Tryz.prog 73 (memoF hb70 ha70 hv70 ho70) := memo_ok K73 hs70 hr70
def hb71 : List (List V) := [y71, y66]
def ha71 : List V := [(.sl .h 0 26 26), (.sl (.o .h) 0 24 24)]
def hv71 : V := (.sl (.i .h) 0 26 26)
def ho71 : List (Pos × List V) := [((.i .h), y72)]
theorem hs71 : stat hb71 ha71 hv71 ho71 = true := by kernel_rfl
theorem hr71 : runOk (un 2 F72 ha71 (mkS hb71) fun v S => some (v, S)) hv71 ho71 = true := by kernel_rfl
theorem hm71 : FOK Tryz.prog 72 (memoF hb71 ha71 hv71 ho71) := memo_ok K72 hs71 hr71
def hb72 : List (List V) := [y70, y72]
def ha72 : List V := [(.sl .h 0 25 25), (.sl (.o .h) 0 26 26)]
def hv72 : V := (.sl (.i .h) 0 26 26)
def ho72 : List (Pos × List V) := [((.i .h), y73)]
theorem hs72 : stat hb72 ha72 hv72 ho72 = true := by kernel_rfl
theorem hr72 : runOk (un 2 F71 ha72 (mkS hb72) fun v S => some (v, S)) hv72 ho72 = true := by kernel_rfl
theorem hm72 : FOK Tryz.prog 71 (memoF hb72 ha72 hv72 ho72) := memo_ok K71 hs72 hr72
def hb73 : List (List V) := [y0, y72]
def ha73 : List V := [(.sl .h 0 2 2), (.sl (.o .h) 0 26 26)]
def hv73 : V := (.sl (.i .h) 0 27 27)
def ho73 : List (Pos × List V) := [((.i .h), y74)]
theorem hs73 : stat hb73 ha73 hv73 ho73 = true := by kernel_rfl
theorem hr73 : runOk (un 2 F73 ha73 (mkS hb73) fun v S => some (v, S)) hv73 ho73 = true := by kernel_rfl
theorem hm73 : FOK Tryz.prog 73 (memoF hb73 ha73 hv73 ho73) := memo_ok K73 hs73 hr73
def hb74 : List (List V) := [y74, y69]
def ha74 : List V := [(.sl .h 0 27 27), (.sl (.o .h) 0 25 25)]
def hv74 : V := (.sl (.i .h) 0 27 27)
def ho74 : List (Pos × List V) := [((.i .h), y75)]
theorem hs74 : stat hb74 ha74 hv74 ho74 = true := by kernel_rfl
theorem hr74 : runOk (un 2 F72 ha74 (mkS hb74) fun v S => some (v, S)) hv74 ho74 = true := by kernel_rfl
theorem hm74 : FOK Tryz.prog 72 (memoF hb74 ha74 hv74 ho74) := memo_ok K72 hs74 hr74
def hb75 : List (List V) := [y73, y75]
def ha75 : List V := [(.sl .h 0 26 26), (.sl (.o .h) 0 27 27)]
def hv75 : V := (.sl (.i .h) 0 27 27)
def ho75 : List (Pos × List V) := [((.i .h), y76)]
theorem hs75 : stat hb75 ha75 hv75 ho75 = true := by kernel_rfl
theorem hr75 : runOk (un 2 F71 ha75 (mkS hb75) fun v S => some (v, S)) hv75 ho75 = true := by kernel_rfl
theorem hm75 : FOK Tryz.prog 71 (memoF hb75 ha75 hv75 ho75) := memo_ok K71 hs75 hr75
def hb76 : List (List V) := [y0, y75]
def ha76 : List V := [(.sl .h 0 2 2), (.sl (.o .h) 0 27 27)]
def hv76 : V := (.sl (.i .h) 0 28 28)
def ho76 : List (Pos × List V) := [((.i .h), y77)]
theorem hs76 : stat hb76 ha76 hv76 ho76 = true := by kernel_rfl
theorem hr76 : runOk (un 2 F73 ha76 (mkS hb76) fun v S => some (v, S)) hv76 ho76 = true := by kernel_rfl
theorem hm76 : FOK Tryz.prog 73 (memoF hb76 ha76 hv76 ho76) := memo_ok K73 hs76 hr76
def hb77 : List (List V) := [y77, y72]
def ha77 : List V := [(.sl .h 0 28 28), (.sl (.o .h) 0 26 26)]
def hv77 : V := (.sl (.i .h) 0 28 28)
def ho77 : List (Pos × List V) := [((.i .h), y78)]
theorem hs77 : stat hb77 ha77 hv77 ho77 = true := by kernel_rfl
theorem hr77 : runOk (un 2 F72 ha77 (mkS hb77) fun v S => some (v, S)) hv77 ho77 = true := by kernel_rfl
theorem hm77 : FOK Tryz.prog 72 (memoF hb77 ha77 hv77 ho77) := memo_ok K72 hs77 hr77
def hb78 : List (List V) := [y76, y78]
def ha78 : List V := [(.sl .h 0 27 27), (.sl (.o .h) 0 28 28)]
def hv78 : V := (.sl (.i .h) 0 28 28)
def ho78 : List (Pos × List V) := [((.i .h), y79)]
theorem hs78 : stat hb78 ha78 hv78 ho78 = true := by kernel_rfl
theorem hr78 : runOk (un 2 F71 ha78 (mkS hb78) fun v S => some (v, S)) hv78 ho78 = true := by kernel_rfl
theorem hm78 : FOK Tryz.prog 71 (memoF hb78 ha78 hv78 ho78) := memo_ok K71 hs78 hr78
def hb79 : List (List V) := [y0, y78]
def ha79 : List V := [(.sl .h 0 2 2), (.sl (.o .h) 0 28 28)]
def hv79 : V := (.sl (.i .h) 0 29 29)
def ho79 : List (Pos × List V) := [((.i .h), y80)]
theorem hs79 : stat hb79 ha79 hv79 ho79 = true := by kernel_rfl
theorem hr79 : runOk (un 2 F73 ha79 (mkS hb79) fun v S => some (v, S)) hv79 ho79 = true := by kernel_rfl
theorem hm79 : FOK Tryz.prog 73 (memoF hb79 ha79 hv79 ho79) := memo_ok K73 hs79 hr79
def hb80 : List (List V) := [y80, y75]
def ha80 : List V := [(.sl .h 0 29 29), (.sl (.o .h) 0 27 27)]
def hv80 : V := (.sl (.i .h) 0 29 29)
def ho80 : List (Pos × List V) := [((.i .h), y81)]
theorem hs80 : stat hb80 ha80 hv80 ho80 = true := by kernel_rfl
theorem hr80 : runOk (un 2 F72 ha80 (mkS hb80) fun v S => some (v, S)) hv80 ho80 = true := by kernel_rfl
theorem hm80 : FOK Tryz.prog 72 (memoF hb80 ha80 hv80 ho80) := memo_ok K72 hs80 hr80
def hb81 : List (List V) := [y79, y81]
def ha81 : List V := [(.sl .h 0 28 28), (.sl (.o .h) 0 29 29)]
def hv81 : V := (.sl (.i .h) 0 29 29)
def ho81 : List (Pos × List V) := [((.i .h), y82)]
theorem hs81 : stat hb81 ha81 hv81 ho81 = true := by kernel_rfl
theorem hr81 : runOk (un 2 F71 ha81 (mkS hb81) fun v S => some (v, S)) hv81 ho81 = true := by kernel_rfl
theorem hm81 : FOK Tryz.prog 71 (memoF hb81 ha81 hv81 ho81) := memo_ok K71 hs81 hr81
def hb82 : List (List V) := [y0, y81]
def ha82 : List V := [(.sl .h 0 2 2), (.sl (.o .h) 0 29 29)]
def hv82 : V := (.sl (.i .h) 0 30 30)
def ho82 : List (Pos × List V) := [((.i .h), y83)]
theorem hs82 : stat hb82 ha82 hv82 ho82 = true := by kernel_rfl
theorem hr82 : runOk (un 2 F73 ha82 (mkS hb82) fun v S => some (v, S)) hv82 ho82 = true := by kernel_rfl
theorem hm82 : FOK Tryz.prog 73 (memoF hb82 ha82 hv82 ho82) := memo_ok K73 hs82 hr82
def hb83 : List (List V) := [y83, y78]
def ha83 : List V := [(.sl .h 0 30 30), (.sl (.o .h) 0 28 28)]
def hv83 : V := (.sl (.i .h) 0 30 30)
def ho83 : List (Pos × List V) := [((.i .h), y84)]
theorem hs83 : stat hb83 ha83 hv83 ho83 = true := by kernel_rfl
theorem hr83 : runOk (un 2 F72 ha83 (mkS hb83) fun v S => some (v, S)) hv83 ho83 = true := by kernel_rfl
theorem hm83 : FOK Tryz.prog 72 (memoF hb83 ha83 hv83 ho83) := memo_ok K72 hs83 hr83
def hb84 : List (List V) := [y82, y84]
def ha84 : List V := [(.sl .h 0 29 29), (.sl (.o .h) 0 30 30)]
def hv84 : V := (.sl (.i .h) 0 30 30)
def ho84 : List (Pos × List V) := [((.i .h), y85)]
theorem hs84 : stat hb84 ha84 hv84 ho84 = true := by kernel_rfl
theorem hr84 : runOk (un 2 F71 ha84 (mkS hb84) fun v S => some (v, S)) hv84 ho84 = true := by kernel_rfl
theorem hm84 : FOK Tryz.prog 71 (memoF hb84 ha84 hv84 ho84) := memo_ok K71 hs84 hr84
def hb85 : List (List V) := [y0, y84]
def ha85 : List V := [(.sl .h 0 2 2), (.sl (.o .h) 0 30 30)]
def hv85 : V := (.sl (.i .h) 0 31 31)
def ho85 : List (Pos × List V) := [((.i .h), y86)]
theorem hs85 : stat hb85 ha85 hv85 ho85 = true := by kernel_rfl
theorem hr85 : runOk (un 2 F73 ha85 (mkS hb85) fun v S => some (v, S)) hv85 ho85 = true := by kernel_rfl
theorem hm85 : FOK Tryz.prog 73 (memoF hb85 ha85 hv85 ho85) := memo_ok K73 hs85 hr85
def hb86 : List (List V) := [y86, y81]
def ha86 : List V := [(.sl .h 0 31 31), (.sl (.o .h) 0 29 29)]
def hv86 : V := (.sl (.i .h) 0 31 31)
def ho86 : List (Pos × List V) := [((.i .h), y87)]
theorem hs86 : stat hb86 ha86 hv86 ho86 = true := by kernel_rfl
theorem hr86 : runOk (un 2 F72 ha86 (mkS hb86) fun v S => some (v, S)) hv86 ho86 = true := by kernel_rfl
theorem hm86 : FOK Tryz.prog 72 (memoF hb86 ha86 hv86 ho86) := memo_ok K72 hs86 hr86
def hb87 : List (List V) := [y85, y87]
def ha87 : List V := [(.sl .h 0 30 30), (.sl (.o .h) 0 31 31)]
def hv87 : V := (.sl (.i .h) 0 31 31)
def ho87 : List (Pos × List V) := [((.i .h), y88)]
theorem hs87 : stat hb87 ha87 hv87 ho87 = true := by kernel_rfl
theorem hr87 : runOk (un 2 F71 ha87 (mkS hb87) fun v S => some (v, S)) hv87 ho87 = true := by kernel_rfl
theorem hm87 : FOK Tryz.prog 71 (memoF hb87 ha87 hv87 ho87) := memo_ok K71 hs87 hr87
def hb88 : List (List V) := [y0, y87]
def ha88 : List V := [(.sl .h 0 2 2), (.sl (.o .h) 0 31 31)]
def hv88 : V := (.sl (.i .h) 0 32 32)
def ho88 : List (Pos × List V) := [((.i .h), y89)]
theorem hs88 : stat hb88 ha88 hv88 ho88 = true := by kernel_rfl
theorem hr88 : runOk (un 2 F73 ha88 (mkS hb88) fun v S => some (v, S)) hv88 ho88 = true := by kernel_rfl
theorem hm88 : FOK Tryz.prog 73 (memoF hb88 ha88 hv88 ho88) := memo_ok K73 hs88 hr88
def hb89 : List (List V) := [y89, y84]
def ha89 : List V := [(.sl .h 0 32 32), (.sl (.o .h) 0 30 30)]
def hv89 : V := (.sl (.i .h) 0 32 32)
def ho89 : List (Pos × List V) := [((.i .h), y90)]
theorem hs89 : stat hb89 ha89 hv89 ho89 = true := by kernel_rfl
theorem hr89 : runOk (un 2 F72 ha89 (mkS hb89) fun v S => some (v, S)) hv89 ho89 = true := by kernel_rfl
theorem hm89 : FOK Tryz.prog 72 (memoF hb89 ha89 hv89 ho89) := memo_ok K72 hs89 hr89
def hb90 : List (List V) := [y88, y90]
def ha90 : List V := [(.sl .h 0 31 31), (.sl (.o .h) 0 32 32)]
def hv90 : V := (.sl (.i .h) 0 32 32)
def ho90 : List (Pos × List V) := [((.i .h), y91)]
theorem hs90 : stat hb90 ha90 hv90 ho90 = true := by kernel_rfl
theorem hr90 : runOk (un 2 F71 ha90 (mkS hb90) fun v S => some (v, S)) hv90 ho90 = true := by kernel_rfl
theorem hm90 : FOK Tryz.prog 71 (memoF hb90 ha90 hv90 ho90) := memo_ok K71 hs90 hr90
def hb91 : List (List V) := [y0, y90]
def ha91 : List V := [(.sl .h 0 2 2), (.sl (.o .h) 0 32 32)]
def hv91 : V := (.sl (.i .h) 0 33 33)
def ho91 : List (Pos × List V) := [((.i .h), y92)]
theorem hs91 : stat hb91 ha91 hv91 ho91 = true := by kernel_rfl
theorem hr91 : runOk (un 2 F73 ha91 (mkS hb91) fun v S => some (v, S)) hv91 ho91 = true := by kernel_rfl
theorem hm91 : FOK Tryz.prog 73 (memoF hb91 ha91 hv91 ho91) := memo_ok K73 hs91 hr91
def hb92 : List (List V) := [y92, y87]
def ha92 : List V := [(.sl .h 0 33 33), (.sl (.o .h) 0 31 31)]
def hv92 : V := (.sl (.i .h) 0 33 33)
def ho92 : List (Pos × List V) := [((.i .h), y93)]
theorem hs92 : stat hb92 ha92 hv92 ho92 = true := by kernel_rfl
theorem hr92 : runOk (un 2 F72 ha92 (mkS hb92) fun v S => some (v, S)) hv92 ho92 = true := by kernel_rfl
theorem hm92 : FOK Tryz.prog 72 (memoF hb92 ha92 hv92 ho92) := memo_ok K72 hs92 hr92
def hb93 : List (List V) := [y91, y93]
def ha93 : List V := [(.sl .h 0 32 32), (.sl (.o .h) 0 33 33)]
def hv93 : V := (.sl (.i .h) 0 33 33)
def ho93 : List (Pos × List V) := [((.i .h), y94)]
theorem hs93 : stat hb93 ha93 hv93 ho93 = true := by kernel_rfl
theorem hr93 : runOk (un 2 F71 ha93 (mkS hb93) fun v S => some (v, S)) hv93 ho93 = true := by kernel_rfl
theorem hm93 : FOK Tryz.prog 71 (memoF hb93 ha93 hv93 ho93) := memo_ok K71 hs93 hr93
def hb94 : List (List V) := [y0, y93]
def ha94 : List V := [(.sl .h 0 2 2), (.sl (.o .h) 0 33 33)]
def hv94 : V := (.sl (.i .h) 0 34 34)
def ho94 : List (Pos × List V) := [((.i .h), y95)]
theorem hs94 : stat hb94 ha94 hv94 ho94 = true := by kernel_rfl
theorem hr94 : runOk (un 2 F73 ha94 (mkS hb94) fun v S => some (v, S)) hv94 ho94 = true := by kernel_rfl
theorem hm94 : FOK Tryz.prog 73 (memoF hb94 ha94 hv94 ho94) := memo_ok K73 hs94 hr94
def hb95 : List (List V) := [y95, y90]
def ha95 : List V := [(.sl .h 0 34 34), (.sl (.o .h) 0 32 32)]
def hv95 : V := (.sl (.i .h) 0 34 34)
def ho95 : List (Pos × List V) := [((.i .h), y96)]
theorem hs95 : stat hb95 ha95 hv95 ho95 = true := by kernel_rfl
theorem hr95 : runOk (un 2 F72 ha95 (mkS hb95) fun v S => some (v, S)) hv95 ho95 = true := by kernel_rfl
theorem hm95 : FOK Tryz.prog 72 (memoF hb95 ha95 hv95 ho95) := memo_ok K72 hs95 hr95
def hb96 : List (List V) := [y94, y96]
def ha96 : List V := [(.sl .h 0 33 33), (.sl (.o .h) 0 34 34)]
def hv96 : V := (.sl (.i .h) 0 34 34)
def ho96 : List (Pos × List V) := [((.i .h), y97)]
theorem hs96 : stat hb96 ha96 hv96 ho96 = true := by kernel_rfl
theorem hr96 : runOk (un 2 F71 ha96 (mkS hb96) fun v S => some (v, S)) hv96 ho96 = true := by kernel_rfl
theorem hm96 : FOK Tryz.prog 71 (memoF hb96 ha96 hv96 ho96) := memo_ok K71 hs96 hr96
def hb97 : List (List V) := [y0, y96]
def ha97 : List V := [(.sl .h 0 2 2), (.sl (.o .h) 0 34 34)]
def hv97 : V := (.sl (.i .h) 0 35 35)
def ho97 : List (Pos × List V) := [((.i .h), y98)]
theorem hs97 : stat hb97 ha97 hv97 ho97 = true := by kernel_rfl
theorem hr97 : runOk (un 2 F73 ha97 (mkS hb97) fun v S => some (v, S)) hv97 ho97 = true := by kernel_rfl
theorem hm97 : FOK Tryz.prog 73 (memoF hb97 ha97 hv97 ho97) := memo_ok K73 hs97 hr97
def hb98 : List (List V) := [y98, y93]
def ha98 : List V := [(.sl .h 0 35 35), (.sl (.o .h) 0 33 33)]
def hv98 : V := (.sl (.i .h) 0 35 35)
def ho98 : List (Pos × List V) := [((.i .h), y99)]
theorem hs98 : stat hb98 ha98 hv98 ho98 = true := by kernel_rfl
theorem hr98 : runOk (un 2 F72 ha98 (mkS hb98) fun v S => some (v, S)) hv98 ho98 = true := by kernel_rfl
theorem hm98 : FOK Tryz.prog 72 (memoF hb98 ha98 hv98 ho98) := memo_ok K72 hs98 hr98
def hb99 : List (List V) := [y97, y99]
def ha99 : List V := [(.sl .h 0 34 34), (.sl (.o .h) 0 35 35)]
def hv99 : V := (.sl (.i .h) 0 35 35)
def ho99 : List (Pos × List V) := [((.i .h), y100)]
theorem hs99 : stat hb99 ha99 hv99 ho99 = true := by kernel_rfl
theorem hr99 : runOk (un 2 F71 ha99 (mkS hb99) fun v S => some (v, S)) hv99 ho99 = true := by kernel_rfl
theorem hm99 : FOK Tryz.prog 71 (memoF hb99 ha99 hv99 ho99) := memo_ok K71 hs99 hr99
def hb100 : List (List V) := [y0, y99]
def ha100 : List V := [(.sl .h 0 2 2), (.sl (.o .h) 0 35 35)]
def hv100 : V := (.sl (.i .h) 0 36 36)
def ho100 : List (Pos × List V) := [((.i .h), y101)]
theorem hs100 : stat hb100 ha100 hv100 ho100 = true := by kernel_rfl
theorem hr100 : runOk (un 2 F73 ha100 (mkS hb100) fun v S => some (v, S)) hv100 ho100 = true := by kernel_rfl
theorem hm100 : FOK Tryz.prog 73 (memoF hb100 ha100 hv100 ho100) := memo_ok K73 hs100 hr100
def hb101 : List (List V) := [y101, y96]
def ha101 : List V := [(.sl .h 0 36 36), (.sl (.o .h) 0 34 34)]
def hv101 : V := (.sl (.i .h) 0 36 36)
def ho101 : List (Pos × List V) := [((.i .h), y102)]
theorem hs101 : stat hb101 ha101 hv101 ho101 = true := by kernel_rfl
theorem hr101 : runOk (un 2 F72 ha101 (mkS hb101) fun v S => some (v, S)) hv101 ho101 = true := by kernel_rfl
theorem hm101 : FOK Tryz.prog 72 (memoF hb101 ha101 hv101 ho101) := memo_ok K72 hs101 hr101
def hb102 : List (List V) := [y100, y102]
def ha102 : List V := [(.sl .h 0 35 35), (.sl (.o .h) 0 36 36)]
def hv102 : V := (.sl (.i .h) 0 36 36)
def ho102 : List (Pos × List V) := [((.i .h), y103)]
theorem hs102 : stat hb102 ha102 hv102 ho102 = true := by kernel_rfl
theorem hr102 : runOk (un 2 F71 ha102 (mkS hb102) fun v S => some (v, S)) hv102 ho102 = true := by kernel_rfl
theorem hm102 : FOK Tryz.prog 71 (memoF hb102 ha102 hv102 ho102) := memo_ok K71 hs102 hr102
def hb103 : List (List V) := [y0, y102]
def ha103 : List V := [(.sl .h 0 2 2), (.sl (.o .h) 0 36 36)]
def hv103 : V := (.sl (.i .h) 0 37 37)
def ho103 : List (Pos × List V) := [((.i .h), y104)]
theorem hs103 : stat hb103 ha103 hv103 ho103 = true := by kernel_rfl
theorem hr103 : runOk (un 2 F73 ha103 (mkS hb103) fun v S => some (v, S)) hv103 ho103 = true := by kernel_rfl
theorem hm103 : FOK Tryz.prog 73 (memoF hb103 ha103 hv103 ho103) := memo_ok K73 hs103 hr103
def hb104 : List (List V) := [y104, y99]
def ha104 : List V := [(.sl .h 0 37 37), (.sl (.o .h) 0 35 35)]
def hv104 : V := (.sl (.i .h) 0 37 37)
def ho104 : List (Pos × List V) := [((.i .h), y105)]
theorem hs104 : stat hb104 ha104 hv104 ho104 = true := by kernel_rfl
theorem hr104 : runOk (un 2 F72 ha104 (mkS hb104) fun v S => some (v, S)) hv104 ho104 = true := by kernel_rfl
theorem hm104 : FOK Tryz.prog 72 (memoF hb104 ha104 hv104 ho104) := memo_ok K72 hs104 hr104
def hb105 : List (List V) := [y103, y105]
def ha105 : List V := [(.sl .h 0 36 36), (.sl (.o .h) 0 37 37)]
def hv105 : V := (.sl (.i .h) 0 37 37)
def ho105 : List (Pos × List V) := [((.i .h), y106)]
theorem hs105 : stat hb105 ha105 hv105 ho105 = true := by kernel_rfl
theorem hr105 : runOk (un 2 F71 ha105 (mkS hb105) fun v S => some (v, S)) hv105 ho105 = true := by kernel_rfl
theorem hm105 : FOK Tryz.prog 71 (memoF hb105 ha105 hv105 ho105) := memo_ok K71 hs105 hr105
def hb106 : List (List V) := [y0, y105]
def ha106 : List V := [(.sl .h 0 2 2), (.sl (.o .h) 0 37 37)]
def hv106 : V := (.sl (.i .h) 0 38 38)
def ho106 : List (Pos × List V) := [((.i .h), y107)]
theorem hs106 : stat hb106 ha106 hv106 ho106 = true := by kernel_rfl
theorem hr106 : runOk (un 2 F73 ha106 (mkS hb106) fun v S => some (v, S)) hv106 ho106 = true := by kernel_rfl
theorem hm106 : FOK Tryz.prog 73 (memoF hb106 ha106 hv106 ho106) := memo_ok K73 hs106 hr106
def hb107 : List (List V) := [y107, y102]
def ha107 : List V := [(.sl .h 0 38 38), (.sl (.o .h) 0 36 36)]
def hv107 : V := (.sl (.i .h) 0 38 38)
def ho107 : List (Pos × List V) := [((.i .h), y108)]
theorem hs107 : stat hb107 ha107 hv107 ho107 = true := by kernel_rfl
theorem hr107 : runOk (un 2 F72 ha107 (mkS hb107) fun v S => some (v, S)) hv107 ho107 = true := by kernel_rfl
theorem hm107 : FOK Tryz.prog 72 (memoF hb107 ha107 hv107 ho107) := memo_ok K72 hs107 hr107
def hb108 : List (List V) := [y106, y108]
def ha108 : List V := [(.sl .h 0 37 37), (.sl (.o .h) 0 38 38)]
def hv108 : V := (.sl (.i .h) 0 38 38)
def ho108 : List (Pos × List V) := [((.i .h), y109)]
theorem hs108 : stat hb108 ha108 hv108 ho108 = true := by kernel_rfl
theorem hr108 : runOk (un 2 F71 ha108 (mkS hb108) fun v S => some (v, S)) hv108 ho108 = true := by kernel_rfl
theorem hm108 : FOK Tryz.prog 71 (memoF hb108 ha108 hv108 ho108) := memo_ok K71 hs108 hr108
def hb109 : List (List V) := [y0, y108]
def ha109 : List V := [(.sl .h 0 2 2), (.sl (.o .h) 0 38 38)]
def hv109 : V := (.sl (.i .h) 0 39 39)
def ho109 : List (Pos × List V) := [((.i .h), y110)]
theorem hs109 : stat hb109 ha109 hv109 ho109 = true := by kernel_rfl
theorem hr109 : runOk (un 2 F73 ha109 (mkS hb109) fun v S => some (v, S)) hv109 ho109 = true := by kernel_rfl
theorem hm109 : FOK Tryz.prog 73 (memoF hb109 ha109 hv109 ho109) := memo_ok K73 hs109 hr109
def hb110 : List (List V) := [y110, y105]
def ha110 : List V := [(.sl .h 0 39 39), (.sl (.o .h) 0 37 37)]
def hv110 : V := (.sl (.i .h) 0 39 39)
def ho110 : List (Pos × List V) := [((.i .h), y111)]
theorem hs110 : stat hb110 ha110 hv110 ho110 = true := by kernel_rfl
theorem hr110 : runOk (un 2 F72 ha110 (mkS hb110) fun v S => some (v, S)) hv110 ho110 = true := by kernel_rfl
theorem hm110 : FOK Tryz.prog 72 (memoF hb110 ha110 hv110 ho110) := memo_ok K72 hs110 hr110
end
end Go.AM
