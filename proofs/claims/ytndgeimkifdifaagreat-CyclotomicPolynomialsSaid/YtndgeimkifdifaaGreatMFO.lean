/- The cyclotomic polynomials, each over those of its divisors. -/
import Derived.Test.YtndgeimkifdifaaGreatXP
import Derived.Test.YtndgeimkifdifaaGreatXM
set_option maxRecDepth 1000000
set_option linter.unusedVariables false
namespace Go.AM
open Go.Proofs
noncomputable section
def fin : V → St → R := fun v S => some (v, S)
def cz0 : V := .i .i64 0
def cp1 : V := .i .i64 1
def cm1 : V := .i .i64 18446744073709551615
def cp2 : V := .i .i64 2
def cm2 : V := .i .i64 18446744073709551614
def F35t : Gn 2 := mulT
def F44t : Gn 2 := addT
def F87t : Gn 2 := scaleT
def F41t : Gn 2 := monoT
def F60t : Gn 1 := trimT
def F109t : Gn 2 := gcdT
def F108t : Gn 2 := divT
def F66t0 : Gn 1 := cur 1 (fun _ _ _ => none)
theorem K66t0 : FOK Tryz.prog 66 (un 1 F66t0) := cur_ok 1 (fun vs S k out ok h => by cases h)
def F66t1 : Gn 1 := G66 (C66 F66t0 F108t)
theorem K66t1 : FOK Tryz.prog 66 (un 1 F66t1) := fokP (.cons K66t0 (.cons K108t .nil)) .nil hm Tryz.func66 (by kernel_rfl) (D66 F66t0 F108t) (H66 _)
def F66t2 : Gn 1 := G66 (C66 F66t1 F108t)
theorem K66t2 : FOK Tryz.prog 66 (un 1 F66t2) := fokP (.cons K66t1 (.cons K108t .nil)) .nil hm Tryz.func66 (by kernel_rfl) (D66 F66t1 F108t) (H66 _)
def F66t3 : Gn 1 := G66 (C66 F66t2 F108t)
theorem K66t3 : FOK Tryz.prog 66 (un 1 F66t3) := fokP (.cons K66t2 (.cons K108t .nil)) .nil hm Tryz.func66 (by kernel_rfl) (D66 F66t2 F108t) (H66 _)
def F66t4 : Gn 1 := G66 (C66 F66t3 F108t)
theorem K66t4 : FOK Tryz.prog 66 (un 1 F66t4) := fokP (.cons K66t3 (.cons K108t .nil)) .nil hm Tryz.func66 (by kernel_rfl) (D66 F66t3 F108t) (H66 _)
def F66t5 : Gn 1 := G66 (C66 F66t4 F108t)
theorem K66t5 : FOK Tryz.prog 66 (un 1 F66t5) := fokP (.cons K66t4 (.cons K108t .nil)) .nil hm Tryz.func66 (by kernel_rfl) (D66 F66t4 F108t) (H66 _)
def F66t6 : Gn 1 := G66 (C66 F66t5 F108t)
theorem K66t6 : FOK Tryz.prog 66 (un 1 F66t6) := fokP (.cons K66t5 (.cons K108t .nil)) .nil hm Tryz.func66 (by kernel_rfl) (D66 F66t5 F108t) (H66 _)
def F66t7 : Gn 1 := G66 (C66 F66t6 F108t)
theorem K66t7 : FOK Tryz.prog 66 (un 1 F66t7) := fokP (.cons K66t6 (.cons K108t .nil)) .nil hm Tryz.func66 (by kernel_rfl) (D66 F66t6 F108t) (H66 _)
def F66t8 : Gn 1 := G66 (C66 F66t7 F108t)
theorem K66t8 : FOK Tryz.prog 66 (un 1 F66t8) := fokP (.cons K66t7 (.cons K108t .nil)) .nil hm Tryz.func66 (by kernel_rfl) (D66 F66t7 F108t) (H66 _)
def F66t9 : Gn 1 := G66 (C66 F66t8 F108t)
theorem K66t9 : FOK Tryz.prog 66 (un 1 F66t9) := fokP (.cons K66t8 (.cons K108t .nil)) .nil hm Tryz.func66 (by kernel_rfl) (D66 F66t8 F108t) (H66 _)
def F66t : Gn 1 := F66t9
theorem K66t : FOK Tryz.prog 66 (un 1 F66t) := K66t9
def phA1 : List V := [.i .i64 1]
def phV1 : V := (.sl .h 0 2 2)
def phO1 : List (Pos × List V) := [(.h, [cm1, cp1])]
def F66k1 : Gn 1 := cur 1 (un 1 F66t)
theorem K66k1 : FOK Tryz.prog 66 (un 1 F66k1) := cur_ok 1 K66t
def F66c1 : Gn 1 := G66 (C66 F66k1 F108t)
theorem K66c1 : FOK Tryz.prog 66 (un 1 F66c1) := fokP (.cons K66k1 (.cons K108t .nil)) .nil hm Tryz.func66 (by kernel_rfl) (D66 F66k1 F108t) (H66 _)
theorem phS1 : stat [] phA1 phV1 phO1 = true := by kernel_rfl
theorem phR1 : runOk (un 1 F66c1 phA1 (mkS []) fun v S => some (v, S)) phV1 phO1 = true := by kernel_rfl
theorem phM1 : FOK Tryz.prog 66 (memoF [] phA1 phV1 phO1) := memo_ok K66c1 phS1 phR1
def phA2 : List V := [.i .i64 2]
def phV2 : V := (.sl (.i (.o .h)) 0 2 2)
def phO2 : List (Pos × List V) := [((.i (.o .h)), [cp1, cp1])]
def F66k2 : Gn 1 := cur 1 (memoO [] phA1 phV1 phO1 (un 1 F66t))
theorem K66k2 : FOK Tryz.prog 66 (un 1 F66k2) := cur_ok 1 (memoO_ok phM1 (by kernel_rfl) (by kernel_rfl) K66t)
def F66c2 : Gn 1 := G66 (C66 F66k2 F108t)
theorem K66c2 : FOK Tryz.prog 66 (un 1 F66c2) := fokP (.cons K66k2 (.cons K108t .nil)) .nil hm Tryz.func66 (by kernel_rfl) (D66 F66k2 F108t) (H66 _)
theorem phS2 : stat [] phA2 phV2 phO2 = true := by kernel_rfl
theorem phR2 : runOk (un 1 F66c2 phA2 (mkS []) fun v S => some (v, S)) phV2 phO2 = true := by kernel_rfl
theorem phM2 : FOK Tryz.prog 66 (memoF [] phA2 phV2 phO2) := memo_ok K66c2 phS2 phR2
def phA3 : List V := [.i .i64 3]
def phV3 : V := (.sl (.i (.o .h)) 0 3 3)
def phO3 : List (Pos × List V) := [((.i (.o .h)), [cp1, cp1, cp1])]
def F66k3 : Gn 1 := cur 1 (memoO [] phA1 phV1 phO1 (un 1 F66t))
theorem K66k3 : FOK Tryz.prog 66 (un 1 F66k3) := cur_ok 1 (memoO_ok phM1 (by kernel_rfl) (by kernel_rfl) K66t)
def F66c3 : Gn 1 := G66 (C66 F66k3 F108t)
theorem K66c3 : FOK Tryz.prog 66 (un 1 F66c3) := fokP (.cons K66k3 (.cons K108t .nil)) .nil hm Tryz.func66 (by kernel_rfl) (D66 F66k3 F108t) (H66 _)
theorem phS3 : stat [] phA3 phV3 phO3 = true := by kernel_rfl
theorem phR3 : runOk (un 1 F66c3 phA3 (mkS []) fun v S => some (v, S)) phV3 phO3 = true := by kernel_rfl
theorem phM3 : FOK Tryz.prog 66 (memoF [] phA3 phV3 phO3) := memo_ok K66c3 phS3 phR3
def phA4 : List V := [.i .i64 4]
def phV4 : V := (.sl (.o (.o (.o .h))) 0 3 3)
def phO4 : List (Pos × List V) := [((.o (.o (.o .h))), [cp1, cz0, cp1])]
def F66k4 : Gn 1 := cur 1 (memoO [] phA1 phV1 phO1 (memoO [] phA2 phV2 phO2 (un 1 F66t)))
theorem K66k4 : FOK Tryz.prog 66 (un 1 F66k4) := cur_ok 1 (memoO_ok phM1 (by kernel_rfl) (by kernel_rfl) (memoO_ok phM2 (by kernel_rfl) (by kernel_rfl) K66t))
def F66c4 : Gn 1 := G66 (C66 F66k4 F108t)
theorem K66c4 : FOK Tryz.prog 66 (un 1 F66c4) := fokP (.cons K66k4 (.cons K108t .nil)) .nil hm Tryz.func66 (by kernel_rfl) (D66 F66k4 F108t) (H66 _)
theorem phS4 : stat [] phA4 phV4 phO4 = true := by kernel_rfl
theorem phR4 : runOk (un 1 F66c4 phA4 (mkS []) fun v S => some (v, S)) phV4 phO4 = true := by kernel_rfl
theorem phM4 : FOK Tryz.prog 66 (memoF [] phA4 phV4 phO4) := memo_ok K66c4 phS4 phR4
def phA5 : List V := [.i .i64 5]
def phV5 : V := (.sl (.i (.o .h)) 0 5 5)
def phO5 : List (Pos × List V) := [((.i (.o .h)), [cp1, cp1, cp1, cp1, cp1])]
def F66k5 : Gn 1 := cur 1 (memoO [] phA1 phV1 phO1 (un 1 F66t))
theorem K66k5 : FOK Tryz.prog 66 (un 1 F66k5) := cur_ok 1 (memoO_ok phM1 (by kernel_rfl) (by kernel_rfl) K66t)
def F66c5 : Gn 1 := G66 (C66 F66k5 F108t)
theorem K66c5 : FOK Tryz.prog 66 (un 1 F66c5) := fokP (.cons K66k5 (.cons K108t .nil)) .nil hm Tryz.func66 (by kernel_rfl) (D66 F66k5 F108t) (H66 _)
theorem phS5 : stat [] phA5 phV5 phO5 = true := by kernel_rfl
theorem phR5 : runOk (un 1 F66c5 phA5 (mkS []) fun v S => some (v, S)) phV5 phO5 = true := by kernel_rfl
theorem phM5 : FOK Tryz.prog 66 (memoF [] phA5 phV5 phO5) := memo_ok K66c5 phS5 phR5
def phA6 : List V := [.i .i64 6]
def phV6 : V := (.sl (.i (.i (.o .h))) 0 3 3)
def phO6 : List (Pos × List V) := [((.i (.i (.o .h))), [cp1, cm1, cp1])]
def F66k6 : Gn 1 := cur 1 (memoO [] phA1 phV1 phO1 (memoO [] phA2 phV2 phO2 (memoO [] phA3 phV3 phO3 (un 1 F66t))))
theorem K66k6 : FOK Tryz.prog 66 (un 1 F66k6) := cur_ok 1 (memoO_ok phM1 (by kernel_rfl) (by kernel_rfl) (memoO_ok phM2 (by kernel_rfl) (by kernel_rfl) (memoO_ok phM3 (by kernel_rfl) (by kernel_rfl) K66t)))
def F66c6 : Gn 1 := G66 (C66 F66k6 F108t)
theorem K66c6 : FOK Tryz.prog 66 (un 1 F66c6) := fokP (.cons K66k6 (.cons K108t .nil)) .nil hm Tryz.func66 (by kernel_rfl) (D66 F66k6 F108t) (H66 _)
theorem phS6 : stat [] phA6 phV6 phO6 = true := by kernel_rfl
theorem phR6 : runOk (un 1 F66c6 phA6 (mkS []) fun v S => some (v, S)) phV6 phO6 = true := by kernel_rfl
theorem phM6 : FOK Tryz.prog 66 (memoF [] phA6 phV6 phO6) := memo_ok K66c6 phS6 phR6
def phA7 : List V := [.i .i64 7]
def phV7 : V := (.sl (.i (.o .h)) 0 7 7)
def phO7 : List (Pos × List V) := [((.i (.o .h)), [cp1, cp1, cp1, cp1, cp1, cp1, cp1])]
def F66k7 : Gn 1 := cur 1 (memoO [] phA1 phV1 phO1 (un 1 F66t))
theorem K66k7 : FOK Tryz.prog 66 (un 1 F66k7) := cur_ok 1 (memoO_ok phM1 (by kernel_rfl) (by kernel_rfl) K66t)
def F66c7 : Gn 1 := G66 (C66 F66k7 F108t)
theorem K66c7 : FOK Tryz.prog 66 (un 1 F66c7) := fokP (.cons K66k7 (.cons K108t .nil)) .nil hm Tryz.func66 (by kernel_rfl) (D66 F66k7 F108t) (H66 _)
theorem phS7 : stat [] phA7 phV7 phO7 = true := by kernel_rfl
theorem phR7 : runOk (un 1 F66c7 phA7 (mkS []) fun v S => some (v, S)) phV7 phO7 = true := by kernel_rfl
theorem phM7 : FOK Tryz.prog 66 (memoF [] phA7 phV7 phO7) := memo_ok K66c7 phS7 phR7
def phA8 : List V := [.i .i64 8]
def phV8 : V := (.sl (.i (.i (.o .h))) 0 5 5)
def phO8 : List (Pos × List V) := [((.i (.i (.o .h))), [cp1, cz0, cz0, cz0, cp1])]
def F66k8 : Gn 1 := cur 1 (memoO [] phA1 phV1 phO1 (memoO [] phA2 phV2 phO2 (memoO [] phA4 phV4 phO4 (un 1 F66t))))
theorem K66k8 : FOK Tryz.prog 66 (un 1 F66k8) := cur_ok 1 (memoO_ok phM1 (by kernel_rfl) (by kernel_rfl) (memoO_ok phM2 (by kernel_rfl) (by kernel_rfl) (memoO_ok phM4 (by kernel_rfl) (by kernel_rfl) K66t)))
def F66c8 : Gn 1 := G66 (C66 F66k8 F108t)
theorem K66c8 : FOK Tryz.prog 66 (un 1 F66c8) := fokP (.cons K66k8 (.cons K108t .nil)) .nil hm Tryz.func66 (by kernel_rfl) (D66 F66k8 F108t) (H66 _)
theorem phS8 : stat [] phA8 phV8 phO8 = true := by kernel_rfl
theorem phR8 : runOk (un 1 F66c8 phA8 (mkS []) fun v S => some (v, S)) phV8 phO8 = true := by kernel_rfl
theorem phM8 : FOK Tryz.prog 66 (memoF [] phA8 phV8 phO8) := memo_ok K66c8 phS8 phR8
def phA9 : List V := [.i .i64 9]
def phV9 : V := (.sl (.o (.o (.o .h))) 0 7 7)
def phO9 : List (Pos × List V) := [((.o (.o (.o .h))), [cp1, cz0, cz0, cp1, cz0, cz0, cp1])]
def F66k9 : Gn 1 := cur 1 (memoO [] phA1 phV1 phO1 (memoO [] phA3 phV3 phO3 (un 1 F66t)))
theorem K66k9 : FOK Tryz.prog 66 (un 1 F66k9) := cur_ok 1 (memoO_ok phM1 (by kernel_rfl) (by kernel_rfl) (memoO_ok phM3 (by kernel_rfl) (by kernel_rfl) K66t))
def F66c9 : Gn 1 := G66 (C66 F66k9 F108t)
theorem K66c9 : FOK Tryz.prog 66 (un 1 F66c9) := fokP (.cons K66k9 (.cons K108t .nil)) .nil hm Tryz.func66 (by kernel_rfl) (D66 F66k9 F108t) (H66 _)
theorem phS9 : stat [] phA9 phV9 phO9 = true := by kernel_rfl
theorem phR9 : runOk (un 1 F66c9 phA9 (mkS []) fun v S => some (v, S)) phV9 phO9 = true := by kernel_rfl
theorem phM9 : FOK Tryz.prog 66 (memoF [] phA9 phV9 phO9) := memo_ok K66c9 phS9 phR9
def phA10 : List V := [.i .i64 10]
def phV10 : V := (.sl (.i (.i (.o .h))) 0 5 5)
def phO10 : List (Pos × List V) := [((.i (.i (.o .h))), [cp1, cm1, cp1, cm1, cp1])]
def F66k10 : Gn 1 := cur 1 (memoO [] phA1 phV1 phO1 (memoO [] phA2 phV2 phO2 (memoO [] phA5 phV5 phO5 (un 1 F66t))))
theorem K66k10 : FOK Tryz.prog 66 (un 1 F66k10) := cur_ok 1 (memoO_ok phM1 (by kernel_rfl) (by kernel_rfl) (memoO_ok phM2 (by kernel_rfl) (by kernel_rfl) (memoO_ok phM5 (by kernel_rfl) (by kernel_rfl) K66t)))
def F66c10 : Gn 1 := G66 (C66 F66k10 F108t)
theorem K66c10 : FOK Tryz.prog 66 (un 1 F66c10) := fokP (.cons K66k10 (.cons K108t .nil)) .nil hm Tryz.func66 (by kernel_rfl) (D66 F66k10 F108t) (H66 _)
theorem phS10 : stat [] phA10 phV10 phO10 = true := by kernel_rfl
theorem phR10 : runOk (un 1 F66c10 phA10 (mkS []) fun v S => some (v, S)) phV10 phO10 = true := by kernel_rfl
theorem phM10 : FOK Tryz.prog 66 (memoF [] phA10 phV10 phO10) := memo_ok K66c10 phS10 phR10
def phA11 : List V := [.i .i64 11]
def phV11 : V := (.sl (.i (.o .h)) 0 11 11)
def phO11 : List (Pos × List V) := [((.i (.o .h)), [cp1, cp1, cp1, cp1, cp1, cp1, cp1, cp1, cp1, cp1, cp1])]
def F66k11 : Gn 1 := cur 1 (memoO [] phA1 phV1 phO1 (un 1 F66t))
theorem K66k11 : FOK Tryz.prog 66 (un 1 F66k11) := cur_ok 1 (memoO_ok phM1 (by kernel_rfl) (by kernel_rfl) K66t)
def F66c11 : Gn 1 := G66 (C66 F66k11 F108t)
theorem K66c11 : FOK Tryz.prog 66 (un 1 F66c11) := fokP (.cons K66k11 (.cons K108t .nil)) .nil hm Tryz.func66 (by kernel_rfl) (D66 F66k11 F108t) (H66 _)
theorem phS11 : stat [] phA11 phV11 phO11 = true := by kernel_rfl
theorem phR11 : runOk (un 1 F66c11 phA11 (mkS []) fun v S => some (v, S)) phV11 phO11 = true := by kernel_rfl
theorem phM11 : FOK Tryz.prog 66 (memoF [] phA11 phV11 phO11) := memo_ok K66c11 phS11 phR11
def phA12 : List V := [.i .i64 12]
def phV12 : V := (.sl (.i (.o (.o (.o .h)))) 0 5 5)
def phO12 : List (Pos × List V) := [((.i (.o (.o (.o .h)))), [cp1, cz0, cm1, cz0, cp1])]
def F66k12 : Gn 1 := cur 1 (memoO [] phA1 phV1 phO1 (memoO [] phA2 phV2 phO2 (memoO [] phA3 phV3 phO3 (memoO [] phA4 phV4 phO4 (memoO [] phA6 phV6 phO6 (un 1 F66t))))))
theorem K66k12 : FOK Tryz.prog 66 (un 1 F66k12) := cur_ok 1 (memoO_ok phM1 (by kernel_rfl) (by kernel_rfl) (memoO_ok phM2 (by kernel_rfl) (by kernel_rfl) (memoO_ok phM3 (by kernel_rfl) (by kernel_rfl) (memoO_ok phM4 (by kernel_rfl) (by kernel_rfl) (memoO_ok phM6 (by kernel_rfl) (by kernel_rfl) K66t)))))
def F66c12 : Gn 1 := G66 (C66 F66k12 F108t)
theorem K66c12 : FOK Tryz.prog 66 (un 1 F66c12) := fokP (.cons K66k12 (.cons K108t .nil)) .nil hm Tryz.func66 (by kernel_rfl) (D66 F66k12 F108t) (H66 _)
theorem phS12 : stat [] phA12 phV12 phO12 = true := by kernel_rfl
theorem phR12 : runOk (un 1 F66c12 phA12 (mkS []) fun v S => some (v, S)) phV12 phO12 = true := by kernel_rfl
theorem phM12 : FOK Tryz.prog 66 (memoF [] phA12 phV12 phO12) := memo_ok K66c12 phS12 phR12
def phA13 : List V := [.i .i64 13]
def phV13 : V := (.sl (.i (.o .h)) 0 13 13)
def phO13 : List (Pos × List V) := [((.i (.o .h)), [cp1, cp1, cp1, cp1, cp1, cp1, cp1, cp1, cp1, cp1, cp1, cp1, cp1])]
def F66k13 : Gn 1 := cur 1 (memoO [] phA1 phV1 phO1 (un 1 F66t))
theorem K66k13 : FOK Tryz.prog 66 (un 1 F66k13) := cur_ok 1 (memoO_ok phM1 (by kernel_rfl) (by kernel_rfl) K66t)
def F66c13 : Gn 1 := G66 (C66 F66k13 F108t)
theorem K66c13 : FOK Tryz.prog 66 (un 1 F66c13) := fokP (.cons K66k13 (.cons K108t .nil)) .nil hm Tryz.func66 (by kernel_rfl) (D66 F66k13 F108t) (H66 _)
theorem phS13 : stat [] phA13 phV13 phO13 = true := by kernel_rfl
theorem phR13 : runOk (un 1 F66c13 phA13 (mkS []) fun v S => some (v, S)) phV13 phO13 = true := by kernel_rfl
theorem phM13 : FOK Tryz.prog 66 (memoF [] phA13 phV13 phO13) := memo_ok K66c13 phS13 phR13
def phA14 : List V := [.i .i64 14]
def phV14 : V := (.sl (.i (.i (.o .h))) 0 7 7)
def phO14 : List (Pos × List V) := [((.i (.i (.o .h))), [cp1, cm1, cp1, cm1, cp1, cm1, cp1])]
def F66k14 : Gn 1 := cur 1 (memoO [] phA1 phV1 phO1 (memoO [] phA2 phV2 phO2 (memoO [] phA7 phV7 phO7 (un 1 F66t))))
theorem K66k14 : FOK Tryz.prog 66 (un 1 F66k14) := cur_ok 1 (memoO_ok phM1 (by kernel_rfl) (by kernel_rfl) (memoO_ok phM2 (by kernel_rfl) (by kernel_rfl) (memoO_ok phM7 (by kernel_rfl) (by kernel_rfl) K66t)))
def F66c14 : Gn 1 := G66 (C66 F66k14 F108t)
theorem K66c14 : FOK Tryz.prog 66 (un 1 F66c14) := fokP (.cons K66k14 (.cons K108t .nil)) .nil hm Tryz.func66 (by kernel_rfl) (D66 F66k14 F108t) (H66 _)
theorem phS14 : stat [] phA14 phV14 phO14 = true := by kernel_rfl
theorem phR14 : runOk (un 1 F66c14 phA14 (mkS []) fun v S => some (v, S)) phV14 phO14 = true := by kernel_rfl
theorem phM14 : FOK Tryz.prog 66 (memoF [] phA14 phV14 phO14) := memo_ok K66c14 phS14 phR14
def phA15 : List V := [.i .i64 15]
def phV15 : V := (.sl (.i (.i (.o .h))) 0 9 9)
def phO15 : List (Pos × List V) := [((.i (.i (.o .h))), [cp1, cm1, cz0, cp1, cm1, cp1, cz0, cm1, cp1])]
def F66k15 : Gn 1 := cur 1 (memoO [] phA1 phV1 phO1 (memoO [] phA3 phV3 phO3 (memoO [] phA5 phV5 phO5 (un 1 F66t))))
theorem K66k15 : FOK Tryz.prog 66 (un 1 F66k15) := cur_ok 1 (memoO_ok phM1 (by kernel_rfl) (by kernel_rfl) (memoO_ok phM3 (by kernel_rfl) (by kernel_rfl) (memoO_ok phM5 (by kernel_rfl) (by kernel_rfl) K66t)))
def F66c15 : Gn 1 := G66 (C66 F66k15 F108t)
theorem K66c15 : FOK Tryz.prog 66 (un 1 F66c15) := fokP (.cons K66k15 (.cons K108t .nil)) .nil hm Tryz.func66 (by kernel_rfl) (D66 F66k15 F108t) (H66 _)
theorem phS15 : stat [] phA15 phV15 phO15 = true := by kernel_rfl
theorem phR15 : runOk (un 1 F66c15 phA15 (mkS []) fun v S => some (v, S)) phV15 phO15 = true := by kernel_rfl
theorem phM15 : FOK Tryz.prog 66 (memoF [] phA15 phV15 phO15) := memo_ok K66c15 phS15 phR15
def phA16 : List V := [.i .i64 16]
def phV16 : V := (.sl (.o (.i (.i .h))) 0 9 9)
def phO16 : List (Pos × List V) := [((.o (.i (.i .h))), [cp1, cz0, cz0, cz0, cz0, cz0, cz0, cz0, cp1])]
def F66k16 : Gn 1 := cur 1 (memoO [] phA1 phV1 phO1 (memoO [] phA2 phV2 phO2 (memoO [] phA4 phV4 phO4 (memoO [] phA8 phV8 phO8 (un 1 F66t)))))
theorem K66k16 : FOK Tryz.prog 66 (un 1 F66k16) := cur_ok 1 (memoO_ok phM1 (by kernel_rfl) (by kernel_rfl) (memoO_ok phM2 (by kernel_rfl) (by kernel_rfl) (memoO_ok phM4 (by kernel_rfl) (by kernel_rfl) (memoO_ok phM8 (by kernel_rfl) (by kernel_rfl) K66t))))
def F66c16 : Gn 1 := G66 (C66 F66k16 F108t)
theorem K66c16 : FOK Tryz.prog 66 (un 1 F66c16) := fokP (.cons K66k16 (.cons K108t .nil)) .nil hm Tryz.func66 (by kernel_rfl) (D66 F66k16 F108t) (H66 _)
theorem phS16 : stat [] phA16 phV16 phO16 = true := by kernel_rfl
theorem phR16 : runOk (un 1 F66c16 phA16 (mkS []) fun v S => some (v, S)) phV16 phO16 = true := by kernel_rfl
theorem phM16 : FOK Tryz.prog 66 (memoF [] phA16 phV16 phO16) := memo_ok K66c16 phS16 phR16
def phA17 : List V := [.i .i64 17]
def phV17 : V := (.sl (.i (.o .h)) 0 17 17)
def phO17 : List (Pos × List V) := [((.i (.o .h)), [cp1, cp1, cp1, cp1, cp1, cp1, cp1, cp1, cp1, cp1, cp1, cp1, cp1, cp1, cp1, cp1, cp1])]
def F66k17 : Gn 1 := cur 1 (memoO [] phA1 phV1 phO1 (un 1 F66t))
theorem K66k17 : FOK Tryz.prog 66 (un 1 F66k17) := cur_ok 1 (memoO_ok phM1 (by kernel_rfl) (by kernel_rfl) K66t)
def F66c17 : Gn 1 := G66 (C66 F66k17 F108t)
theorem K66c17 : FOK Tryz.prog 66 (un 1 F66c17) := fokP (.cons K66k17 (.cons K108t .nil)) .nil hm Tryz.func66 (by kernel_rfl) (D66 F66k17 F108t) (H66 _)
theorem phS17 : stat [] phA17 phV17 phO17 = true := by kernel_rfl
theorem phR17 : runOk (un 1 F66c17 phA17 (mkS []) fun v S => some (v, S)) phV17 phO17 = true := by kernel_rfl
theorem phM17 : FOK Tryz.prog 66 (memoF [] phA17 phV17 phO17) := memo_ok K66c17 phS17 phR17
def phA18 : List V := [.i .i64 18]
def phV18 : V := (.sl (.i (.o (.o (.o .h)))) 0 7 7)
def phO18 : List (Pos × List V) := [((.i (.o (.o (.o .h)))), [cp1, cz0, cz0, cm1, cz0, cz0, cp1])]
def F66k18 : Gn 1 := cur 1 (memoO [] phA1 phV1 phO1 (memoO [] phA2 phV2 phO2 (memoO [] phA3 phV3 phO3 (memoO [] phA6 phV6 phO6 (memoO [] phA9 phV9 phO9 (un 1 F66t))))))
theorem K66k18 : FOK Tryz.prog 66 (un 1 F66k18) := cur_ok 1 (memoO_ok phM1 (by kernel_rfl) (by kernel_rfl) (memoO_ok phM2 (by kernel_rfl) (by kernel_rfl) (memoO_ok phM3 (by kernel_rfl) (by kernel_rfl) (memoO_ok phM6 (by kernel_rfl) (by kernel_rfl) (memoO_ok phM9 (by kernel_rfl) (by kernel_rfl) K66t)))))
def F66c18 : Gn 1 := G66 (C66 F66k18 F108t)
theorem K66c18 : FOK Tryz.prog 66 (un 1 F66c18) := fokP (.cons K66k18 (.cons K108t .nil)) .nil hm Tryz.func66 (by kernel_rfl) (D66 F66k18 F108t) (H66 _)
theorem phS18 : stat [] phA18 phV18 phO18 = true := by kernel_rfl
theorem phR18 : runOk (un 1 F66c18 phA18 (mkS []) fun v S => some (v, S)) phV18 phO18 = true := by kernel_rfl
theorem phM18 : FOK Tryz.prog 66 (memoF [] phA18 phV18 phO18) := memo_ok K66c18 phS18 phR18
def phA19 : List V := [.i .i64 19]
def phV19 : V := (.sl (.i (.o .h)) 0 19 19)
def phO19 : List (Pos × List V) := [((.i (.o .h)), [cp1, cp1, cp1, cp1, cp1, cp1, cp1, cp1, cp1, cp1, cp1, cp1, cp1, cp1, cp1, cp1, cp1, cp1, cp1])]
def F66k19 : Gn 1 := cur 1 (memoO [] phA1 phV1 phO1 (un 1 F66t))
theorem K66k19 : FOK Tryz.prog 66 (un 1 F66k19) := cur_ok 1 (memoO_ok phM1 (by kernel_rfl) (by kernel_rfl) K66t)
def F66c19 : Gn 1 := G66 (C66 F66k19 F108t)
theorem K66c19 : FOK Tryz.prog 66 (un 1 F66c19) := fokP (.cons K66k19 (.cons K108t .nil)) .nil hm Tryz.func66 (by kernel_rfl) (D66 F66k19 F108t) (H66 _)
theorem phS19 : stat [] phA19 phV19 phO19 = true := by kernel_rfl
theorem phR19 : runOk (un 1 F66c19 phA19 (mkS []) fun v S => some (v, S)) phV19 phO19 = true := by kernel_rfl
theorem phM19 : FOK Tryz.prog 66 (memoF [] phA19 phV19 phO19) := memo_ok K66c19 phS19 phR19
def phA20 : List V := [.i .i64 20]
def phV20 : V := (.sl (.i (.o (.o (.o .h)))) 0 9 9)
def phO20 : List (Pos × List V) := [((.i (.o (.o (.o .h)))), [cp1, cz0, cm1, cz0, cp1, cz0, cm1, cz0, cp1])]
def F66k20 : Gn 1 := cur 1 (memoO [] phA1 phV1 phO1 (memoO [] phA2 phV2 phO2 (memoO [] phA4 phV4 phO4 (memoO [] phA5 phV5 phO5 (memoO [] phA10 phV10 phO10 (un 1 F66t))))))
theorem K66k20 : FOK Tryz.prog 66 (un 1 F66k20) := cur_ok 1 (memoO_ok phM1 (by kernel_rfl) (by kernel_rfl) (memoO_ok phM2 (by kernel_rfl) (by kernel_rfl) (memoO_ok phM4 (by kernel_rfl) (by kernel_rfl) (memoO_ok phM5 (by kernel_rfl) (by kernel_rfl) (memoO_ok phM10 (by kernel_rfl) (by kernel_rfl) K66t)))))
def F66c20 : Gn 1 := G66 (C66 F66k20 F108t)
theorem K66c20 : FOK Tryz.prog 66 (un 1 F66c20) := fokP (.cons K66k20 (.cons K108t .nil)) .nil hm Tryz.func66 (by kernel_rfl) (D66 F66k20 F108t) (H66 _)
theorem phS20 : stat [] phA20 phV20 phO20 = true := by kernel_rfl
theorem phR20 : runOk (un 1 F66c20 phA20 (mkS []) fun v S => some (v, S)) phV20 phO20 = true := by kernel_rfl
theorem phM20 : FOK Tryz.prog 66 (memoF [] phA20 phV20 phO20) := memo_ok K66c20 phS20 phR20
def phA21 : List V := [.i .i64 21]
def phV21 : V := (.sl (.i (.i (.o .h))) 0 13 13)
def phO21 : List (Pos × List V) := [((.i (.i (.o .h))), [cp1, cm1, cz0, cp1, cm1, cz0, cp1, cz0, cm1, cp1, cz0, cm1, cp1])]
def F66k21 : Gn 1 := cur 1 (memoO [] phA1 phV1 phO1 (memoO [] phA3 phV3 phO3 (memoO [] phA7 phV7 phO7 (un 1 F66t))))
theorem K66k21 : FOK Tryz.prog 66 (un 1 F66k21) := cur_ok 1 (memoO_ok phM1 (by kernel_rfl) (by kernel_rfl) (memoO_ok phM3 (by kernel_rfl) (by kernel_rfl) (memoO_ok phM7 (by kernel_rfl) (by kernel_rfl) K66t)))
def F66c21 : Gn 1 := G66 (C66 F66k21 F108t)
theorem K66c21 : FOK Tryz.prog 66 (un 1 F66c21) := fokP (.cons K66k21 (.cons K108t .nil)) .nil hm Tryz.func66 (by kernel_rfl) (D66 F66k21 F108t) (H66 _)
theorem phS21 : stat [] phA21 phV21 phO21 = true := by kernel_rfl
theorem phR21 : runOk (un 1 F66c21 phA21 (mkS []) fun v S => some (v, S)) phV21 phO21 = true := by kernel_rfl
theorem phM21 : FOK Tryz.prog 66 (memoF [] phA21 phV21 phO21) := memo_ok K66c21 phS21 phR21
def phA22 : List V := [.i .i64 22]
def phV22 : V := (.sl (.i (.i (.o .h))) 0 11 11)
def phO22 : List (Pos × List V) := [((.i (.i (.o .h))), [cp1, cm1, cp1, cm1, cp1, cm1, cp1, cm1, cp1, cm1, cp1])]
def F66k22 : Gn 1 := cur 1 (memoO [] phA1 phV1 phO1 (memoO [] phA2 phV2 phO2 (memoO [] phA11 phV11 phO11 (un 1 F66t))))
theorem K66k22 : FOK Tryz.prog 66 (un 1 F66k22) := cur_ok 1 (memoO_ok phM1 (by kernel_rfl) (by kernel_rfl) (memoO_ok phM2 (by kernel_rfl) (by kernel_rfl) (memoO_ok phM11 (by kernel_rfl) (by kernel_rfl) K66t)))
def F66c22 : Gn 1 := G66 (C66 F66k22 F108t)
theorem K66c22 : FOK Tryz.prog 66 (un 1 F66c22) := fokP (.cons K66k22 (.cons K108t .nil)) .nil hm Tryz.func66 (by kernel_rfl) (D66 F66k22 F108t) (H66 _)
theorem phS22 : stat [] phA22 phV22 phO22 = true := by kernel_rfl
theorem phR22 : runOk (un 1 F66c22 phA22 (mkS []) fun v S => some (v, S)) phV22 phO22 = true := by kernel_rfl
theorem phM22 : FOK Tryz.prog 66 (memoF [] phA22 phV22 phO22) := memo_ok K66c22 phS22 phR22
def phA23 : List V := [.i .i64 23]
def phV23 : V := (.sl (.i (.o .h)) 0 23 23)
def phO23 : List (Pos × List V) := [((.i (.o .h)), [cp1, cp1, cp1, cp1, cp1, cp1, cp1, cp1, cp1, cp1, cp1, cp1, cp1, cp1, cp1, cp1, cp1, cp1, cp1, cp1, cp1, cp1, cp1])]
def F66k23 : Gn 1 := cur 1 (memoO [] phA1 phV1 phO1 (un 1 F66t))
theorem K66k23 : FOK Tryz.prog 66 (un 1 F66k23) := cur_ok 1 (memoO_ok phM1 (by kernel_rfl) (by kernel_rfl) K66t)
def F66c23 : Gn 1 := G66 (C66 F66k23 F108t)
theorem K66c23 : FOK Tryz.prog 66 (un 1 F66c23) := fokP (.cons K66k23 (.cons K108t .nil)) .nil hm Tryz.func66 (by kernel_rfl) (D66 F66k23 F108t) (H66 _)
theorem phS23 : stat [] phA23 phV23 phO23 = true := by kernel_rfl
theorem phR23 : runOk (un 1 F66c23 phA23 (mkS []) fun v S => some (v, S)) phV23 phO23 = true := by kernel_rfl
theorem phM23 : FOK Tryz.prog 66 (memoF [] phA23 phV23 phO23) := memo_ok K66c23 phS23 phR23
def phA24 : List V := [.i .i64 24]
def phV24 : V := (.sl (.i (.i (.i (.o .h)))) 0 9 9)
def phO24 : List (Pos × List V) := [((.i (.i (.i (.o .h)))), [cp1, cz0, cz0, cz0, cm1, cz0, cz0, cz0, cp1])]
def F66k24 : Gn 1 := cur 1 (memoO [] phA1 phV1 phO1 (memoO [] phA2 phV2 phO2 (memoO [] phA3 phV3 phO3 (memoO [] phA4 phV4 phO4 (memoO [] phA6 phV6 phO6 (memoO [] phA8 phV8 phO8 (memoO [] phA12 phV12 phO12 (un 1 F66t))))))))
theorem K66k24 : FOK Tryz.prog 66 (un 1 F66k24) := cur_ok 1 (memoO_ok phM1 (by kernel_rfl) (by kernel_rfl) (memoO_ok phM2 (by kernel_rfl) (by kernel_rfl) (memoO_ok phM3 (by kernel_rfl) (by kernel_rfl) (memoO_ok phM4 (by kernel_rfl) (by kernel_rfl) (memoO_ok phM6 (by kernel_rfl) (by kernel_rfl) (memoO_ok phM8 (by kernel_rfl) (by kernel_rfl) (memoO_ok phM12 (by kernel_rfl) (by kernel_rfl) K66t)))))))
def F66c24 : Gn 1 := G66 (C66 F66k24 F108t)
theorem K66c24 : FOK Tryz.prog 66 (un 1 F66c24) := fokP (.cons K66k24 (.cons K108t .nil)) .nil hm Tryz.func66 (by kernel_rfl) (D66 F66k24 F108t) (H66 _)
theorem phS24 : stat [] phA24 phV24 phO24 = true := by kernel_rfl
theorem phR24 : runOk (un 1 F66c24 phA24 (mkS []) fun v S => some (v, S)) phV24 phO24 = true := by kernel_rfl
theorem phM24 : FOK Tryz.prog 66 (memoF [] phA24 phV24 phO24) := memo_ok K66c24 phS24 phR24
def phA25 : List V := [.i .i64 25]
def phV25 : V := (.sl (.o (.o (.o .h))) 0 21 21)
def phO25 : List (Pos × List V) := [((.o (.o (.o .h))), [cp1, cz0, cz0, cz0, cz0, cp1, cz0, cz0, cz0, cz0, cp1, cz0, cz0, cz0, cz0, cp1, cz0, cz0, cz0, cz0, cp1])]
def F66k25 : Gn 1 := cur 1 (memoO [] phA1 phV1 phO1 (memoO [] phA5 phV5 phO5 (un 1 F66t)))
theorem K66k25 : FOK Tryz.prog 66 (un 1 F66k25) := cur_ok 1 (memoO_ok phM1 (by kernel_rfl) (by kernel_rfl) (memoO_ok phM5 (by kernel_rfl) (by kernel_rfl) K66t))
def F66c25 : Gn 1 := G66 (C66 F66k25 F108t)
theorem K66c25 : FOK Tryz.prog 66 (un 1 F66c25) := fokP (.cons K66k25 (.cons K108t .nil)) .nil hm Tryz.func66 (by kernel_rfl) (D66 F66k25 F108t) (H66 _)
theorem phS25 : stat [] phA25 phV25 phO25 = true := by kernel_rfl
theorem phR25 : runOk (un 1 F66c25 phA25 (mkS []) fun v S => some (v, S)) phV25 phO25 = true := by kernel_rfl
theorem phM25 : FOK Tryz.prog 66 (memoF [] phA25 phV25 phO25) := memo_ok K66c25 phS25 phR25
def phA26 : List V := [.i .i64 26]
def phV26 : V := (.sl (.i (.i (.o .h))) 0 13 13)
def phO26 : List (Pos × List V) := [((.i (.i (.o .h))), [cp1, cm1, cp1, cm1, cp1, cm1, cp1, cm1, cp1, cm1, cp1, cm1, cp1])]
def F66k26 : Gn 1 := cur 1 (memoO [] phA1 phV1 phO1 (memoO [] phA2 phV2 phO2 (memoO [] phA13 phV13 phO13 (un 1 F66t))))
theorem K66k26 : FOK Tryz.prog 66 (un 1 F66k26) := cur_ok 1 (memoO_ok phM1 (by kernel_rfl) (by kernel_rfl) (memoO_ok phM2 (by kernel_rfl) (by kernel_rfl) (memoO_ok phM13 (by kernel_rfl) (by kernel_rfl) K66t)))
def F66c26 : Gn 1 := G66 (C66 F66k26 F108t)
theorem K66c26 : FOK Tryz.prog 66 (un 1 F66c26) := fokP (.cons K66k26 (.cons K108t .nil)) .nil hm Tryz.func66 (by kernel_rfl) (D66 F66k26 F108t) (H66 _)
theorem phS26 : stat [] phA26 phV26 phO26 = true := by kernel_rfl
theorem phR26 : runOk (un 1 F66c26 phA26 (mkS []) fun v S => some (v, S)) phV26 phO26 = true := by kernel_rfl
theorem phM26 : FOK Tryz.prog 66 (memoF [] phA26 phV26 phO26) := memo_ok K66c26 phS26 phR26
def phA27 : List V := [.i .i64 27]
def phV27 : V := (.sl (.i (.i (.o .h))) 0 19 19)
def phO27 : List (Pos × List V) := [((.i (.i (.o .h))), [cp1, cz0, cz0, cz0, cz0, cz0, cz0, cz0, cz0, cp1, cz0, cz0, cz0, cz0, cz0, cz0, cz0, cz0, cp1])]
def F66k27 : Gn 1 := cur 1 (memoO [] phA1 phV1 phO1 (memoO [] phA3 phV3 phO3 (memoO [] phA9 phV9 phO9 (un 1 F66t))))
theorem K66k27 : FOK Tryz.prog 66 (un 1 F66k27) := cur_ok 1 (memoO_ok phM1 (by kernel_rfl) (by kernel_rfl) (memoO_ok phM3 (by kernel_rfl) (by kernel_rfl) (memoO_ok phM9 (by kernel_rfl) (by kernel_rfl) K66t)))
def F66c27 : Gn 1 := G66 (C66 F66k27 F108t)
theorem K66c27 : FOK Tryz.prog 66 (un 1 F66c27) := fokP (.cons K66k27 (.cons K108t .nil)) .nil hm Tryz.func66 (by kernel_rfl) (D66 F66k27 F108t) (H66 _)
theorem phS27 : stat [] phA27 phV27 phO27 = true := by kernel_rfl
theorem phR27 : runOk (un 1 F66c27 phA27 (mkS []) fun v S => some (v, S)) phV27 phO27 = true := by kernel_rfl
theorem phM27 : FOK Tryz.prog 66 (memoF [] phA27 phV27 phO27) := memo_ok K66c27 phS27 phR27
def phA28 : List V := [.i .i64 28]
def phV28 : V := (.sl (.i (.o (.o (.o .h)))) 0 13 13)
def phO28 : List (Pos × List V) := [((.i (.o (.o (.o .h)))), [cp1, cz0, cm1, cz0, cp1, cz0, cm1, cz0, cp1, cz0, cm1, cz0, cp1])]
def F66k28 : Gn 1 := cur 1 (memoO [] phA1 phV1 phO1 (memoO [] phA2 phV2 phO2 (memoO [] phA4 phV4 phO4 (memoO [] phA7 phV7 phO7 (memoO [] phA14 phV14 phO14 (un 1 F66t))))))
theorem K66k28 : FOK Tryz.prog 66 (un 1 F66k28) := cur_ok 1 (memoO_ok phM1 (by kernel_rfl) (by kernel_rfl) (memoO_ok phM2 (by kernel_rfl) (by kernel_rfl) (memoO_ok phM4 (by kernel_rfl) (by kernel_rfl) (memoO_ok phM7 (by kernel_rfl) (by kernel_rfl) (memoO_ok phM14 (by kernel_rfl) (by kernel_rfl) K66t)))))
def F66c28 : Gn 1 := G66 (C66 F66k28 F108t)
theorem K66c28 : FOK Tryz.prog 66 (un 1 F66c28) := fokP (.cons K66k28 (.cons K108t .nil)) .nil hm Tryz.func66 (by kernel_rfl) (D66 F66k28 F108t) (H66 _)
theorem phS28 : stat [] phA28 phV28 phO28 = true := by kernel_rfl
theorem phR28 : runOk (un 1 F66c28 phA28 (mkS []) fun v S => some (v, S)) phV28 phO28 = true := by kernel_rfl
theorem phM28 : FOK Tryz.prog 66 (memoF [] phA28 phV28 phO28) := memo_ok K66c28 phS28 phR28
def phA29 : List V := [.i .i64 29]
def phV29 : V := (.sl (.i (.o .h)) 0 29 29)
def phO29 : List (Pos × List V) := [((.i (.o .h)), [cp1, cp1, cp1, cp1, cp1, cp1, cp1, cp1, cp1, cp1, cp1, cp1, cp1, cp1, cp1, cp1, cp1, cp1, cp1, cp1, cp1, cp1, cp1, cp1, cp1, cp1, cp1, cp1, cp1])]
def F66k29 : Gn 1 := cur 1 (memoO [] phA1 phV1 phO1 (un 1 F66t))
theorem K66k29 : FOK Tryz.prog 66 (un 1 F66k29) := cur_ok 1 (memoO_ok phM1 (by kernel_rfl) (by kernel_rfl) K66t)
def F66c29 : Gn 1 := G66 (C66 F66k29 F108t)
theorem K66c29 : FOK Tryz.prog 66 (un 1 F66c29) := fokP (.cons K66k29 (.cons K108t .nil)) .nil hm Tryz.func66 (by kernel_rfl) (D66 F66k29 F108t) (H66 _)
theorem phS29 : stat [] phA29 phV29 phO29 = true := by kernel_rfl
theorem phR29 : runOk (un 1 F66c29 phA29 (mkS []) fun v S => some (v, S)) phV29 phO29 = true := by kernel_rfl
theorem phM29 : FOK Tryz.prog 66 (memoF [] phA29 phV29 phO29) := memo_ok K66c29 phS29 phR29
def phA30 : List V := [.i .i64 30]
def phV30 : V := (.sl (.i (.i (.i (.o .h)))) 0 9 9)
def phO30 : List (Pos × List V) := [((.i (.i (.i (.o .h)))), [cp1, cp1, cz0, cm1, cm1, cm1, cz0, cp1, cp1])]
def F66k30 : Gn 1 := cur 1 (memoO [] phA1 phV1 phO1 (memoO [] phA2 phV2 phO2 (memoO [] phA3 phV3 phO3 (memoO [] phA5 phV5 phO5 (memoO [] phA6 phV6 phO6 (memoO [] phA10 phV10 phO10 (memoO [] phA15 phV15 phO15 (un 1 F66t))))))))
theorem K66k30 : FOK Tryz.prog 66 (un 1 F66k30) := cur_ok 1 (memoO_ok phM1 (by kernel_rfl) (by kernel_rfl) (memoO_ok phM2 (by kernel_rfl) (by kernel_rfl) (memoO_ok phM3 (by kernel_rfl) (by kernel_rfl) (memoO_ok phM5 (by kernel_rfl) (by kernel_rfl) (memoO_ok phM6 (by kernel_rfl) (by kernel_rfl) (memoO_ok phM10 (by kernel_rfl) (by kernel_rfl) (memoO_ok phM15 (by kernel_rfl) (by kernel_rfl) K66t)))))))
def F66c30 : Gn 1 := G66 (C66 F66k30 F108t)
theorem K66c30 : FOK Tryz.prog 66 (un 1 F66c30) := fokP (.cons K66k30 (.cons K108t .nil)) .nil hm Tryz.func66 (by kernel_rfl) (D66 F66k30 F108t) (H66 _)
theorem phS30 : stat [] phA30 phV30 phO30 = true := by kernel_rfl
theorem phR30 : runOk (un 1 F66c30 phA30 (mkS []) fun v S => some (v, S)) phV30 phO30 = true := by kernel_rfl
theorem phM30 : FOK Tryz.prog 66 (memoF [] phA30 phV30 phO30) := memo_ok K66c30 phS30 phR30
def phA31 : List V := [.i .i64 31]
def phV31 : V := (.sl (.i (.o .h)) 0 31 31)
def phO31 : List (Pos × List V) := [((.i (.o .h)), [cp1, cp1, cp1, cp1, cp1, cp1, cp1, cp1, cp1, cp1, cp1, cp1, cp1, cp1, cp1, cp1, cp1, cp1, cp1, cp1, cp1, cp1, cp1, cp1, cp1, cp1, cp1, cp1, cp1, cp1, cp1])]
def F66k31 : Gn 1 := cur 1 (memoO [] phA1 phV1 phO1 (un 1 F66t))
theorem K66k31 : FOK Tryz.prog 66 (un 1 F66k31) := cur_ok 1 (memoO_ok phM1 (by kernel_rfl) (by kernel_rfl) K66t)
def F66c31 : Gn 1 := G66 (C66 F66k31 F108t)
theorem K66c31 : FOK Tryz.prog 66 (un 1 F66c31) := fokP (.cons K66k31 (.cons K108t .nil)) .nil hm Tryz.func66 (by kernel_rfl) (D66 F66k31 F108t) (H66 _)
theorem phS31 : stat [] phA31 phV31 phO31 = true := by kernel_rfl
theorem phR31 : runOk (un 1 F66c31 phA31 (mkS []) fun v S => some (v, S)) phV31 phO31 = true := by kernel_rfl
theorem phM31 : FOK Tryz.prog 66 (memoF [] phA31 phV31 phO31) := memo_ok K66c31 phS31 phR31
def phA32 : List V := [.i .i64 32]
def phV32 : V := (.sl (.i (.o (.o (.o .h)))) 0 17 17)
def phO32 : List (Pos × List V) := [((.i (.o (.o (.o .h)))), [cp1, cz0, cz0, cz0, cz0, cz0, cz0, cz0, cz0, cz0, cz0, cz0, cz0, cz0, cz0, cz0, cp1])]
def F66k32 : Gn 1 := cur 1 (memoO [] phA1 phV1 phO1 (memoO [] phA2 phV2 phO2 (memoO [] phA4 phV4 phO4 (memoO [] phA8 phV8 phO8 (memoO [] phA16 phV16 phO16 (un 1 F66t))))))
theorem K66k32 : FOK Tryz.prog 66 (un 1 F66k32) := cur_ok 1 (memoO_ok phM1 (by kernel_rfl) (by kernel_rfl) (memoO_ok phM2 (by kernel_rfl) (by kernel_rfl) (memoO_ok phM4 (by kernel_rfl) (by kernel_rfl) (memoO_ok phM8 (by kernel_rfl) (by kernel_rfl) (memoO_ok phM16 (by kernel_rfl) (by kernel_rfl) K66t)))))
def F66c32 : Gn 1 := G66 (C66 F66k32 F108t)
theorem K66c32 : FOK Tryz.prog 66 (un 1 F66c32) := fokP (.cons K66k32 (.cons K108t .nil)) .nil hm Tryz.func66 (by kernel_rfl) (D66 F66k32 F108t) (H66 _)
theorem phS32 : stat [] phA32 phV32 phO32 = true := by kernel_rfl
theorem phR32 : runOk (un 1 F66c32 phA32 (mkS []) fun v S => some (v, S)) phV32 phO32 = true := by kernel_rfl
theorem phM32 : FOK Tryz.prog 66 (memoF [] phA32 phV32 phO32) := memo_ok K66c32 phS32 phR32
def phA33 : List V := [.i .i64 33]
def phV33 : V := (.sl (.i (.i (.o .h))) 0 21 21)
def phO33 : List (Pos × List V) := [((.i (.i (.o .h))), [cp1, cm1, cz0, cp1, cm1, cz0, cp1, cm1, cz0, cp1, cm1, cp1, cz0, cm1, cp1, cz0, cm1, cp1, cz0, cm1, cp1])]
def F66k33 : Gn 1 := cur 1 (memoO [] phA1 phV1 phO1 (memoO [] phA3 phV3 phO3 (memoO [] phA11 phV11 phO11 (un 1 F66t))))
theorem K66k33 : FOK Tryz.prog 66 (un 1 F66k33) := cur_ok 1 (memoO_ok phM1 (by kernel_rfl) (by kernel_rfl) (memoO_ok phM3 (by kernel_rfl) (by kernel_rfl) (memoO_ok phM11 (by kernel_rfl) (by kernel_rfl) K66t)))
def F66c33 : Gn 1 := G66 (C66 F66k33 F108t)
theorem K66c33 : FOK Tryz.prog 66 (un 1 F66c33) := fokP (.cons K66k33 (.cons K108t .nil)) .nil hm Tryz.func66 (by kernel_rfl) (D66 F66k33 F108t) (H66 _)
theorem phS33 : stat [] phA33 phV33 phO33 = true := by kernel_rfl
theorem phR33 : runOk (un 1 F66c33 phA33 (mkS []) fun v S => some (v, S)) phV33 phO33 = true := by kernel_rfl
theorem phM33 : FOK Tryz.prog 66 (memoF [] phA33 phV33 phO33) := memo_ok K66c33 phS33 phR33
def phA34 : List V := [.i .i64 34]
def phV34 : V := (.sl (.i (.i (.o .h))) 0 17 17)
def phO34 : List (Pos × List V) := [((.i (.i (.o .h))), [cp1, cm1, cp1, cm1, cp1, cm1, cp1, cm1, cp1, cm1, cp1, cm1, cp1, cm1, cp1, cm1, cp1])]
def F66k34 : Gn 1 := cur 1 (memoO [] phA1 phV1 phO1 (memoO [] phA2 phV2 phO2 (memoO [] phA17 phV17 phO17 (un 1 F66t))))
theorem K66k34 : FOK Tryz.prog 66 (un 1 F66k34) := cur_ok 1 (memoO_ok phM1 (by kernel_rfl) (by kernel_rfl) (memoO_ok phM2 (by kernel_rfl) (by kernel_rfl) (memoO_ok phM17 (by kernel_rfl) (by kernel_rfl) K66t)))
def F66c34 : Gn 1 := G66 (C66 F66k34 F108t)
theorem K66c34 : FOK Tryz.prog 66 (un 1 F66c34) := fokP (.cons K66k34 (.cons K108t .nil)) .nil hm Tryz.func66 (by kernel_rfl) (D66 F66k34 F108t) (H66 _)
theorem phS34 : stat [] phA34 phV34 phO34 = true := by kernel_rfl
theorem phR34 : runOk (un 1 F66c34 phA34 (mkS []) fun v S => some (v, S)) phV34 phO34 = true := by kernel_rfl
theorem phM34 : FOK Tryz.prog 66 (memoF [] phA34 phV34 phO34) := memo_ok K66c34 phS34 phR34
def phA35 : List V := [.i .i64 35]
def phV35 : V := (.sl (.i (.i (.o .h))) 0 25 25)
def phO35 : List (Pos × List V) := [((.i (.i (.o .h))), [cp1, cm1, cz0, cz0, cz0, cp1, cm1, cp1, cm1, cz0, cp1, cm1, cp1, cm1, cp1, cz0, cm1, cp1, cm1, cp1, cz0, cz0, cz0, cm1, cp1])]
def F66k35 : Gn 1 := cur 1 (memoO [] phA1 phV1 phO1 (memoO [] phA5 phV5 phO5 (memoO [] phA7 phV7 phO7 (un 1 F66t))))
theorem K66k35 : FOK Tryz.prog 66 (un 1 F66k35) := cur_ok 1 (memoO_ok phM1 (by kernel_rfl) (by kernel_rfl) (memoO_ok phM5 (by kernel_rfl) (by kernel_rfl) (memoO_ok phM7 (by kernel_rfl) (by kernel_rfl) K66t)))
def F66c35 : Gn 1 := G66 (C66 F66k35 F108t)
theorem K66c35 : FOK Tryz.prog 66 (un 1 F66c35) := fokP (.cons K66k35 (.cons K108t .nil)) .nil hm Tryz.func66 (by kernel_rfl) (D66 F66k35 F108t) (H66 _)
theorem phS35 : stat [] phA35 phV35 phO35 = true := by kernel_rfl
theorem phR35 : runOk (un 1 F66c35 phA35 (mkS []) fun v S => some (v, S)) phV35 phO35 = true := by kernel_rfl
theorem phM35 : FOK Tryz.prog 66 (memoF [] phA35 phV35 phO35) := memo_ok K66c35 phS35 phR35
def phA36 : List V := [.i .i64 36]
def phV36 : V := (.sl (.o (.i (.o (.i .h)))) 0 13 13)
def phO36 : List (Pos × List V) := [((.o (.i (.o (.i .h)))), [cp1, cz0, cz0, cz0, cz0, cz0, cm1, cz0, cz0, cz0, cz0, cz0, cp1])]
def F66k36 : Gn 1 := cur 1 (memoO [] phA1 phV1 phO1 (memoO [] phA2 phV2 phO2 (memoO [] phA3 phV3 phO3 (memoO [] phA4 phV4 phO4 (memoO [] phA6 phV6 phO6 (memoO [] phA9 phV9 phO9 (memoO [] phA12 phV12 phO12 (memoO [] phA18 phV18 phO18 (un 1 F66t)))))))))
theorem K66k36 : FOK Tryz.prog 66 (un 1 F66k36) := cur_ok 1 (memoO_ok phM1 (by kernel_rfl) (by kernel_rfl) (memoO_ok phM2 (by kernel_rfl) (by kernel_rfl) (memoO_ok phM3 (by kernel_rfl) (by kernel_rfl) (memoO_ok phM4 (by kernel_rfl) (by kernel_rfl) (memoO_ok phM6 (by kernel_rfl) (by kernel_rfl) (memoO_ok phM9 (by kernel_rfl) (by kernel_rfl) (memoO_ok phM12 (by kernel_rfl) (by kernel_rfl) (memoO_ok phM18 (by kernel_rfl) (by kernel_rfl) K66t))))))))
def F66c36 : Gn 1 := G66 (C66 F66k36 F108t)
theorem K66c36 : FOK Tryz.prog 66 (un 1 F66c36) := fokP (.cons K66k36 (.cons K108t .nil)) .nil hm Tryz.func66 (by kernel_rfl) (D66 F66k36 F108t) (H66 _)
theorem phS36 : stat [] phA36 phV36 phO36 = true := by kernel_rfl
theorem phR36 : runOk (un 1 F66c36 phA36 (mkS []) fun v S => some (v, S)) phV36 phO36 = true := by kernel_rfl
theorem phM36 : FOK Tryz.prog 66 (memoF [] phA36 phV36 phO36) := memo_ok K66c36 phS36 phR36
def phA37 : List V := [.i .i64 37]
def phV37 : V := (.sl (.i (.o .h)) 0 37 37)
def phO37 : List (Pos × List V) := [((.i (.o .h)), [cp1, cp1, cp1, cp1, cp1, cp1, cp1, cp1, cp1, cp1, cp1, cp1, cp1, cp1, cp1, cp1, cp1, cp1, cp1, cp1, cp1, cp1, cp1, cp1, cp1, cp1, cp1, cp1, cp1, cp1, cp1, cp1, cp1, cp1, cp1, cp1, cp1])]
def F66k37 : Gn 1 := cur 1 (memoO [] phA1 phV1 phO1 (un 1 F66t))
theorem K66k37 : FOK Tryz.prog 66 (un 1 F66k37) := cur_ok 1 (memoO_ok phM1 (by kernel_rfl) (by kernel_rfl) K66t)
def F66c37 : Gn 1 := G66 (C66 F66k37 F108t)
theorem K66c37 : FOK Tryz.prog 66 (un 1 F66c37) := fokP (.cons K66k37 (.cons K108t .nil)) .nil hm Tryz.func66 (by kernel_rfl) (D66 F66k37 F108t) (H66 _)
theorem phS37 : stat [] phA37 phV37 phO37 = true := by kernel_rfl
theorem phR37 : runOk (un 1 F66c37 phA37 (mkS []) fun v S => some (v, S)) phV37 phO37 = true := by kernel_rfl
theorem phM37 : FOK Tryz.prog 66 (memoF [] phA37 phV37 phO37) := memo_ok K66c37 phS37 phR37
def phA38 : List V := [.i .i64 38]
def phV38 : V := (.sl (.i (.i (.o .h))) 0 19 19)
def phO38 : List (Pos × List V) := [((.i (.i (.o .h))), [cp1, cm1, cp1, cm1, cp1, cm1, cp1, cm1, cp1, cm1, cp1, cm1, cp1, cm1, cp1, cm1, cp1, cm1, cp1])]
def F66k38 : Gn 1 := cur 1 (memoO [] phA1 phV1 phO1 (memoO [] phA2 phV2 phO2 (memoO [] phA19 phV19 phO19 (un 1 F66t))))
theorem K66k38 : FOK Tryz.prog 66 (un 1 F66k38) := cur_ok 1 (memoO_ok phM1 (by kernel_rfl) (by kernel_rfl) (memoO_ok phM2 (by kernel_rfl) (by kernel_rfl) (memoO_ok phM19 (by kernel_rfl) (by kernel_rfl) K66t)))
def F66c38 : Gn 1 := G66 (C66 F66k38 F108t)
theorem K66c38 : FOK Tryz.prog 66 (un 1 F66c38) := fokP (.cons K66k38 (.cons K108t .nil)) .nil hm Tryz.func66 (by kernel_rfl) (D66 F66k38 F108t) (H66 _)
theorem phS38 : stat [] phA38 phV38 phO38 = true := by kernel_rfl
theorem phR38 : runOk (un 1 F66c38 phA38 (mkS []) fun v S => some (v, S)) phV38 phO38 = true := by kernel_rfl
theorem phM38 : FOK Tryz.prog 66 (memoF [] phA38 phV38 phO38) := memo_ok K66c38 phS38 phR38
def phA39 : List V := [.i .i64 39]
def phV39 : V := (.sl (.i (.i (.o .h))) 0 25 25)
def phO39 : List (Pos × List V) := [((.i (.i (.o .h))), [cp1, cm1, cz0, cp1, cm1, cz0, cp1, cm1, cz0, cp1, cm1, cz0, cp1, cz0, cm1, cp1, cz0, cm1, cp1, cz0, cm1, cp1, cz0, cm1, cp1])]
def F66k39 : Gn 1 := cur 1 (memoO [] phA1 phV1 phO1 (memoO [] phA3 phV3 phO3 (memoO [] phA13 phV13 phO13 (un 1 F66t))))
theorem K66k39 : FOK Tryz.prog 66 (un 1 F66k39) := cur_ok 1 (memoO_ok phM1 (by kernel_rfl) (by kernel_rfl) (memoO_ok phM3 (by kernel_rfl) (by kernel_rfl) (memoO_ok phM13 (by kernel_rfl) (by kernel_rfl) K66t)))
def F66c39 : Gn 1 := G66 (C66 F66k39 F108t)
theorem K66c39 : FOK Tryz.prog 66 (un 1 F66c39) := fokP (.cons K66k39 (.cons K108t .nil)) .nil hm Tryz.func66 (by kernel_rfl) (D66 F66k39 F108t) (H66 _)
theorem phS39 : stat [] phA39 phV39 phO39 = true := by kernel_rfl
theorem phR39 : runOk (un 1 F66c39 phA39 (mkS []) fun v S => some (v, S)) phV39 phO39 = true := by kernel_rfl
theorem phM39 : FOK Tryz.prog 66 (memoF [] phA39 phV39 phO39) := memo_ok K66c39 phS39 phR39
def phA40 : List V := [.i .i64 40]
def phV40 : V := (.sl (.i (.i (.i (.o .h)))) 0 17 17)
def phO40 : List (Pos × List V) := [((.i (.i (.i (.o .h)))), [cp1, cz0, cz0, cz0, cm1, cz0, cz0, cz0, cp1, cz0, cz0, cz0, cm1, cz0, cz0, cz0, cp1])]
def F66k40 : Gn 1 := cur 1 (memoO [] phA1 phV1 phO1 (memoO [] phA2 phV2 phO2 (memoO [] phA4 phV4 phO4 (memoO [] phA5 phV5 phO5 (memoO [] phA8 phV8 phO8 (memoO [] phA10 phV10 phO10 (memoO [] phA20 phV20 phO20 (un 1 F66t))))))))
theorem K66k40 : FOK Tryz.prog 66 (un 1 F66k40) := cur_ok 1 (memoO_ok phM1 (by kernel_rfl) (by kernel_rfl) (memoO_ok phM2 (by kernel_rfl) (by kernel_rfl) (memoO_ok phM4 (by kernel_rfl) (by kernel_rfl) (memoO_ok phM5 (by kernel_rfl) (by kernel_rfl) (memoO_ok phM8 (by kernel_rfl) (by kernel_rfl) (memoO_ok phM10 (by kernel_rfl) (by kernel_rfl) (memoO_ok phM20 (by kernel_rfl) (by kernel_rfl) K66t)))))))
def F66c40 : Gn 1 := G66 (C66 F66k40 F108t)
theorem K66c40 : FOK Tryz.prog 66 (un 1 F66c40) := fokP (.cons K66k40 (.cons K108t .nil)) .nil hm Tryz.func66 (by kernel_rfl) (D66 F66k40 F108t) (H66 _)
theorem phS40 : stat [] phA40 phV40 phO40 = true := by kernel_rfl
theorem phR40 : runOk (un 1 F66c40 phA40 (mkS []) fun v S => some (v, S)) phV40 phO40 = true := by kernel_rfl
theorem phM40 : FOK Tryz.prog 66 (memoF [] phA40 phV40 phO40) := memo_ok K66c40 phS40 phR40
def phA41 : List V := [.i .i64 41]
def phV41 : V := (.sl (.i (.o .h)) 0 41 41)
def phO41 : List (Pos × List V) := [((.i (.o .h)), [cp1, cp1, cp1, cp1, cp1, cp1, cp1, cp1, cp1, cp1, cp1, cp1, cp1, cp1, cp1, cp1, cp1, cp1, cp1, cp1, cp1, cp1, cp1, cp1, cp1, cp1, cp1, cp1, cp1, cp1, cp1, cp1, cp1, cp1, cp1, cp1, cp1, cp1, cp1, cp1, cp1])]
def F66k41 : Gn 1 := cur 1 (memoO [] phA1 phV1 phO1 (un 1 F66t))
theorem K66k41 : FOK Tryz.prog 66 (un 1 F66k41) := cur_ok 1 (memoO_ok phM1 (by kernel_rfl) (by kernel_rfl) K66t)
def F66c41 : Gn 1 := G66 (C66 F66k41 F108t)
theorem K66c41 : FOK Tryz.prog 66 (un 1 F66c41) := fokP (.cons K66k41 (.cons K108t .nil)) .nil hm Tryz.func66 (by kernel_rfl) (D66 F66k41 F108t) (H66 _)
theorem phS41 : stat [] phA41 phV41 phO41 = true := by kernel_rfl
theorem phR41 : runOk (un 1 F66c41 phA41 (mkS []) fun v S => some (v, S)) phV41 phO41 = true := by kernel_rfl
theorem phM41 : FOK Tryz.prog 66 (memoF [] phA41 phV41 phO41) := memo_ok K66c41 phS41 phR41
def phA42 : List V := [.i .i64 42]
def phV42 : V := (.sl (.i (.i (.i (.o .h)))) 0 13 13)
def phO42 : List (Pos × List V) := [((.i (.i (.i (.o .h)))), [cp1, cp1, cz0, cm1, cm1, cz0, cp1, cz0, cm1, cm1, cz0, cp1, cp1])]
def F66k42 : Gn 1 := cur 1 (memoO [] phA1 phV1 phO1 (memoO [] phA2 phV2 phO2 (memoO [] phA3 phV3 phO3 (memoO [] phA6 phV6 phO6 (memoO [] phA7 phV7 phO7 (memoO [] phA14 phV14 phO14 (memoO [] phA21 phV21 phO21 (un 1 F66t))))))))
theorem K66k42 : FOK Tryz.prog 66 (un 1 F66k42) := cur_ok 1 (memoO_ok phM1 (by kernel_rfl) (by kernel_rfl) (memoO_ok phM2 (by kernel_rfl) (by kernel_rfl) (memoO_ok phM3 (by kernel_rfl) (by kernel_rfl) (memoO_ok phM6 (by kernel_rfl) (by kernel_rfl) (memoO_ok phM7 (by kernel_rfl) (by kernel_rfl) (memoO_ok phM14 (by kernel_rfl) (by kernel_rfl) (memoO_ok phM21 (by kernel_rfl) (by kernel_rfl) K66t)))))))
def F66c42 : Gn 1 := G66 (C66 F66k42 F108t)
theorem K66c42 : FOK Tryz.prog 66 (un 1 F66c42) := fokP (.cons K66k42 (.cons K108t .nil)) .nil hm Tryz.func66 (by kernel_rfl) (D66 F66k42 F108t) (H66 _)
theorem phS42 : stat [] phA42 phV42 phO42 = true := by kernel_rfl
theorem phR42 : runOk (un 1 F66c42 phA42 (mkS []) fun v S => some (v, S)) phV42 phO42 = true := by kernel_rfl
theorem phM42 : FOK Tryz.prog 66 (memoF [] phA42 phV42 phO42) := memo_ok K66c42 phS42 phR42
def phA43 : List V := [.i .i64 43]
def phV43 : V := (.sl (.i (.o .h)) 0 43 43)
def phO43 : List (Pos × List V) := [((.i (.o .h)), [cp1, cp1, cp1, cp1, cp1, cp1, cp1, cp1, cp1, cp1, cp1, cp1, cp1, cp1, cp1, cp1, cp1, cp1, cp1, cp1, cp1, cp1, cp1, cp1, cp1, cp1, cp1, cp1, cp1, cp1, cp1, cp1, cp1, cp1, cp1, cp1, cp1, cp1, cp1, cp1, cp1, cp1, cp1])]
def F66k43 : Gn 1 := cur 1 (memoO [] phA1 phV1 phO1 (un 1 F66t))
theorem K66k43 : FOK Tryz.prog 66 (un 1 F66k43) := cur_ok 1 (memoO_ok phM1 (by kernel_rfl) (by kernel_rfl) K66t)
def F66c43 : Gn 1 := G66 (C66 F66k43 F108t)
theorem K66c43 : FOK Tryz.prog 66 (un 1 F66c43) := fokP (.cons K66k43 (.cons K108t .nil)) .nil hm Tryz.func66 (by kernel_rfl) (D66 F66k43 F108t) (H66 _)
theorem phS43 : stat [] phA43 phV43 phO43 = true := by kernel_rfl
theorem phR43 : runOk (un 1 F66c43 phA43 (mkS []) fun v S => some (v, S)) phV43 phO43 = true := by kernel_rfl
theorem phM43 : FOK Tryz.prog 66 (memoF [] phA43 phV43 phO43) := memo_ok K66c43 phS43 phR43
def phA44 : List V := [.i .i64 44]
def phV44 : V := (.sl (.i (.o (.o (.o .h)))) 0 21 21)
def phO44 : List (Pos × List V) := [((.i (.o (.o (.o .h)))), [cp1, cz0, cm1, cz0, cp1, cz0, cm1, cz0, cp1, cz0, cm1, cz0, cp1, cz0, cm1, cz0, cp1, cz0, cm1, cz0, cp1])]
def F66k44 : Gn 1 := cur 1 (memoO [] phA1 phV1 phO1 (memoO [] phA2 phV2 phO2 (memoO [] phA4 phV4 phO4 (memoO [] phA11 phV11 phO11 (memoO [] phA22 phV22 phO22 (un 1 F66t))))))
theorem K66k44 : FOK Tryz.prog 66 (un 1 F66k44) := cur_ok 1 (memoO_ok phM1 (by kernel_rfl) (by kernel_rfl) (memoO_ok phM2 (by kernel_rfl) (by kernel_rfl) (memoO_ok phM4 (by kernel_rfl) (by kernel_rfl) (memoO_ok phM11 (by kernel_rfl) (by kernel_rfl) (memoO_ok phM22 (by kernel_rfl) (by kernel_rfl) K66t)))))
def F66c44 : Gn 1 := G66 (C66 F66k44 F108t)
theorem K66c44 : FOK Tryz.prog 66 (un 1 F66c44) := fokP (.cons K66k44 (.cons K108t .nil)) .nil hm Tryz.func66 (by kernel_rfl) (D66 F66k44 F108t) (H66 _)
theorem phS44 : stat [] phA44 phV44 phO44 = true := by kernel_rfl
theorem phR44 : runOk (un 1 F66c44 phA44 (mkS []) fun v S => some (v, S)) phV44 phO44 = true := by kernel_rfl
theorem phM44 : FOK Tryz.prog 66 (memoF [] phA44 phV44 phO44) := memo_ok K66c44 phS44 phR44
def phA45 : List V := [.i .i64 45]
def phV45 : V := (.sl (.i (.o (.o (.o .h)))) 0 25 25)
def phO45 : List (Pos × List V) := [((.i (.o (.o (.o .h)))), [cp1, cz0, cz0, cm1, cz0, cz0, cz0, cz0, cz0, cp1, cz0, cz0, cm1, cz0, cz0, cp1, cz0, cz0, cz0, cz0, cz0, cm1, cz0, cz0, cp1])]
def F66k45 : Gn 1 := cur 1 (memoO [] phA1 phV1 phO1 (memoO [] phA3 phV3 phO3 (memoO [] phA5 phV5 phO5 (memoO [] phA9 phV9 phO9 (memoO [] phA15 phV15 phO15 (un 1 F66t))))))
theorem K66k45 : FOK Tryz.prog 66 (un 1 F66k45) := cur_ok 1 (memoO_ok phM1 (by kernel_rfl) (by kernel_rfl) (memoO_ok phM3 (by kernel_rfl) (by kernel_rfl) (memoO_ok phM5 (by kernel_rfl) (by kernel_rfl) (memoO_ok phM9 (by kernel_rfl) (by kernel_rfl) (memoO_ok phM15 (by kernel_rfl) (by kernel_rfl) K66t)))))
def F66c45 : Gn 1 := G66 (C66 F66k45 F108t)
theorem K66c45 : FOK Tryz.prog 66 (un 1 F66c45) := fokP (.cons K66k45 (.cons K108t .nil)) .nil hm Tryz.func66 (by kernel_rfl) (D66 F66k45 F108t) (H66 _)
theorem phS45 : stat [] phA45 phV45 phO45 = true := by kernel_rfl
theorem phR45 : runOk (un 1 F66c45 phA45 (mkS []) fun v S => some (v, S)) phV45 phO45 = true := by kernel_rfl
theorem phM45 : FOK Tryz.prog 66 (memoF [] phA45 phV45 phO45) := memo_ok K66c45 phS45 phR45
def phA46 : List V := [.i .i64 46]
def phV46 : V := (.sl (.i (.i (.o .h))) 0 23 23)
def phO46 : List (Pos × List V) := [((.i (.i (.o .h))), [cp1, cm1, cp1, cm1, cp1, cm1, cp1, cm1, cp1, cm1, cp1, cm1, cp1, cm1, cp1, cm1, cp1, cm1, cp1, cm1, cp1, cm1, cp1])]
def F66k46 : Gn 1 := cur 1 (memoO [] phA1 phV1 phO1 (memoO [] phA2 phV2 phO2 (memoO [] phA23 phV23 phO23 (un 1 F66t))))
theorem K66k46 : FOK Tryz.prog 66 (un 1 F66k46) := cur_ok 1 (memoO_ok phM1 (by kernel_rfl) (by kernel_rfl) (memoO_ok phM2 (by kernel_rfl) (by kernel_rfl) (memoO_ok phM23 (by kernel_rfl) (by kernel_rfl) K66t)))
def F66c46 : Gn 1 := G66 (C66 F66k46 F108t)
theorem K66c46 : FOK Tryz.prog 66 (un 1 F66c46) := fokP (.cons K66k46 (.cons K108t .nil)) .nil hm Tryz.func66 (by kernel_rfl) (D66 F66k46 F108t) (H66 _)
theorem phS46 : stat [] phA46 phV46 phO46 = true := by kernel_rfl
theorem phR46 : runOk (un 1 F66c46 phA46 (mkS []) fun v S => some (v, S)) phV46 phO46 = true := by kernel_rfl
theorem phM46 : FOK Tryz.prog 66 (memoF [] phA46 phV46 phO46) := memo_ok K66c46 phS46 phR46
def phA47 : List V := [.i .i64 47]
def phV47 : V := (.sl (.i (.o .h)) 0 47 47)
def phO47 : List (Pos × List V) := [((.i (.o .h)), [cp1, cp1, cp1, cp1, cp1, cp1, cp1, cp1, cp1, cp1, cp1, cp1, cp1, cp1, cp1, cp1, cp1, cp1, cp1, cp1, cp1, cp1, cp1, cp1, cp1, cp1, cp1, cp1, cp1, cp1, cp1, cp1, cp1, cp1, cp1, cp1, cp1, cp1, cp1, cp1, cp1, cp1, cp1, cp1, cp1, cp1, cp1])]
def F66k47 : Gn 1 := cur 1 (memoO [] phA1 phV1 phO1 (un 1 F66t))
theorem K66k47 : FOK Tryz.prog 66 (un 1 F66k47) := cur_ok 1 (memoO_ok phM1 (by kernel_rfl) (by kernel_rfl) K66t)
def F66c47 : Gn 1 := G66 (C66 F66k47 F108t)
theorem K66c47 : FOK Tryz.prog 66 (un 1 F66c47) := fokP (.cons K66k47 (.cons K108t .nil)) .nil hm Tryz.func66 (by kernel_rfl) (D66 F66k47 F108t) (H66 _)
theorem phS47 : stat [] phA47 phV47 phO47 = true := by kernel_rfl
theorem phR47 : runOk (un 1 F66c47 phA47 (mkS []) fun v S => some (v, S)) phV47 phO47 = true := by kernel_rfl
theorem phM47 : FOK Tryz.prog 66 (memoF [] phA47 phV47 phO47) := memo_ok K66c47 phS47 phR47
def phA48 : List V := [.i .i64 48]
def phV48 : V := (.sl (.i (.o (.i (.i .h)))) 0 17 17)
def phO48 : List (Pos × List V) := [((.i (.o (.i (.i .h)))), [cp1, cz0, cz0, cz0, cz0, cz0, cz0, cz0, cm1, cz0, cz0, cz0, cz0, cz0, cz0, cz0, cp1])]
def F66k48 : Gn 1 := cur 1 (memoO [] phA1 phV1 phO1 (memoO [] phA2 phV2 phO2 (memoO [] phA3 phV3 phO3 (memoO [] phA4 phV4 phO4 (memoO [] phA6 phV6 phO6 (memoO [] phA8 phV8 phO8 (memoO [] phA12 phV12 phO12 (memoO [] phA16 phV16 phO16 (memoO [] phA24 phV24 phO24 (un 1 F66t))))))))))
theorem K66k48 : FOK Tryz.prog 66 (un 1 F66k48) := cur_ok 1 (memoO_ok phM1 (by kernel_rfl) (by kernel_rfl) (memoO_ok phM2 (by kernel_rfl) (by kernel_rfl) (memoO_ok phM3 (by kernel_rfl) (by kernel_rfl) (memoO_ok phM4 (by kernel_rfl) (by kernel_rfl) (memoO_ok phM6 (by kernel_rfl) (by kernel_rfl) (memoO_ok phM8 (by kernel_rfl) (by kernel_rfl) (memoO_ok phM12 (by kernel_rfl) (by kernel_rfl) (memoO_ok phM16 (by kernel_rfl) (by kernel_rfl) (memoO_ok phM24 (by kernel_rfl) (by kernel_rfl) K66t)))))))))
def F66c48 : Gn 1 := G66 (C66 F66k48 F108t)
theorem K66c48 : FOK Tryz.prog 66 (un 1 F66c48) := fokP (.cons K66k48 (.cons K108t .nil)) .nil hm Tryz.func66 (by kernel_rfl) (D66 F66k48 F108t) (H66 _)
theorem phS48 : stat [] phA48 phV48 phO48 = true := by kernel_rfl
theorem phR48 : runOk (un 1 F66c48 phA48 (mkS []) fun v S => some (v, S)) phV48 phO48 = true := by kernel_rfl
theorem phM48 : FOK Tryz.prog 66 (memoF [] phA48 phV48 phO48) := memo_ok K66c48 phS48 phR48
def phA49 : List V := [.i .i64 49]
def phV49 : V := (.sl (.o (.o (.o .h))) 0 43 43)
def phO49 : List (Pos × List V) := [((.o (.o (.o .h))), [cp1, cz0, cz0, cz0, cz0, cz0, cz0, cp1, cz0, cz0, cz0, cz0, cz0, cz0, cp1, cz0, cz0, cz0, cz0, cz0, cz0, cp1, cz0, cz0, cz0, cz0, cz0, cz0, cp1, cz0, cz0, cz0, cz0, cz0, cz0, cp1, cz0, cz0, cz0, cz0, cz0, cz0, cp1])]
def F66k49 : Gn 1 := cur 1 (memoO [] phA1 phV1 phO1 (memoO [] phA7 phV7 phO7 (un 1 F66t)))
theorem K66k49 : FOK Tryz.prog 66 (un 1 F66k49) := cur_ok 1 (memoO_ok phM1 (by kernel_rfl) (by kernel_rfl) (memoO_ok phM7 (by kernel_rfl) (by kernel_rfl) K66t))
def F66c49 : Gn 1 := G66 (C66 F66k49 F108t)
theorem K66c49 : FOK Tryz.prog 66 (un 1 F66c49) := fokP (.cons K66k49 (.cons K108t .nil)) .nil hm Tryz.func66 (by kernel_rfl) (D66 F66k49 F108t) (H66 _)
theorem phS49 : stat [] phA49 phV49 phO49 = true := by kernel_rfl
theorem phR49 : runOk (un 1 F66c49 phA49 (mkS []) fun v S => some (v, S)) phV49 phO49 = true := by kernel_rfl
theorem phM49 : FOK Tryz.prog 66 (memoF [] phA49 phV49 phO49) := memo_ok K66c49 phS49 phR49
def phA50 : List V := [.i .i64 50]
def phV50 : V := (.sl (.i (.o (.o (.o .h)))) 0 21 21)
def phO50 : List (Pos × List V) := [((.i (.o (.o (.o .h)))), [cp1, cz0, cz0, cz0, cz0, cm1, cz0, cz0, cz0, cz0, cp1, cz0, cz0, cz0, cz0, cm1, cz0, cz0, cz0, cz0, cp1])]
def F66k50 : Gn 1 := cur 1 (memoO [] phA1 phV1 phO1 (memoO [] phA2 phV2 phO2 (memoO [] phA5 phV5 phO5 (memoO [] phA10 phV10 phO10 (memoO [] phA25 phV25 phO25 (un 1 F66t))))))
theorem K66k50 : FOK Tryz.prog 66 (un 1 F66k50) := cur_ok 1 (memoO_ok phM1 (by kernel_rfl) (by kernel_rfl) (memoO_ok phM2 (by kernel_rfl) (by kernel_rfl) (memoO_ok phM5 (by kernel_rfl) (by kernel_rfl) (memoO_ok phM10 (by kernel_rfl) (by kernel_rfl) (memoO_ok phM25 (by kernel_rfl) (by kernel_rfl) K66t)))))
def F66c50 : Gn 1 := G66 (C66 F66k50 F108t)
theorem K66c50 : FOK Tryz.prog 66 (un 1 F66c50) := fokP (.cons K66k50 (.cons K108t .nil)) .nil hm Tryz.func66 (by kernel_rfl) (D66 F66k50 F108t) (H66 _)
theorem phS50 : stat [] phA50 phV50 phO50 = true := by kernel_rfl
theorem phR50 : runOk (un 1 F66c50 phA50 (mkS []) fun v S => some (v, S)) phV50 phO50 = true := by kernel_rfl
theorem phM50 : FOK Tryz.prog 66 (memoF [] phA50 phV50 phO50) := memo_ok K66c50 phS50 phR50
def phA51 : List V := [.i .i64 51]
def phV51 : V := (.sl (.i (.i (.o .h))) 0 33 33)
def phO51 : List (Pos × List V) := [((.i (.i (.o .h))), [cp1, cm1, cz0, cp1, cm1, cz0, cp1, cm1, cz0, cp1, cm1, cz0, cp1, cm1, cz0, cp1, cm1, cp1, cz0, cm1, cp1, cz0, cm1, cp1, cz0, cm1, cp1, cz0, cm1, cp1, cz0, cm1, cp1])]
def F66k51 : Gn 1 := cur 1 (memoO [] phA1 phV1 phO1 (memoO [] phA3 phV3 phO3 (memoO [] phA17 phV17 phO17 (un 1 F66t))))
theorem K66k51 : FOK Tryz.prog 66 (un 1 F66k51) := cur_ok 1 (memoO_ok phM1 (by kernel_rfl) (by kernel_rfl) (memoO_ok phM3 (by kernel_rfl) (by kernel_rfl) (memoO_ok phM17 (by kernel_rfl) (by kernel_rfl) K66t)))
def F66c51 : Gn 1 := G66 (C66 F66k51 F108t)
theorem K66c51 : FOK Tryz.prog 66 (un 1 F66c51) := fokP (.cons K66k51 (.cons K108t .nil)) .nil hm Tryz.func66 (by kernel_rfl) (D66 F66k51 F108t) (H66 _)
theorem phS51 : stat [] phA51 phV51 phO51 = true := by kernel_rfl
theorem phR51 : runOk (un 1 F66c51 phA51 (mkS []) fun v S => some (v, S)) phV51 phO51 = true := by kernel_rfl
theorem phM51 : FOK Tryz.prog 66 (memoF [] phA51 phV51 phO51) := memo_ok K66c51 phS51 phR51
def phA52 : List V := [.i .i64 52]
def phV52 : V := (.sl (.i (.o (.o (.o .h)))) 0 25 25)
def phO52 : List (Pos × List V) := [((.i (.o (.o (.o .h)))), [cp1, cz0, cm1, cz0, cp1, cz0, cm1, cz0, cp1, cz0, cm1, cz0, cp1, cz0, cm1, cz0, cp1, cz0, cm1, cz0, cp1, cz0, cm1, cz0, cp1])]
def F66k52 : Gn 1 := cur 1 (memoO [] phA1 phV1 phO1 (memoO [] phA2 phV2 phO2 (memoO [] phA4 phV4 phO4 (memoO [] phA13 phV13 phO13 (memoO [] phA26 phV26 phO26 (un 1 F66t))))))
theorem K66k52 : FOK Tryz.prog 66 (un 1 F66k52) := cur_ok 1 (memoO_ok phM1 (by kernel_rfl) (by kernel_rfl) (memoO_ok phM2 (by kernel_rfl) (by kernel_rfl) (memoO_ok phM4 (by kernel_rfl) (by kernel_rfl) (memoO_ok phM13 (by kernel_rfl) (by kernel_rfl) (memoO_ok phM26 (by kernel_rfl) (by kernel_rfl) K66t)))))
def F66c52 : Gn 1 := G66 (C66 F66k52 F108t)
theorem K66c52 : FOK Tryz.prog 66 (un 1 F66c52) := fokP (.cons K66k52 (.cons K108t .nil)) .nil hm Tryz.func66 (by kernel_rfl) (D66 F66k52 F108t) (H66 _)
theorem phS52 : stat [] phA52 phV52 phO52 = true := by kernel_rfl
theorem phR52 : runOk (un 1 F66c52 phA52 (mkS []) fun v S => some (v, S)) phV52 phO52 = true := by kernel_rfl
theorem phM52 : FOK Tryz.prog 66 (memoF [] phA52 phV52 phO52) := memo_ok K66c52 phS52 phR52
def phA53 : List V := [.i .i64 53]
def phV53 : V := (.sl (.i (.o .h)) 0 53 53)
def phO53 : List (Pos × List V) := [((.i (.o .h)), [cp1, cp1, cp1, cp1, cp1, cp1, cp1, cp1, cp1, cp1, cp1, cp1, cp1, cp1, cp1, cp1, cp1, cp1, cp1, cp1, cp1, cp1, cp1, cp1, cp1, cp1, cp1, cp1, cp1, cp1, cp1, cp1, cp1, cp1, cp1, cp1, cp1, cp1, cp1, cp1, cp1, cp1, cp1, cp1, cp1, cp1, cp1, cp1, cp1, cp1, cp1, cp1, cp1])]
def F66k53 : Gn 1 := cur 1 (memoO [] phA1 phV1 phO1 (un 1 F66t))
theorem K66k53 : FOK Tryz.prog 66 (un 1 F66k53) := cur_ok 1 (memoO_ok phM1 (by kernel_rfl) (by kernel_rfl) K66t)
def F66c53 : Gn 1 := G66 (C66 F66k53 F108t)
theorem K66c53 : FOK Tryz.prog 66 (un 1 F66c53) := fokP (.cons K66k53 (.cons K108t .nil)) .nil hm Tryz.func66 (by kernel_rfl) (D66 F66k53 F108t) (H66 _)
theorem phS53 : stat [] phA53 phV53 phO53 = true := by kernel_rfl
theorem phR53 : runOk (un 1 F66c53 phA53 (mkS []) fun v S => some (v, S)) phV53 phO53 = true := by kernel_rfl
theorem phM53 : FOK Tryz.prog 66 (memoF [] phA53 phV53 phO53) := memo_ok K66c53 phS53 phR53
def phA54 : List V := [.i .i64 54]
def phV54 : V := (.sl (.i (.i (.i (.o .h)))) 0 19 19)
def phO54 : List (Pos × List V) := [((.i (.i (.i (.o .h)))), [cp1, cz0, cz0, cz0, cz0, cz0, cz0, cz0, cz0, cm1, cz0, cz0, cz0, cz0, cz0, cz0, cz0, cz0, cp1])]
def F66k54 : Gn 1 := cur 1 (memoO [] phA1 phV1 phO1 (memoO [] phA2 phV2 phO2 (memoO [] phA3 phV3 phO3 (memoO [] phA6 phV6 phO6 (memoO [] phA9 phV9 phO9 (memoO [] phA18 phV18 phO18 (memoO [] phA27 phV27 phO27 (un 1 F66t))))))))
theorem K66k54 : FOK Tryz.prog 66 (un 1 F66k54) := cur_ok 1 (memoO_ok phM1 (by kernel_rfl) (by kernel_rfl) (memoO_ok phM2 (by kernel_rfl) (by kernel_rfl) (memoO_ok phM3 (by kernel_rfl) (by kernel_rfl) (memoO_ok phM6 (by kernel_rfl) (by kernel_rfl) (memoO_ok phM9 (by kernel_rfl) (by kernel_rfl) (memoO_ok phM18 (by kernel_rfl) (by kernel_rfl) (memoO_ok phM27 (by kernel_rfl) (by kernel_rfl) K66t)))))))
def F66c54 : Gn 1 := G66 (C66 F66k54 F108t)
theorem K66c54 : FOK Tryz.prog 66 (un 1 F66c54) := fokP (.cons K66k54 (.cons K108t .nil)) .nil hm Tryz.func66 (by kernel_rfl) (D66 F66k54 F108t) (H66 _)
theorem phS54 : stat [] phA54 phV54 phO54 = true := by kernel_rfl
theorem phR54 : runOk (un 1 F66c54 phA54 (mkS []) fun v S => some (v, S)) phV54 phO54 = true := by kernel_rfl
theorem phM54 : FOK Tryz.prog 66 (memoF [] phA54 phV54 phO54) := memo_ok K66c54 phS54 phR54
def phA55 : List V := [.i .i64 55]
def phV55 : V := (.sl (.i (.i (.o .h))) 0 41 41)
def phO55 : List (Pos × List V) := [((.i (.i (.o .h))), [cp1, cm1, cz0, cz0, cz0, cp1, cm1, cz0, cz0, cz0, cp1, cz0, cm1, cz0, cz0, cp1, cz0, cm1, cz0, cz0, cp1, cz0, cz0, cm1, cz0, cp1, cz0, cz0, cm1, cz0, cp1, cz0, cz0, cz0, cm1, cp1, cz0, cz0, cz0, cm1, cp1])]
def F66k55 : Gn 1 := cur 1 (memoO [] phA1 phV1 phO1 (memoO [] phA5 phV5 phO5 (memoO [] phA11 phV11 phO11 (un 1 F66t))))
theorem K66k55 : FOK Tryz.prog 66 (un 1 F66k55) := cur_ok 1 (memoO_ok phM1 (by kernel_rfl) (by kernel_rfl) (memoO_ok phM5 (by kernel_rfl) (by kernel_rfl) (memoO_ok phM11 (by kernel_rfl) (by kernel_rfl) K66t)))
def F66c55 : Gn 1 := G66 (C66 F66k55 F108t)
theorem K66c55 : FOK Tryz.prog 66 (un 1 F66c55) := fokP (.cons K66k55 (.cons K108t .nil)) .nil hm Tryz.func66 (by kernel_rfl) (D66 F66k55 F108t) (H66 _)
theorem phS55 : stat [] phA55 phV55 phO55 = true := by kernel_rfl
theorem phR55 : runOk (un 1 F66c55 phA55 (mkS []) fun v S => some (v, S)) phV55 phO55 = true := by kernel_rfl
theorem phM55 : FOK Tryz.prog 66 (memoF [] phA55 phV55 phO55) := memo_ok K66c55 phS55 phR55
def phA56 : List V := [.i .i64 56]
def phV56 : V := (.sl (.i (.i (.i (.o .h)))) 0 25 25)
def phO56 : List (Pos × List V) := [((.i (.i (.i (.o .h)))), [cp1, cz0, cz0, cz0, cm1, cz0, cz0, cz0, cp1, cz0, cz0, cz0, cm1, cz0, cz0, cz0, cp1, cz0, cz0, cz0, cm1, cz0, cz0, cz0, cp1])]
def F66k56 : Gn 1 := cur 1 (memoO [] phA1 phV1 phO1 (memoO [] phA2 phV2 phO2 (memoO [] phA4 phV4 phO4 (memoO [] phA7 phV7 phO7 (memoO [] phA8 phV8 phO8 (memoO [] phA14 phV14 phO14 (memoO [] phA28 phV28 phO28 (un 1 F66t))))))))
theorem K66k56 : FOK Tryz.prog 66 (un 1 F66k56) := cur_ok 1 (memoO_ok phM1 (by kernel_rfl) (by kernel_rfl) (memoO_ok phM2 (by kernel_rfl) (by kernel_rfl) (memoO_ok phM4 (by kernel_rfl) (by kernel_rfl) (memoO_ok phM7 (by kernel_rfl) (by kernel_rfl) (memoO_ok phM8 (by kernel_rfl) (by kernel_rfl) (memoO_ok phM14 (by kernel_rfl) (by kernel_rfl) (memoO_ok phM28 (by kernel_rfl) (by kernel_rfl) K66t)))))))
def F66c56 : Gn 1 := G66 (C66 F66k56 F108t)
theorem K66c56 : FOK Tryz.prog 66 (un 1 F66c56) := fokP (.cons K66k56 (.cons K108t .nil)) .nil hm Tryz.func66 (by kernel_rfl) (D66 F66k56 F108t) (H66 _)
theorem phS56 : stat [] phA56 phV56 phO56 = true := by kernel_rfl
theorem phR56 : runOk (un 1 F66c56 phA56 (mkS []) fun v S => some (v, S)) phV56 phO56 = true := by kernel_rfl
theorem phM56 : FOK Tryz.prog 66 (memoF [] phA56 phV56 phO56) := memo_ok K66c56 phS56 phR56
def phA57 : List V := [.i .i64 57]
def phV57 : V := (.sl (.i (.i (.o .h))) 0 37 37)
def phO57 : List (Pos × List V) := [((.i (.i (.o .h))), [cp1, cm1, cz0, cp1, cm1, cz0, cp1, cm1, cz0, cp1, cm1, cz0, cp1, cm1, cz0, cp1, cm1, cz0, cp1, cz0, cm1, cp1, cz0, cm1, cp1, cz0, cm1, cp1, cz0, cm1, cp1, cz0, cm1, cp1, cz0, cm1, cp1])]
def F66k57 : Gn 1 := cur 1 (memoO [] phA1 phV1 phO1 (memoO [] phA3 phV3 phO3 (memoO [] phA19 phV19 phO19 (un 1 F66t))))
theorem K66k57 : FOK Tryz.prog 66 (un 1 F66k57) := cur_ok 1 (memoO_ok phM1 (by kernel_rfl) (by kernel_rfl) (memoO_ok phM3 (by kernel_rfl) (by kernel_rfl) (memoO_ok phM19 (by kernel_rfl) (by kernel_rfl) K66t)))
def F66c57 : Gn 1 := G66 (C66 F66k57 F108t)
theorem K66c57 : FOK Tryz.prog 66 (un 1 F66c57) := fokP (.cons K66k57 (.cons K108t .nil)) .nil hm Tryz.func66 (by kernel_rfl) (D66 F66k57 F108t) (H66 _)
theorem phS57 : stat [] phA57 phV57 phO57 = true := by kernel_rfl
theorem phR57 : runOk (un 1 F66c57 phA57 (mkS []) fun v S => some (v, S)) phV57 phO57 = true := by kernel_rfl
theorem phM57 : FOK Tryz.prog 66 (memoF [] phA57 phV57 phO57) := memo_ok K66c57 phS57 phR57
def phA58 : List V := [.i .i64 58]
def phV58 : V := (.sl (.i (.i (.o .h))) 0 29 29)
def phO58 : List (Pos × List V) := [((.i (.i (.o .h))), [cp1, cm1, cp1, cm1, cp1, cm1, cp1, cm1, cp1, cm1, cp1, cm1, cp1, cm1, cp1, cm1, cp1, cm1, cp1, cm1, cp1, cm1, cp1, cm1, cp1, cm1, cp1, cm1, cp1])]
def F66k58 : Gn 1 := cur 1 (memoO [] phA1 phV1 phO1 (memoO [] phA2 phV2 phO2 (memoO [] phA29 phV29 phO29 (un 1 F66t))))
theorem K66k58 : FOK Tryz.prog 66 (un 1 F66k58) := cur_ok 1 (memoO_ok phM1 (by kernel_rfl) (by kernel_rfl) (memoO_ok phM2 (by kernel_rfl) (by kernel_rfl) (memoO_ok phM29 (by kernel_rfl) (by kernel_rfl) K66t)))
def F66c58 : Gn 1 := G66 (C66 F66k58 F108t)
theorem K66c58 : FOK Tryz.prog 66 (un 1 F66c58) := fokP (.cons K66k58 (.cons K108t .nil)) .nil hm Tryz.func66 (by kernel_rfl) (D66 F66k58 F108t) (H66 _)
theorem phS58 : stat [] phA58 phV58 phO58 = true := by kernel_rfl
theorem phR58 : runOk (un 1 F66c58 phA58 (mkS []) fun v S => some (v, S)) phV58 phO58 = true := by kernel_rfl
theorem phM58 : FOK Tryz.prog 66 (memoF [] phA58 phV58 phO58) := memo_ok K66c58 phS58 phR58
def phA59 : List V := [.i .i64 59]
def phV59 : V := (.sl (.i (.o .h)) 0 59 59)
def phO59 : List (Pos × List V) := [((.i (.o .h)), [cp1, cp1, cp1, cp1, cp1, cp1, cp1, cp1, cp1, cp1, cp1, cp1, cp1, cp1, cp1, cp1, cp1, cp1, cp1, cp1, cp1, cp1, cp1, cp1, cp1, cp1, cp1, cp1, cp1, cp1, cp1, cp1, cp1, cp1, cp1, cp1, cp1, cp1, cp1, cp1, cp1, cp1, cp1, cp1, cp1, cp1, cp1, cp1, cp1, cp1, cp1, cp1, cp1, cp1, cp1, cp1, cp1, cp1, cp1])]
def F66k59 : Gn 1 := cur 1 (memoO [] phA1 phV1 phO1 (un 1 F66t))
theorem K66k59 : FOK Tryz.prog 66 (un 1 F66k59) := cur_ok 1 (memoO_ok phM1 (by kernel_rfl) (by kernel_rfl) K66t)
def F66c59 : Gn 1 := G66 (C66 F66k59 F108t)
theorem K66c59 : FOK Tryz.prog 66 (un 1 F66c59) := fokP (.cons K66k59 (.cons K108t .nil)) .nil hm Tryz.func66 (by kernel_rfl) (D66 F66k59 F108t) (H66 _)
theorem phS59 : stat [] phA59 phV59 phO59 = true := by kernel_rfl
theorem phR59 : runOk (un 1 F66c59 phA59 (mkS []) fun v S => some (v, S)) phV59 phO59 = true := by kernel_rfl
theorem phM59 : FOK Tryz.prog 66 (memoF [] phA59 phV59 phO59) := memo_ok K66c59 phS59 phR59
def phA60 : List V := [.i .i64 60]
def phV60 : V := (.sl (.i (.i (.o (.o (.o .h))))) 0 17 17)
def phO60 : List (Pos × List V) := [((.i (.i (.o (.o (.o .h))))), [cp1, cz0, cp1, cz0, cz0, cz0, cm1, cz0, cm1, cz0, cm1, cz0, cz0, cz0, cp1, cz0, cp1])]
def F66k60 : Gn 1 := cur 1 (memoO [] phA1 phV1 phO1 (memoO [] phA2 phV2 phO2 (memoO [] phA3 phV3 phO3 (memoO [] phA4 phV4 phO4 (memoO [] phA5 phV5 phO5 (memoO [] phA6 phV6 phO6 (memoO [] phA10 phV10 phO10 (memoO [] phA12 phV12 phO12 (memoO [] phA15 phV15 phO15 (memoO [] phA20 phV20 phO20 (memoO [] phA30 phV30 phO30 (un 1 F66t))))))))))))
theorem K66k60 : FOK Tryz.prog 66 (un 1 F66k60) := cur_ok 1 (memoO_ok phM1 (by kernel_rfl) (by kernel_rfl) (memoO_ok phM2 (by kernel_rfl) (by kernel_rfl) (memoO_ok phM3 (by kernel_rfl) (by kernel_rfl) (memoO_ok phM4 (by kernel_rfl) (by kernel_rfl) (memoO_ok phM5 (by kernel_rfl) (by kernel_rfl) (memoO_ok phM6 (by kernel_rfl) (by kernel_rfl) (memoO_ok phM10 (by kernel_rfl) (by kernel_rfl) (memoO_ok phM12 (by kernel_rfl) (by kernel_rfl) (memoO_ok phM15 (by kernel_rfl) (by kernel_rfl) (memoO_ok phM20 (by kernel_rfl) (by kernel_rfl) (memoO_ok phM30 (by kernel_rfl) (by kernel_rfl) K66t)))))))))))
def F66c60 : Gn 1 := G66 (C66 F66k60 F108t)
theorem K66c60 : FOK Tryz.prog 66 (un 1 F66c60) := fokP (.cons K66k60 (.cons K108t .nil)) .nil hm Tryz.func66 (by kernel_rfl) (D66 F66k60 F108t) (H66 _)
theorem phS60 : stat [] phA60 phV60 phO60 = true := by kernel_rfl
theorem phR60 : runOk (un 1 F66c60 phA60 (mkS []) fun v S => some (v, S)) phV60 phO60 = true := by kernel_rfl
theorem phM60 : FOK Tryz.prog 66 (memoF [] phA60 phV60 phO60) := memo_ok K66c60 phS60 phR60
def phA61 : List V := [.i .i64 61]
def phV61 : V := (.sl (.i (.o .h)) 0 61 61)
def phO61 : List (Pos × List V) := [((.i (.o .h)), [cp1, cp1, cp1, cp1, cp1, cp1, cp1, cp1, cp1, cp1, cp1, cp1, cp1, cp1, cp1, cp1, cp1, cp1, cp1, cp1, cp1, cp1, cp1, cp1, cp1, cp1, cp1, cp1, cp1, cp1, cp1, cp1, cp1, cp1, cp1, cp1, cp1, cp1, cp1, cp1, cp1, cp1, cp1, cp1, cp1, cp1, cp1, cp1, cp1, cp1, cp1, cp1, cp1, cp1, cp1, cp1, cp1, cp1, cp1, cp1, cp1])]
def F66k61 : Gn 1 := cur 1 (memoO [] phA1 phV1 phO1 (un 1 F66t))
theorem K66k61 : FOK Tryz.prog 66 (un 1 F66k61) := cur_ok 1 (memoO_ok phM1 (by kernel_rfl) (by kernel_rfl) K66t)
def F66c61 : Gn 1 := G66 (C66 F66k61 F108t)
theorem K66c61 : FOK Tryz.prog 66 (un 1 F66c61) := fokP (.cons K66k61 (.cons K108t .nil)) .nil hm Tryz.func66 (by kernel_rfl) (D66 F66k61 F108t) (H66 _)
theorem phS61 : stat [] phA61 phV61 phO61 = true := by kernel_rfl
theorem phR61 : runOk (un 1 F66c61 phA61 (mkS []) fun v S => some (v, S)) phV61 phO61 = true := by kernel_rfl
theorem phM61 : FOK Tryz.prog 66 (memoF [] phA61 phV61 phO61) := memo_ok K66c61 phS61 phR61
def phA62 : List V := [.i .i64 62]
def phV62 : V := (.sl (.i (.i (.o .h))) 0 31 31)
def phO62 : List (Pos × List V) := [((.i (.i (.o .h))), [cp1, cm1, cp1, cm1, cp1, cm1, cp1, cm1, cp1, cm1, cp1, cm1, cp1, cm1, cp1, cm1, cp1, cm1, cp1, cm1, cp1, cm1, cp1, cm1, cp1, cm1, cp1, cm1, cp1, cm1, cp1])]
def F66k62 : Gn 1 := cur 1 (memoO [] phA1 phV1 phO1 (memoO [] phA2 phV2 phO2 (memoO [] phA31 phV31 phO31 (un 1 F66t))))
theorem K66k62 : FOK Tryz.prog 66 (un 1 F66k62) := cur_ok 1 (memoO_ok phM1 (by kernel_rfl) (by kernel_rfl) (memoO_ok phM2 (by kernel_rfl) (by kernel_rfl) (memoO_ok phM31 (by kernel_rfl) (by kernel_rfl) K66t)))
def F66c62 : Gn 1 := G66 (C66 F66k62 F108t)
theorem K66c62 : FOK Tryz.prog 66 (un 1 F66c62) := fokP (.cons K66k62 (.cons K108t .nil)) .nil hm Tryz.func66 (by kernel_rfl) (D66 F66k62 F108t) (H66 _)
theorem phS62 : stat [] phA62 phV62 phO62 = true := by kernel_rfl
theorem phR62 : runOk (un 1 F66c62 phA62 (mkS []) fun v S => some (v, S)) phV62 phO62 = true := by kernel_rfl
theorem phM62 : FOK Tryz.prog 66 (memoF [] phA62 phV62 phO62) := memo_ok K66c62 phS62 phR62
def phA63 : List V := [.i .i64 63]
def phV63 : V := (.sl (.i (.o (.o (.o .h)))) 0 37 37)
def phO63 : List (Pos × List V) := [((.i (.o (.o (.o .h)))), [cp1, cz0, cz0, cm1, cz0, cz0, cz0, cz0, cz0, cp1, cz0, cz0, cm1, cz0, cz0, cz0, cz0, cz0, cp1, cz0, cz0, cz0, cz0, cz0, cm1, cz0, cz0, cp1, cz0, cz0, cz0, cz0, cz0, cm1, cz0, cz0, cp1])]
def F66k63 : Gn 1 := cur 1 (memoO [] phA1 phV1 phO1 (memoO [] phA3 phV3 phO3 (memoO [] phA7 phV7 phO7 (memoO [] phA9 phV9 phO9 (memoO [] phA21 phV21 phO21 (un 1 F66t))))))
theorem K66k63 : FOK Tryz.prog 66 (un 1 F66k63) := cur_ok 1 (memoO_ok phM1 (by kernel_rfl) (by kernel_rfl) (memoO_ok phM3 (by kernel_rfl) (by kernel_rfl) (memoO_ok phM7 (by kernel_rfl) (by kernel_rfl) (memoO_ok phM9 (by kernel_rfl) (by kernel_rfl) (memoO_ok phM21 (by kernel_rfl) (by kernel_rfl) K66t)))))
def F66c63 : Gn 1 := G66 (C66 F66k63 F108t)
theorem K66c63 : FOK Tryz.prog 66 (un 1 F66c63) := fokP (.cons K66k63 (.cons K108t .nil)) .nil hm Tryz.func66 (by kernel_rfl) (D66 F66k63 F108t) (H66 _)
theorem phS63 : stat [] phA63 phV63 phO63 = true := by kernel_rfl
theorem phR63 : runOk (un 1 F66c63 phA63 (mkS []) fun v S => some (v, S)) phV63 phO63 = true := by kernel_rfl
theorem phM63 : FOK Tryz.prog 66 (memoF [] phA63 phV63 phO63) := memo_ok K66c63 phS63 phR63
def phA64 : List V := [.i .i64 64]
def phV64 : V := (.sl (.o (.o (.i (.o .h)))) 0 33 33)
def phO64 : List (Pos × List V) := [((.o (.o (.i (.o .h)))), [cp1, cz0, cz0, cz0, cz0, cz0, cz0, cz0, cz0, cz0, cz0, cz0, cz0, cz0, cz0, cz0, cz0, cz0, cz0, cz0, cz0, cz0, cz0, cz0, cz0, cz0, cz0, cz0, cz0, cz0, cz0, cz0, cp1])]
def F66k64 : Gn 1 := cur 1 (memoO [] phA1 phV1 phO1 (memoO [] phA2 phV2 phO2 (memoO [] phA4 phV4 phO4 (memoO [] phA8 phV8 phO8 (memoO [] phA16 phV16 phO16 (memoO [] phA32 phV32 phO32 (un 1 F66t)))))))
theorem K66k64 : FOK Tryz.prog 66 (un 1 F66k64) := cur_ok 1 (memoO_ok phM1 (by kernel_rfl) (by kernel_rfl) (memoO_ok phM2 (by kernel_rfl) (by kernel_rfl) (memoO_ok phM4 (by kernel_rfl) (by kernel_rfl) (memoO_ok phM8 (by kernel_rfl) (by kernel_rfl) (memoO_ok phM16 (by kernel_rfl) (by kernel_rfl) (memoO_ok phM32 (by kernel_rfl) (by kernel_rfl) K66t))))))
def F66c64 : Gn 1 := G66 (C66 F66k64 F108t)
theorem K66c64 : FOK Tryz.prog 66 (un 1 F66c64) := fokP (.cons K66k64 (.cons K108t .nil)) .nil hm Tryz.func66 (by kernel_rfl) (D66 F66k64 F108t) (H66 _)
theorem phS64 : stat [] phA64 phV64 phO64 = true := by kernel_rfl
theorem phR64 : runOk (un 1 F66c64 phA64 (mkS []) fun v S => some (v, S)) phV64 phO64 = true := by kernel_rfl
theorem phM64 : FOK Tryz.prog 66 (memoF [] phA64 phV64 phO64) := memo_ok K66c64 phS64 phR64
def phA65 : List V := [.i .i64 65]
def phV65 : V := (.sl (.i (.i (.o .h))) 0 49 49)
def phO65 : List (Pos × List V) := [((.i (.i (.o .h))), [cp1, cm1, cz0, cz0, cz0, cp1, cm1, cz0, cz0, cz0, cp1, cm1, cz0, cp1, cm1, cp1, cm1, cz0, cp1, cm1, cp1, cm1, cz0, cp1, cm1, cp1, cz0, cm1, cp1, cm1, cp1, cz0, cm1, cp1, cm1, cp1, cz0, cm1, cp1, cz0, cz0, cz0, cm1, cp1, cz0, cz0, cz0, cm1, cp1])]
def F66k65 : Gn 1 := cur 1 (memoO [] phA1 phV1 phO1 (memoO [] phA5 phV5 phO5 (memoO [] phA13 phV13 phO13 (un 1 F66t))))
theorem K66k65 : FOK Tryz.prog 66 (un 1 F66k65) := cur_ok 1 (memoO_ok phM1 (by kernel_rfl) (by kernel_rfl) (memoO_ok phM5 (by kernel_rfl) (by kernel_rfl) (memoO_ok phM13 (by kernel_rfl) (by kernel_rfl) K66t)))
def F66c65 : Gn 1 := G66 (C66 F66k65 F108t)
theorem K66c65 : FOK Tryz.prog 66 (un 1 F66c65) := fokP (.cons K66k65 (.cons K108t .nil)) .nil hm Tryz.func66 (by kernel_rfl) (D66 F66k65 F108t) (H66 _)
theorem phS65 : stat [] phA65 phV65 phO65 = true := by kernel_rfl
theorem phR65 : runOk (un 1 F66c65 phA65 (mkS []) fun v S => some (v, S)) phV65 phO65 = true := by kernel_rfl
theorem phM65 : FOK Tryz.prog 66 (memoF [] phA65 phV65 phO65) := memo_ok K66c65 phS65 phR65
def phA66 : List V := [.i .i64 66]
def phV66 : V := (.sl (.i (.i (.i (.o .h)))) 0 21 21)
def phO66 : List (Pos × List V) := [((.i (.i (.i (.o .h)))), [cp1, cp1, cz0, cm1, cm1, cz0, cp1, cp1, cz0, cm1, cm1, cm1, cz0, cp1, cp1, cz0, cm1, cm1, cz0, cp1, cp1])]
def F66k66 : Gn 1 := cur 1 (memoO [] phA1 phV1 phO1 (memoO [] phA2 phV2 phO2 (memoO [] phA3 phV3 phO3 (memoO [] phA6 phV6 phO6 (memoO [] phA11 phV11 phO11 (memoO [] phA22 phV22 phO22 (memoO [] phA33 phV33 phO33 (un 1 F66t))))))))
theorem K66k66 : FOK Tryz.prog 66 (un 1 F66k66) := cur_ok 1 (memoO_ok phM1 (by kernel_rfl) (by kernel_rfl) (memoO_ok phM2 (by kernel_rfl) (by kernel_rfl) (memoO_ok phM3 (by kernel_rfl) (by kernel_rfl) (memoO_ok phM6 (by kernel_rfl) (by kernel_rfl) (memoO_ok phM11 (by kernel_rfl) (by kernel_rfl) (memoO_ok phM22 (by kernel_rfl) (by kernel_rfl) (memoO_ok phM33 (by kernel_rfl) (by kernel_rfl) K66t)))))))
def F66c66 : Gn 1 := G66 (C66 F66k66 F108t)
theorem K66c66 : FOK Tryz.prog 66 (un 1 F66c66) := fokP (.cons K66k66 (.cons K108t .nil)) .nil hm Tryz.func66 (by kernel_rfl) (D66 F66k66 F108t) (H66 _)
theorem phS66 : stat [] phA66 phV66 phO66 = true := by kernel_rfl
theorem phR66 : runOk (un 1 F66c66 phA66 (mkS []) fun v S => some (v, S)) phV66 phO66 = true := by kernel_rfl
theorem phM66 : FOK Tryz.prog 66 (memoF [] phA66 phV66 phO66) := memo_ok K66c66 phS66 phR66
def phA68 : List V := [.i .i64 68]
def phV68 : V := (.sl (.i (.o (.o (.o .h)))) 0 33 33)
def phO68 : List (Pos × List V) := [((.i (.o (.o (.o .h)))), [cp1, cz0, cm1, cz0, cp1, cz0, cm1, cz0, cp1, cz0, cm1, cz0, cp1, cz0, cm1, cz0, cp1, cz0, cm1, cz0, cp1, cz0, cm1, cz0, cp1, cz0, cm1, cz0, cp1, cz0, cm1, cz0, cp1])]
def F66k68 : Gn 1 := cur 1 (memoO [] phA1 phV1 phO1 (memoO [] phA2 phV2 phO2 (memoO [] phA4 phV4 phO4 (memoO [] phA17 phV17 phO17 (memoO [] phA34 phV34 phO34 (un 1 F66t))))))
theorem K66k68 : FOK Tryz.prog 66 (un 1 F66k68) := cur_ok 1 (memoO_ok phM1 (by kernel_rfl) (by kernel_rfl) (memoO_ok phM2 (by kernel_rfl) (by kernel_rfl) (memoO_ok phM4 (by kernel_rfl) (by kernel_rfl) (memoO_ok phM17 (by kernel_rfl) (by kernel_rfl) (memoO_ok phM34 (by kernel_rfl) (by kernel_rfl) K66t)))))
def F66c68 : Gn 1 := G66 (C66 F66k68 F108t)
theorem K66c68 : FOK Tryz.prog 66 (un 1 F66c68) := fokP (.cons K66k68 (.cons K108t .nil)) .nil hm Tryz.func66 (by kernel_rfl) (D66 F66k68 F108t) (H66 _)
theorem phS68 : stat [] phA68 phV68 phO68 = true := by kernel_rfl
theorem phR68 : runOk (un 1 F66c68 phA68 (mkS []) fun v S => some (v, S)) phV68 phO68 = true := by kernel_rfl
theorem phM68 : FOK Tryz.prog 66 (memoF [] phA68 phV68 phO68) := memo_ok K66c68 phS68 phR68
def phA69 : List V := [.i .i64 69]
def phV69 : V := (.sl (.i (.i (.o .h))) 0 45 45)
def phO69 : List (Pos × List V) := [((.i (.i (.o .h))), [cp1, cm1, cz0, cp1, cm1, cz0, cp1, cm1, cz0, cp1, cm1, cz0, cp1, cm1, cz0, cp1, cm1, cz0, cp1, cm1, cz0, cp1, cm1, cp1, cz0, cm1, cp1, cz0, cm1, cp1, cz0, cm1, cp1, cz0, cm1, cp1, cz0, cm1, cp1, cz0, cm1, cp1, cz0, cm1, cp1])]
def F66k69 : Gn 1 := cur 1 (memoO [] phA1 phV1 phO1 (memoO [] phA3 phV3 phO3 (memoO [] phA23 phV23 phO23 (un 1 F66t))))
theorem K66k69 : FOK Tryz.prog 66 (un 1 F66k69) := cur_ok 1 (memoO_ok phM1 (by kernel_rfl) (by kernel_rfl) (memoO_ok phM3 (by kernel_rfl) (by kernel_rfl) (memoO_ok phM23 (by kernel_rfl) (by kernel_rfl) K66t)))
def F66c69 : Gn 1 := G66 (C66 F66k69 F108t)
theorem K66c69 : FOK Tryz.prog 66 (un 1 F66c69) := fokP (.cons K66k69 (.cons K108t .nil)) .nil hm Tryz.func66 (by kernel_rfl) (D66 F66k69 F108t) (H66 _)
theorem phS69 : stat [] phA69 phV69 phO69 = true := by kernel_rfl
theorem phR69 : runOk (un 1 F66c69 phA69 (mkS []) fun v S => some (v, S)) phV69 phO69 = true := by kernel_rfl
theorem phM69 : FOK Tryz.prog 66 (memoF [] phA69 phV69 phO69) := memo_ok K66c69 phS69 phR69
def phA70 : List V := [.i .i64 70]
def phV70 : V := (.sl (.i (.i (.i (.o .h)))) 0 25 25)
def phO70 : List (Pos × List V) := [((.i (.i (.i (.o .h)))), [cp1, cp1, cz0, cz0, cz0, cm1, cm1, cm1, cm1, cz0, cp1, cp1, cp1, cp1, cp1, cz0, cm1, cm1, cm1, cm1, cz0, cz0, cz0, cp1, cp1])]
def F66k70 : Gn 1 := cur 1 (memoO [] phA1 phV1 phO1 (memoO [] phA2 phV2 phO2 (memoO [] phA5 phV5 phO5 (memoO [] phA7 phV7 phO7 (memoO [] phA10 phV10 phO10 (memoO [] phA14 phV14 phO14 (memoO [] phA35 phV35 phO35 (un 1 F66t))))))))
theorem K66k70 : FOK Tryz.prog 66 (un 1 F66k70) := cur_ok 1 (memoO_ok phM1 (by kernel_rfl) (by kernel_rfl) (memoO_ok phM2 (by kernel_rfl) (by kernel_rfl) (memoO_ok phM5 (by kernel_rfl) (by kernel_rfl) (memoO_ok phM7 (by kernel_rfl) (by kernel_rfl) (memoO_ok phM10 (by kernel_rfl) (by kernel_rfl) (memoO_ok phM14 (by kernel_rfl) (by kernel_rfl) (memoO_ok phM35 (by kernel_rfl) (by kernel_rfl) K66t)))))))
def F66c70 : Gn 1 := G66 (C66 F66k70 F108t)
theorem K66c70 : FOK Tryz.prog 66 (un 1 F66c70) := fokP (.cons K66k70 (.cons K108t .nil)) .nil hm Tryz.func66 (by kernel_rfl) (D66 F66k70 F108t) (H66 _)
theorem phS70 : stat [] phA70 phV70 phO70 = true := by kernel_rfl
theorem phR70 : runOk (un 1 F66c70 phA70 (mkS []) fun v S => some (v, S)) phV70 phO70 = true := by kernel_rfl
theorem phM70 : FOK Tryz.prog 66 (memoF [] phA70 phV70 phO70) := memo_ok K66c70 phS70 phR70
def phA72 : List V := [.i .i64 72]
def phV72 : V := (.sl (.i (.i (.o (.o (.o .h))))) 0 25 25)
def phO72 : List (Pos × List V) := [((.i (.i (.o (.o (.o .h))))), [cp1, cz0, cz0, cz0, cz0, cz0, cz0, cz0, cz0, cz0, cz0, cz0, cm1, cz0, cz0, cz0, cz0, cz0, cz0, cz0, cz0, cz0, cz0, cz0, cp1])]
def F66k72 : Gn 1 := cur 1 (memoO [] phA1 phV1 phO1 (memoO [] phA2 phV2 phO2 (memoO [] phA3 phV3 phO3 (memoO [] phA4 phV4 phO4 (memoO [] phA6 phV6 phO6 (memoO [] phA8 phV8 phO8 (memoO [] phA9 phV9 phO9 (memoO [] phA12 phV12 phO12 (memoO [] phA18 phV18 phO18 (memoO [] phA24 phV24 phO24 (memoO [] phA36 phV36 phO36 (un 1 F66t))))))))))))
theorem K66k72 : FOK Tryz.prog 66 (un 1 F66k72) := cur_ok 1 (memoO_ok phM1 (by kernel_rfl) (by kernel_rfl) (memoO_ok phM2 (by kernel_rfl) (by kernel_rfl) (memoO_ok phM3 (by kernel_rfl) (by kernel_rfl) (memoO_ok phM4 (by kernel_rfl) (by kernel_rfl) (memoO_ok phM6 (by kernel_rfl) (by kernel_rfl) (memoO_ok phM8 (by kernel_rfl) (by kernel_rfl) (memoO_ok phM9 (by kernel_rfl) (by kernel_rfl) (memoO_ok phM12 (by kernel_rfl) (by kernel_rfl) (memoO_ok phM18 (by kernel_rfl) (by kernel_rfl) (memoO_ok phM24 (by kernel_rfl) (by kernel_rfl) (memoO_ok phM36 (by kernel_rfl) (by kernel_rfl) K66t)))))))))))
def F66c72 : Gn 1 := G66 (C66 F66k72 F108t)
theorem K66c72 : FOK Tryz.prog 66 (un 1 F66c72) := fokP (.cons K66k72 (.cons K108t .nil)) .nil hm Tryz.func66 (by kernel_rfl) (D66 F66k72 F108t) (H66 _)
theorem phS72 : stat [] phA72 phV72 phO72 = true := by kernel_rfl
theorem phR72 : runOk (un 1 F66c72 phA72 (mkS []) fun v S => some (v, S)) phV72 phO72 = true := by kernel_rfl
theorem phM72 : FOK Tryz.prog 66 (memoF [] phA72 phV72 phO72) := memo_ok K66c72 phS72 phR72
def phA74 : List V := [.i .i64 74]
def phV74 : V := (.sl (.i (.i (.o .h))) 0 37 37)
def phO74 : List (Pos × List V) := [((.i (.i (.o .h))), [cp1, cm1, cp1, cm1, cp1, cm1, cp1, cm1, cp1, cm1, cp1, cm1, cp1, cm1, cp1, cm1, cp1, cm1, cp1, cm1, cp1, cm1, cp1, cm1, cp1, cm1, cp1, cm1, cp1, cm1, cp1, cm1, cp1, cm1, cp1, cm1, cp1])]
def F66k74 : Gn 1 := cur 1 (memoO [] phA1 phV1 phO1 (memoO [] phA2 phV2 phO2 (memoO [] phA37 phV37 phO37 (un 1 F66t))))
theorem K66k74 : FOK Tryz.prog 66 (un 1 F66k74) := cur_ok 1 (memoO_ok phM1 (by kernel_rfl) (by kernel_rfl) (memoO_ok phM2 (by kernel_rfl) (by kernel_rfl) (memoO_ok phM37 (by kernel_rfl) (by kernel_rfl) K66t)))
def F66c74 : Gn 1 := G66 (C66 F66k74 F108t)
theorem K66c74 : FOK Tryz.prog 66 (un 1 F66c74) := fokP (.cons K66k74 (.cons K108t .nil)) .nil hm Tryz.func66 (by kernel_rfl) (D66 F66k74 F108t) (H66 _)
theorem phS74 : stat [] phA74 phV74 phO74 = true := by kernel_rfl
theorem phR74 : runOk (un 1 F66c74 phA74 (mkS []) fun v S => some (v, S)) phV74 phO74 = true := by kernel_rfl
theorem phM74 : FOK Tryz.prog 66 (memoF [] phA74 phV74 phO74) := memo_ok K66c74 phS74 phR74
def phA75 : List V := [.i .i64 75]
def phV75 : V := (.sl (.i (.o (.o (.o .h)))) 0 41 41)
def phO75 : List (Pos × List V) := [((.i (.o (.o (.o .h)))), [cp1, cz0, cz0, cz0, cz0, cm1, cz0, cz0, cz0, cz0, cz0, cz0, cz0, cz0, cz0, cp1, cz0, cz0, cz0, cz0, cm1, cz0, cz0, cz0, cz0, cp1, cz0, cz0, cz0, cz0, cz0, cz0, cz0, cz0, cz0, cm1, cz0, cz0, cz0, cz0, cp1])]
def F66k75 : Gn 1 := cur 1 (memoO [] phA1 phV1 phO1 (memoO [] phA3 phV3 phO3 (memoO [] phA5 phV5 phO5 (memoO [] phA15 phV15 phO15 (memoO [] phA25 phV25 phO25 (un 1 F66t))))))
theorem K66k75 : FOK Tryz.prog 66 (un 1 F66k75) := cur_ok 1 (memoO_ok phM1 (by kernel_rfl) (by kernel_rfl) (memoO_ok phM3 (by kernel_rfl) (by kernel_rfl) (memoO_ok phM5 (by kernel_rfl) (by kernel_rfl) (memoO_ok phM15 (by kernel_rfl) (by kernel_rfl) (memoO_ok phM25 (by kernel_rfl) (by kernel_rfl) K66t)))))
def F66c75 : Gn 1 := G66 (C66 F66k75 F108t)
theorem K66c75 : FOK Tryz.prog 66 (un 1 F66c75) := fokP (.cons K66k75 (.cons K108t .nil)) .nil hm Tryz.func66 (by kernel_rfl) (D66 F66k75 F108t) (H66 _)
theorem phS75 : stat [] phA75 phV75 phO75 = true := by kernel_rfl
theorem phR75 : runOk (un 1 F66c75 phA75 (mkS []) fun v S => some (v, S)) phV75 phO75 = true := by kernel_rfl
theorem phM75 : FOK Tryz.prog 66 (memoF [] phA75 phV75 phO75) := memo_ok K66c75 phS75 phR75
def phA76 : List V := [.i .i64 76]
def phV76 : V := (.sl (.i (.o (.o (.o .h)))) 0 37 37)
def phO76 : List (Pos × List V) := [((.i (.o (.o (.o .h)))), [cp1, cz0, cm1, cz0, cp1, cz0, cm1, cz0, cp1, cz0, cm1, cz0, cp1, cz0, cm1, cz0, cp1, cz0, cm1, cz0, cp1, cz0, cm1, cz0, cp1, cz0, cm1, cz0, cp1, cz0, cm1, cz0, cp1, cz0, cm1, cz0, cp1])]
def F66k76 : Gn 1 := cur 1 (memoO [] phA1 phV1 phO1 (memoO [] phA2 phV2 phO2 (memoO [] phA4 phV4 phO4 (memoO [] phA19 phV19 phO19 (memoO [] phA38 phV38 phO38 (un 1 F66t))))))
theorem K66k76 : FOK Tryz.prog 66 (un 1 F66k76) := cur_ok 1 (memoO_ok phM1 (by kernel_rfl) (by kernel_rfl) (memoO_ok phM2 (by kernel_rfl) (by kernel_rfl) (memoO_ok phM4 (by kernel_rfl) (by kernel_rfl) (memoO_ok phM19 (by kernel_rfl) (by kernel_rfl) (memoO_ok phM38 (by kernel_rfl) (by kernel_rfl) K66t)))))
def F66c76 : Gn 1 := G66 (C66 F66k76 F108t)
theorem K66c76 : FOK Tryz.prog 66 (un 1 F66c76) := fokP (.cons K66k76 (.cons K108t .nil)) .nil hm Tryz.func66 (by kernel_rfl) (D66 F66k76 F108t) (H66 _)
theorem phS76 : stat [] phA76 phV76 phO76 = true := by kernel_rfl
theorem phR76 : runOk (un 1 F66c76 phA76 (mkS []) fun v S => some (v, S)) phV76 phO76 = true := by kernel_rfl
theorem phM76 : FOK Tryz.prog 66 (memoF [] phA76 phV76 phO76) := memo_ok K66c76 phS76 phR76
def phA77 : List V := [.i .i64 77]
def phV77 : V := (.sl (.i (.i (.o .h))) 0 61 61)
def phO77 : List (Pos × List V) := [((.i (.i (.o .h))), [cp1, cm1, cz0, cz0, cz0, cz0, cz0, cp1, cm1, cz0, cz0, cp1, cm1, cz0, cp1, cm1, cz0, cz0, cp1, cm1, cz0, cp1, cz0, cm1, cz0, cp1, cm1, cz0, cp1, cz0, cm1, cz0, cp1, cz0, cm1, cp1, cz0, cm1, cz0, cp1, cz0, cm1, cp1, cz0, cz0, cm1, cp1, cz0, cm1, cp1, cz0, cz0, cm1, cp1, cz0, cz0, cz0, cz0, cz0, cm1, cp1])]
def F66k77 : Gn 1 := cur 1 (memoO [] phA1 phV1 phO1 (memoO [] phA7 phV7 phO7 (memoO [] phA11 phV11 phO11 (un 1 F66t))))
theorem K66k77 : FOK Tryz.prog 66 (un 1 F66k77) := cur_ok 1 (memoO_ok phM1 (by kernel_rfl) (by kernel_rfl) (memoO_ok phM7 (by kernel_rfl) (by kernel_rfl) (memoO_ok phM11 (by kernel_rfl) (by kernel_rfl) K66t)))
def F66c77 : Gn 1 := G66 (C66 F66k77 F108t)
theorem K66c77 : FOK Tryz.prog 66 (un 1 F66c77) := fokP (.cons K66k77 (.cons K108t .nil)) .nil hm Tryz.func66 (by kernel_rfl) (D66 F66k77 F108t) (H66 _)
theorem phS77 : stat [] phA77 phV77 phO77 = true := by kernel_rfl
theorem phR77 : runOk (un 1 F66c77 phA77 (mkS []) fun v S => some (v, S)) phV77 phO77 = true := by kernel_rfl
theorem phM77 : FOK Tryz.prog 66 (memoF [] phA77 phV77 phO77) := memo_ok K66c77 phS77 phR77
def phA78 : List V := [.i .i64 78]
def phV78 : V := (.sl (.i (.i (.i (.o .h)))) 0 25 25)
def phO78 : List (Pos × List V) := [((.i (.i (.i (.o .h)))), [cp1, cp1, cz0, cm1, cm1, cz0, cp1, cp1, cz0, cm1, cm1, cz0, cp1, cz0, cm1, cm1, cz0, cp1, cp1, cz0, cm1, cm1, cz0, cp1, cp1])]
def F66k78 : Gn 1 := cur 1 (memoO [] phA1 phV1 phO1 (memoO [] phA2 phV2 phO2 (memoO [] phA3 phV3 phO3 (memoO [] phA6 phV6 phO6 (memoO [] phA13 phV13 phO13 (memoO [] phA26 phV26 phO26 (memoO [] phA39 phV39 phO39 (un 1 F66t))))))))
theorem K66k78 : FOK Tryz.prog 66 (un 1 F66k78) := cur_ok 1 (memoO_ok phM1 (by kernel_rfl) (by kernel_rfl) (memoO_ok phM2 (by kernel_rfl) (by kernel_rfl) (memoO_ok phM3 (by kernel_rfl) (by kernel_rfl) (memoO_ok phM6 (by kernel_rfl) (by kernel_rfl) (memoO_ok phM13 (by kernel_rfl) (by kernel_rfl) (memoO_ok phM26 (by kernel_rfl) (by kernel_rfl) (memoO_ok phM39 (by kernel_rfl) (by kernel_rfl) K66t)))))))
def F66c78 : Gn 1 := G66 (C66 F66k78 F108t)
theorem K66c78 : FOK Tryz.prog 66 (un 1 F66c78) := fokP (.cons K66k78 (.cons K108t .nil)) .nil hm Tryz.func66 (by kernel_rfl) (D66 F66k78 F108t) (H66 _)
theorem phS78 : stat [] phA78 phV78 phO78 = true := by kernel_rfl
theorem phR78 : runOk (un 1 F66c78 phA78 (mkS []) fun v S => some (v, S)) phV78 phO78 = true := by kernel_rfl
theorem phM78 : FOK Tryz.prog 66 (memoF [] phA78 phV78 phO78) := memo_ok K66c78 phS78 phR78
def phA80 : List V := [.i .i64 80]
def phV80 : V := (.sl (.i (.o (.i (.i .h)))) 0 33 33)
def phO80 : List (Pos × List V) := [((.i (.o (.i (.i .h)))), [cp1, cz0, cz0, cz0, cz0, cz0, cz0, cz0, cm1, cz0, cz0, cz0, cz0, cz0, cz0, cz0, cp1, cz0, cz0, cz0, cz0, cz0, cz0, cz0, cm1, cz0, cz0, cz0, cz0, cz0, cz0, cz0, cp1])]
def F66k80 : Gn 1 := cur 1 (memoO [] phA1 phV1 phO1 (memoO [] phA2 phV2 phO2 (memoO [] phA4 phV4 phO4 (memoO [] phA5 phV5 phO5 (memoO [] phA8 phV8 phO8 (memoO [] phA10 phV10 phO10 (memoO [] phA16 phV16 phO16 (memoO [] phA20 phV20 phO20 (memoO [] phA40 phV40 phO40 (un 1 F66t))))))))))
theorem K66k80 : FOK Tryz.prog 66 (un 1 F66k80) := cur_ok 1 (memoO_ok phM1 (by kernel_rfl) (by kernel_rfl) (memoO_ok phM2 (by kernel_rfl) (by kernel_rfl) (memoO_ok phM4 (by kernel_rfl) (by kernel_rfl) (memoO_ok phM5 (by kernel_rfl) (by kernel_rfl) (memoO_ok phM8 (by kernel_rfl) (by kernel_rfl) (memoO_ok phM10 (by kernel_rfl) (by kernel_rfl) (memoO_ok phM16 (by kernel_rfl) (by kernel_rfl) (memoO_ok phM20 (by kernel_rfl) (by kernel_rfl) (memoO_ok phM40 (by kernel_rfl) (by kernel_rfl) K66t)))))))))
def F66c80 : Gn 1 := G66 (C66 F66k80 F108t)
theorem K66c80 : FOK Tryz.prog 66 (un 1 F66c80) := fokP (.cons K66k80 (.cons K108t .nil)) .nil hm Tryz.func66 (by kernel_rfl) (D66 F66k80 F108t) (H66 _)
theorem phS80 : stat [] phA80 phV80 phO80 = true := by kernel_rfl
theorem phR80 : runOk (un 1 F66c80 phA80 (mkS []) fun v S => some (v, S)) phV80 phO80 = true := by kernel_rfl
theorem phM80 : FOK Tryz.prog 66 (memoF [] phA80 phV80 phO80) := memo_ok K66c80 phS80 phR80
def phA81 : List V := [.i .i64 81]
def phV81 : V := (.sl (.o (.i (.i .h))) 0 55 55)
def phO81 : List (Pos × List V) := [((.o (.i (.i .h))), [cp1, cz0, cz0, cz0, cz0, cz0, cz0, cz0, cz0, cz0, cz0, cz0, cz0, cz0, cz0, cz0, cz0, cz0, cz0, cz0, cz0, cz0, cz0, cz0, cz0, cz0, cz0, cp1, cz0, cz0, cz0, cz0, cz0, cz0, cz0, cz0, cz0, cz0, cz0, cz0, cz0, cz0, cz0, cz0, cz0, cz0, cz0, cz0, cz0, cz0, cz0, cz0, cz0, cz0, cp1])]
def F66k81 : Gn 1 := cur 1 (memoO [] phA1 phV1 phO1 (memoO [] phA3 phV3 phO3 (memoO [] phA9 phV9 phO9 (memoO [] phA27 phV27 phO27 (un 1 F66t)))))
theorem K66k81 : FOK Tryz.prog 66 (un 1 F66k81) := cur_ok 1 (memoO_ok phM1 (by kernel_rfl) (by kernel_rfl) (memoO_ok phM3 (by kernel_rfl) (by kernel_rfl) (memoO_ok phM9 (by kernel_rfl) (by kernel_rfl) (memoO_ok phM27 (by kernel_rfl) (by kernel_rfl) K66t))))
def F66c81 : Gn 1 := G66 (C66 F66k81 F108t)
theorem K66c81 : FOK Tryz.prog 66 (un 1 F66c81) := fokP (.cons K66k81 (.cons K108t .nil)) .nil hm Tryz.func66 (by kernel_rfl) (D66 F66k81 F108t) (H66 _)
theorem phS81 : stat [] phA81 phV81 phO81 = true := by kernel_rfl
theorem phR81 : runOk (un 1 F66c81 phA81 (mkS []) fun v S => some (v, S)) phV81 phO81 = true := by kernel_rfl
theorem phM81 : FOK Tryz.prog 66 (memoF [] phA81 phV81 phO81) := memo_ok K66c81 phS81 phR81
def phA82 : List V := [.i .i64 82]
def phV82 : V := (.sl (.i (.i (.o .h))) 0 41 41)
def phO82 : List (Pos × List V) := [((.i (.i (.o .h))), [cp1, cm1, cp1, cm1, cp1, cm1, cp1, cm1, cp1, cm1, cp1, cm1, cp1, cm1, cp1, cm1, cp1, cm1, cp1, cm1, cp1, cm1, cp1, cm1, cp1, cm1, cp1, cm1, cp1, cm1, cp1, cm1, cp1, cm1, cp1, cm1, cp1, cm1, cp1, cm1, cp1])]
def F66k82 : Gn 1 := cur 1 (memoO [] phA1 phV1 phO1 (memoO [] phA2 phV2 phO2 (memoO [] phA41 phV41 phO41 (un 1 F66t))))
theorem K66k82 : FOK Tryz.prog 66 (un 1 F66k82) := cur_ok 1 (memoO_ok phM1 (by kernel_rfl) (by kernel_rfl) (memoO_ok phM2 (by kernel_rfl) (by kernel_rfl) (memoO_ok phM41 (by kernel_rfl) (by kernel_rfl) K66t)))
def F66c82 : Gn 1 := G66 (C66 F66k82 F108t)
theorem K66c82 : FOK Tryz.prog 66 (un 1 F66c82) := fokP (.cons K66k82 (.cons K108t .nil)) .nil hm Tryz.func66 (by kernel_rfl) (D66 F66k82 F108t) (H66 _)
theorem phS82 : stat [] phA82 phV82 phO82 = true := by kernel_rfl
theorem phR82 : runOk (un 1 F66c82 phA82 (mkS []) fun v S => some (v, S)) phV82 phO82 = true := by kernel_rfl
theorem phM82 : FOK Tryz.prog 66 (memoF [] phA82 phV82 phO82) := memo_ok K66c82 phS82 phR82
def phA84 : List V := [.i .i64 84]
def phV84 : V := (.sl (.i (.i (.o (.o (.o .h))))) 0 25 25)
def phO84 : List (Pos × List V) := [((.i (.i (.o (.o (.o .h))))), [cp1, cz0, cp1, cz0, cz0, cz0, cm1, cz0, cm1, cz0, cz0, cz0, cp1, cz0, cz0, cz0, cm1, cz0, cm1, cz0, cz0, cz0, cp1, cz0, cp1])]
def F66k84 : Gn 1 := cur 1 (memoO [] phA1 phV1 phO1 (memoO [] phA2 phV2 phO2 (memoO [] phA3 phV3 phO3 (memoO [] phA4 phV4 phO4 (memoO [] phA6 phV6 phO6 (memoO [] phA7 phV7 phO7 (memoO [] phA12 phV12 phO12 (memoO [] phA14 phV14 phO14 (memoO [] phA21 phV21 phO21 (memoO [] phA28 phV28 phO28 (memoO [] phA42 phV42 phO42 (un 1 F66t))))))))))))
theorem K66k84 : FOK Tryz.prog 66 (un 1 F66k84) := cur_ok 1 (memoO_ok phM1 (by kernel_rfl) (by kernel_rfl) (memoO_ok phM2 (by kernel_rfl) (by kernel_rfl) (memoO_ok phM3 (by kernel_rfl) (by kernel_rfl) (memoO_ok phM4 (by kernel_rfl) (by kernel_rfl) (memoO_ok phM6 (by kernel_rfl) (by kernel_rfl) (memoO_ok phM7 (by kernel_rfl) (by kernel_rfl) (memoO_ok phM12 (by kernel_rfl) (by kernel_rfl) (memoO_ok phM14 (by kernel_rfl) (by kernel_rfl) (memoO_ok phM21 (by kernel_rfl) (by kernel_rfl) (memoO_ok phM28 (by kernel_rfl) (by kernel_rfl) (memoO_ok phM42 (by kernel_rfl) (by kernel_rfl) K66t)))))))))))
def F66c84 : Gn 1 := G66 (C66 F66k84 F108t)
theorem K66c84 : FOK Tryz.prog 66 (un 1 F66c84) := fokP (.cons K66k84 (.cons K108t .nil)) .nil hm Tryz.func66 (by kernel_rfl) (D66 F66k84 F108t) (H66 _)
theorem phS84 : stat [] phA84 phV84 phO84 = true := by kernel_rfl
theorem phR84 : runOk (un 1 F66c84 phA84 (mkS []) fun v S => some (v, S)) phV84 phO84 = true := by kernel_rfl
theorem phM84 : FOK Tryz.prog 66 (memoF [] phA84 phV84 phO84) := memo_ok K66c84 phS84 phR84
def phA85 : List V := [.i .i64 85]
def phV85 : V := (.sl (.i (.i (.o .h))) 0 65 65)
def phO85 : List (Pos × List V) := [((.i (.i (.o .h))), [cp1, cm1, cz0, cz0, cz0, cp1, cm1, cz0, cz0, cz0, cp1, cm1, cz0, cz0, cz0, cp1, cm1, cp1, cm1, cz0, cp1, cm1, cp1, cm1, cz0, cp1, cm1, cp1, cm1, cz0, cp1, cm1, cp1, cm1, cp1, cz0, cm1, cp1, cm1, cp1, cz0, cm1, cp1, cm1, cp1, cz0, cm1, cp1, cm1, cp1, cz0, cz0, cz0, cm1, cp1, cz0, cz0, cz0, cm1, cp1, cz0, cz0, cz0, cm1, cp1])]
def F66k85 : Gn 1 := cur 1 (memoO [] phA1 phV1 phO1 (memoO [] phA5 phV5 phO5 (memoO [] phA17 phV17 phO17 (un 1 F66t))))
theorem K66k85 : FOK Tryz.prog 66 (un 1 F66k85) := cur_ok 1 (memoO_ok phM1 (by kernel_rfl) (by kernel_rfl) (memoO_ok phM5 (by kernel_rfl) (by kernel_rfl) (memoO_ok phM17 (by kernel_rfl) (by kernel_rfl) K66t)))
def F66c85 : Gn 1 := G66 (C66 F66k85 F108t)
theorem K66c85 : FOK Tryz.prog 66 (un 1 F66c85) := fokP (.cons K66k85 (.cons K108t .nil)) .nil hm Tryz.func66 (by kernel_rfl) (D66 F66k85 F108t) (H66 _)
theorem phS85 : stat [] phA85 phV85 phO85 = true := by kernel_rfl
theorem phR85 : runOk (un 1 F66c85 phA85 (mkS []) fun v S => some (v, S)) phV85 phO85 = true := by kernel_rfl
theorem phM85 : FOK Tryz.prog 66 (memoF [] phA85 phV85 phO85) := memo_ok K66c85 phS85 phR85
def phA86 : List V := [.i .i64 86]
def phV86 : V := (.sl (.i (.i (.o .h))) 0 43 43)
def phO86 : List (Pos × List V) := [((.i (.i (.o .h))), [cp1, cm1, cp1, cm1, cp1, cm1, cp1, cm1, cp1, cm1, cp1, cm1, cp1, cm1, cp1, cm1, cp1, cm1, cp1, cm1, cp1, cm1, cp1, cm1, cp1, cm1, cp1, cm1, cp1, cm1, cp1, cm1, cp1, cm1, cp1, cm1, cp1, cm1, cp1, cm1, cp1, cm1, cp1])]
def F66k86 : Gn 1 := cur 1 (memoO [] phA1 phV1 phO1 (memoO [] phA2 phV2 phO2 (memoO [] phA43 phV43 phO43 (un 1 F66t))))
theorem K66k86 : FOK Tryz.prog 66 (un 1 F66k86) := cur_ok 1 (memoO_ok phM1 (by kernel_rfl) (by kernel_rfl) (memoO_ok phM2 (by kernel_rfl) (by kernel_rfl) (memoO_ok phM43 (by kernel_rfl) (by kernel_rfl) K66t)))
def F66c86 : Gn 1 := G66 (C66 F66k86 F108t)
theorem K66c86 : FOK Tryz.prog 66 (un 1 F66c86) := fokP (.cons K66k86 (.cons K108t .nil)) .nil hm Tryz.func66 (by kernel_rfl) (D66 F66k86 F108t) (H66 _)
theorem phS86 : stat [] phA86 phV86 phO86 = true := by kernel_rfl
theorem phR86 : runOk (un 1 F66c86 phA86 (mkS []) fun v S => some (v, S)) phV86 phO86 = true := by kernel_rfl
theorem phM86 : FOK Tryz.prog 66 (memoF [] phA86 phV86 phO86) := memo_ok K66c86 phS86 phR86
def phA87 : List V := [.i .i64 87]
def phV87 : V := (.sl (.i (.i (.o .h))) 0 57 57)
def phO87 : List (Pos × List V) := [((.i (.i (.o .h))), [cp1, cm1, cz0, cp1, cm1, cz0, cp1, cm1, cz0, cp1, cm1, cz0, cp1, cm1, cz0, cp1, cm1, cz0, cp1, cm1, cz0, cp1, cm1, cz0, cp1, cm1, cz0, cp1, cm1, cp1, cz0, cm1, cp1, cz0, cm1, cp1, cz0, cm1, cp1, cz0, cm1, cp1, cz0, cm1, cp1, cz0, cm1, cp1, cz0, cm1, cp1, cz0, cm1, cp1, cz0, cm1, cp1])]
def F66k87 : Gn 1 := cur 1 (memoO [] phA1 phV1 phO1 (memoO [] phA3 phV3 phO3 (memoO [] phA29 phV29 phO29 (un 1 F66t))))
theorem K66k87 : FOK Tryz.prog 66 (un 1 F66k87) := cur_ok 1 (memoO_ok phM1 (by kernel_rfl) (by kernel_rfl) (memoO_ok phM3 (by kernel_rfl) (by kernel_rfl) (memoO_ok phM29 (by kernel_rfl) (by kernel_rfl) K66t)))
def F66c87 : Gn 1 := G66 (C66 F66k87 F108t)
theorem K66c87 : FOK Tryz.prog 66 (un 1 F66c87) := fokP (.cons K66k87 (.cons K108t .nil)) .nil hm Tryz.func66 (by kernel_rfl) (D66 F66k87 F108t) (H66 _)
theorem phS87 : stat [] phA87 phV87 phO87 = true := by kernel_rfl
theorem phR87 : runOk (un 1 F66c87 phA87 (mkS []) fun v S => some (v, S)) phV87 phO87 = true := by kernel_rfl
theorem phM87 : FOK Tryz.prog 66 (memoF [] phA87 phV87 phO87) := memo_ok K66c87 phS87 phR87
def phA88 : List V := [.i .i64 88]
def phV88 : V := (.sl (.i (.i (.i (.o .h)))) 0 41 41)
def phO88 : List (Pos × List V) := [((.i (.i (.i (.o .h)))), [cp1, cz0, cz0, cz0, cm1, cz0, cz0, cz0, cp1, cz0, cz0, cz0, cm1, cz0, cz0, cz0, cp1, cz0, cz0, cz0, cm1, cz0, cz0, cz0, cp1, cz0, cz0, cz0, cm1, cz0, cz0, cz0, cp1, cz0, cz0, cz0, cm1, cz0, cz0, cz0, cp1])]
def F66k88 : Gn 1 := cur 1 (memoO [] phA1 phV1 phO1 (memoO [] phA2 phV2 phO2 (memoO [] phA4 phV4 phO4 (memoO [] phA8 phV8 phO8 (memoO [] phA11 phV11 phO11 (memoO [] phA22 phV22 phO22 (memoO [] phA44 phV44 phO44 (un 1 F66t))))))))
theorem K66k88 : FOK Tryz.prog 66 (un 1 F66k88) := cur_ok 1 (memoO_ok phM1 (by kernel_rfl) (by kernel_rfl) (memoO_ok phM2 (by kernel_rfl) (by kernel_rfl) (memoO_ok phM4 (by kernel_rfl) (by kernel_rfl) (memoO_ok phM8 (by kernel_rfl) (by kernel_rfl) (memoO_ok phM11 (by kernel_rfl) (by kernel_rfl) (memoO_ok phM22 (by kernel_rfl) (by kernel_rfl) (memoO_ok phM44 (by kernel_rfl) (by kernel_rfl) K66t)))))))
def F66c88 : Gn 1 := G66 (C66 F66k88 F108t)
theorem K66c88 : FOK Tryz.prog 66 (un 1 F66c88) := fokP (.cons K66k88 (.cons K108t .nil)) .nil hm Tryz.func66 (by kernel_rfl) (D66 F66k88 F108t) (H66 _)
theorem phS88 : stat [] phA88 phV88 phO88 = true := by kernel_rfl
theorem phR88 : runOk (un 1 F66c88 phA88 (mkS []) fun v S => some (v, S)) phV88 phO88 = true := by kernel_rfl
theorem phM88 : FOK Tryz.prog 66 (memoF [] phA88 phV88 phO88) := memo_ok K66c88 phS88 phR88
def phA90 : List V := [.i .i64 90]
def phV90 : V := (.sl (.i (.i (.o (.o (.o .h))))) 0 25 25)
def phO90 : List (Pos × List V) := [((.i (.i (.o (.o (.o .h))))), [cp1, cz0, cz0, cp1, cz0, cz0, cz0, cz0, cz0, cm1, cz0, cz0, cm1, cz0, cz0, cm1, cz0, cz0, cz0, cz0, cz0, cp1, cz0, cz0, cp1])]
def F66k90 : Gn 1 := cur 1 (memoO [] phA1 phV1 phO1 (memoO [] phA2 phV2 phO2 (memoO [] phA3 phV3 phO3 (memoO [] phA5 phV5 phO5 (memoO [] phA6 phV6 phO6 (memoO [] phA9 phV9 phO9 (memoO [] phA10 phV10 phO10 (memoO [] phA15 phV15 phO15 (memoO [] phA18 phV18 phO18 (memoO [] phA30 phV30 phO30 (memoO [] phA45 phV45 phO45 (un 1 F66t))))))))))))
theorem K66k90 : FOK Tryz.prog 66 (un 1 F66k90) := cur_ok 1 (memoO_ok phM1 (by kernel_rfl) (by kernel_rfl) (memoO_ok phM2 (by kernel_rfl) (by kernel_rfl) (memoO_ok phM3 (by kernel_rfl) (by kernel_rfl) (memoO_ok phM5 (by kernel_rfl) (by kernel_rfl) (memoO_ok phM6 (by kernel_rfl) (by kernel_rfl) (memoO_ok phM9 (by kernel_rfl) (by kernel_rfl) (memoO_ok phM10 (by kernel_rfl) (by kernel_rfl) (memoO_ok phM15 (by kernel_rfl) (by kernel_rfl) (memoO_ok phM18 (by kernel_rfl) (by kernel_rfl) (memoO_ok phM30 (by kernel_rfl) (by kernel_rfl) (memoO_ok phM45 (by kernel_rfl) (by kernel_rfl) K66t)))))))))))
def F66c90 : Gn 1 := G66 (C66 F66k90 F108t)
theorem K66c90 : FOK Tryz.prog 66 (un 1 F66c90) := fokP (.cons K66k90 (.cons K108t .nil)) .nil hm Tryz.func66 (by kernel_rfl) (D66 F66k90 F108t) (H66 _)
theorem phS90 : stat [] phA90 phV90 phO90 = true := by kernel_rfl
theorem phR90 : runOk (un 1 F66c90 phA90 (mkS []) fun v S => some (v, S)) phV90 phO90 = true := by kernel_rfl
theorem phM90 : FOK Tryz.prog 66 (memoF [] phA90 phV90 phO90) := memo_ok K66c90 phS90 phR90
def phA92 : List V := [.i .i64 92]
def phV92 : V := (.sl (.i (.o (.o (.o .h)))) 0 45 45)
def phO92 : List (Pos × List V) := [((.i (.o (.o (.o .h)))), [cp1, cz0, cm1, cz0, cp1, cz0, cm1, cz0, cp1, cz0, cm1, cz0, cp1, cz0, cm1, cz0, cp1, cz0, cm1, cz0, cp1, cz0, cm1, cz0, cp1, cz0, cm1, cz0, cp1, cz0, cm1, cz0, cp1, cz0, cm1, cz0, cp1, cz0, cm1, cz0, cp1, cz0, cm1, cz0, cp1])]
def F66k92 : Gn 1 := cur 1 (memoO [] phA1 phV1 phO1 (memoO [] phA2 phV2 phO2 (memoO [] phA4 phV4 phO4 (memoO [] phA23 phV23 phO23 (memoO [] phA46 phV46 phO46 (un 1 F66t))))))
theorem K66k92 : FOK Tryz.prog 66 (un 1 F66k92) := cur_ok 1 (memoO_ok phM1 (by kernel_rfl) (by kernel_rfl) (memoO_ok phM2 (by kernel_rfl) (by kernel_rfl) (memoO_ok phM4 (by kernel_rfl) (by kernel_rfl) (memoO_ok phM23 (by kernel_rfl) (by kernel_rfl) (memoO_ok phM46 (by kernel_rfl) (by kernel_rfl) K66t)))))
def F66c92 : Gn 1 := G66 (C66 F66k92 F108t)
theorem K66c92 : FOK Tryz.prog 66 (un 1 F66c92) := fokP (.cons K66k92 (.cons K108t .nil)) .nil hm Tryz.func66 (by kernel_rfl) (D66 F66k92 F108t) (H66 _)
theorem phS92 : stat [] phA92 phV92 phO92 = true := by kernel_rfl
theorem phR92 : runOk (un 1 F66c92 phA92 (mkS []) fun v S => some (v, S)) phV92 phO92 = true := by kernel_rfl
theorem phM92 : FOK Tryz.prog 66 (memoF [] phA92 phV92 phO92) := memo_ok K66c92 phS92 phR92
def phA93 : List V := [.i .i64 93]
def phV93 : V := (.sl (.i (.i (.o .h))) 0 61 61)
def phO93 : List (Pos × List V) := [((.i (.i (.o .h))), [cp1, cm1, cz0, cp1, cm1, cz0, cp1, cm1, cz0, cp1, cm1, cz0, cp1, cm1, cz0, cp1, cm1, cz0, cp1, cm1, cz0, cp1, cm1, cz0, cp1, cm1, cz0, cp1, cm1, cz0, cp1, cz0, cm1, cp1, cz0, cm1, cp1, cz0, cm1, cp1, cz0, cm1, cp1, cz0, cm1, cp1, cz0, cm1, cp1, cz0, cm1, cp1, cz0, cm1, cp1, cz0, cm1, cp1, cz0, cm1, cp1])]
def F66k93 : Gn 1 := cur 1 (memoO [] phA1 phV1 phO1 (memoO [] phA3 phV3 phO3 (memoO [] phA31 phV31 phO31 (un 1 F66t))))
theorem K66k93 : FOK Tryz.prog 66 (un 1 F66k93) := cur_ok 1 (memoO_ok phM1 (by kernel_rfl) (by kernel_rfl) (memoO_ok phM3 (by kernel_rfl) (by kernel_rfl) (memoO_ok phM31 (by kernel_rfl) (by kernel_rfl) K66t)))
def F66c93 : Gn 1 := G66 (C66 F66k93 F108t)
theorem K66c93 : FOK Tryz.prog 66 (un 1 F66c93) := fokP (.cons K66k93 (.cons K108t .nil)) .nil hm Tryz.func66 (by kernel_rfl) (D66 F66k93 F108t) (H66 _)
theorem phS93 : stat [] phA93 phV93 phO93 = true := by kernel_rfl
theorem phR93 : runOk (un 1 F66c93 phA93 (mkS []) fun v S => some (v, S)) phV93 phO93 = true := by kernel_rfl
theorem phM93 : FOK Tryz.prog 66 (memoF [] phA93 phV93 phO93) := memo_ok K66c93 phS93 phR93
def phA94 : List V := [.i .i64 94]
def phV94 : V := (.sl (.i (.i (.o .h))) 0 47 47)
def phO94 : List (Pos × List V) := [((.i (.i (.o .h))), [cp1, cm1, cp1, cm1, cp1, cm1, cp1, cm1, cp1, cm1, cp1, cm1, cp1, cm1, cp1, cm1, cp1, cm1, cp1, cm1, cp1, cm1, cp1, cm1, cp1, cm1, cp1, cm1, cp1, cm1, cp1, cm1, cp1, cm1, cp1, cm1, cp1, cm1, cp1, cm1, cp1, cm1, cp1, cm1, cp1, cm1, cp1])]
def F66k94 : Gn 1 := cur 1 (memoO [] phA1 phV1 phO1 (memoO [] phA2 phV2 phO2 (memoO [] phA47 phV47 phO47 (un 1 F66t))))
theorem K66k94 : FOK Tryz.prog 66 (un 1 F66k94) := cur_ok 1 (memoO_ok phM1 (by kernel_rfl) (by kernel_rfl) (memoO_ok phM2 (by kernel_rfl) (by kernel_rfl) (memoO_ok phM47 (by kernel_rfl) (by kernel_rfl) K66t)))
def F66c94 : Gn 1 := G66 (C66 F66k94 F108t)
theorem K66c94 : FOK Tryz.prog 66 (un 1 F66c94) := fokP (.cons K66k94 (.cons K108t .nil)) .nil hm Tryz.func66 (by kernel_rfl) (D66 F66k94 F108t) (H66 _)
theorem phS94 : stat [] phA94 phV94 phO94 = true := by kernel_rfl
theorem phR94 : runOk (un 1 F66c94 phA94 (mkS []) fun v S => some (v, S)) phV94 phO94 = true := by kernel_rfl
theorem phM94 : FOK Tryz.prog 66 (memoF [] phA94 phV94 phO94) := memo_ok K66c94 phS94 phR94
def phA96 : List V := [.i .i64 96]
def phV96 : V := (.sl (.i (.i (.o (.o (.o .h))))) 0 33 33)
def phO96 : List (Pos × List V) := [((.i (.i (.o (.o (.o .h))))), [cp1, cz0, cz0, cz0, cz0, cz0, cz0, cz0, cz0, cz0, cz0, cz0, cz0, cz0, cz0, cz0, cm1, cz0, cz0, cz0, cz0, cz0, cz0, cz0, cz0, cz0, cz0, cz0, cz0, cz0, cz0, cz0, cp1])]
def F66k96 : Gn 1 := cur 1 (memoO [] phA1 phV1 phO1 (memoO [] phA2 phV2 phO2 (memoO [] phA3 phV3 phO3 (memoO [] phA4 phV4 phO4 (memoO [] phA6 phV6 phO6 (memoO [] phA8 phV8 phO8 (memoO [] phA12 phV12 phO12 (memoO [] phA16 phV16 phO16 (memoO [] phA24 phV24 phO24 (memoO [] phA32 phV32 phO32 (memoO [] phA48 phV48 phO48 (un 1 F66t))))))))))))
theorem K66k96 : FOK Tryz.prog 66 (un 1 F66k96) := cur_ok 1 (memoO_ok phM1 (by kernel_rfl) (by kernel_rfl) (memoO_ok phM2 (by kernel_rfl) (by kernel_rfl) (memoO_ok phM3 (by kernel_rfl) (by kernel_rfl) (memoO_ok phM4 (by kernel_rfl) (by kernel_rfl) (memoO_ok phM6 (by kernel_rfl) (by kernel_rfl) (memoO_ok phM8 (by kernel_rfl) (by kernel_rfl) (memoO_ok phM12 (by kernel_rfl) (by kernel_rfl) (memoO_ok phM16 (by kernel_rfl) (by kernel_rfl) (memoO_ok phM24 (by kernel_rfl) (by kernel_rfl) (memoO_ok phM32 (by kernel_rfl) (by kernel_rfl) (memoO_ok phM48 (by kernel_rfl) (by kernel_rfl) K66t)))))))))))
def F66c96 : Gn 1 := G66 (C66 F66k96 F108t)
theorem K66c96 : FOK Tryz.prog 66 (un 1 F66c96) := fokP (.cons K66k96 (.cons K108t .nil)) .nil hm Tryz.func66 (by kernel_rfl) (D66 F66k96 F108t) (H66 _)
theorem phS96 : stat [] phA96 phV96 phO96 = true := by kernel_rfl
theorem phR96 : runOk (un 1 F66c96 phA96 (mkS []) fun v S => some (v, S)) phV96 phO96 = true := by kernel_rfl
theorem phM96 : FOK Tryz.prog 66 (memoF [] phA96 phV96 phO96) := memo_ok K66c96 phS96 phR96
def phA98 : List V := [.i .i64 98]
def phV98 : V := (.sl (.i (.o (.o (.o .h)))) 0 43 43)
def phO98 : List (Pos × List V) := [((.i (.o (.o (.o .h)))), [cp1, cz0, cz0, cz0, cz0, cz0, cz0, cm1, cz0, cz0, cz0, cz0, cz0, cz0, cp1, cz0, cz0, cz0, cz0, cz0, cz0, cm1, cz0, cz0, cz0, cz0, cz0, cz0, cp1, cz0, cz0, cz0, cz0, cz0, cz0, cm1, cz0, cz0, cz0, cz0, cz0, cz0, cp1])]
def F66k98 : Gn 1 := cur 1 (memoO [] phA1 phV1 phO1 (memoO [] phA2 phV2 phO2 (memoO [] phA7 phV7 phO7 (memoO [] phA14 phV14 phO14 (memoO [] phA49 phV49 phO49 (un 1 F66t))))))
theorem K66k98 : FOK Tryz.prog 66 (un 1 F66k98) := cur_ok 1 (memoO_ok phM1 (by kernel_rfl) (by kernel_rfl) (memoO_ok phM2 (by kernel_rfl) (by kernel_rfl) (memoO_ok phM7 (by kernel_rfl) (by kernel_rfl) (memoO_ok phM14 (by kernel_rfl) (by kernel_rfl) (memoO_ok phM49 (by kernel_rfl) (by kernel_rfl) K66t)))))
def F66c98 : Gn 1 := G66 (C66 F66k98 F108t)
theorem K66c98 : FOK Tryz.prog 66 (un 1 F66c98) := fokP (.cons K66k98 (.cons K108t .nil)) .nil hm Tryz.func66 (by kernel_rfl) (D66 F66k98 F108t) (H66 _)
theorem phS98 : stat [] phA98 phV98 phO98 = true := by kernel_rfl
theorem phR98 : runOk (un 1 F66c98 phA98 (mkS []) fun v S => some (v, S)) phV98 phO98 = true := by kernel_rfl
theorem phM98 : FOK Tryz.prog 66 (memoF [] phA98 phV98 phO98) := memo_ok K66c98 phS98 phR98
def phA99 : List V := [.i .i64 99]
def phV99 : V := (.sl (.i (.o (.o (.o .h)))) 0 61 61)
def phO99 : List (Pos × List V) := [((.i (.o (.o (.o .h)))), [cp1, cz0, cz0, cm1, cz0, cz0, cz0, cz0, cz0, cp1, cz0, cz0, cm1, cz0, cz0, cz0, cz0, cz0, cp1, cz0, cz0, cm1, cz0, cz0, cz0, cz0, cz0, cp1, cz0, cz0, cm1, cz0, cz0, cp1, cz0, cz0, cz0, cz0, cz0, cm1, cz0, cz0, cp1, cz0, cz0, cz0, cz0, cz0, cm1, cz0, cz0, cp1, cz0, cz0, cz0, cz0, cz0, cm1, cz0, cz0, cp1])]
def F66k99 : Gn 1 := cur 1 (memoO [] phA1 phV1 phO1 (memoO [] phA3 phV3 phO3 (memoO [] phA9 phV9 phO9 (memoO [] phA11 phV11 phO11 (memoO [] phA33 phV33 phO33 (un 1 F66t))))))
theorem K66k99 : FOK Tryz.prog 66 (un 1 F66k99) := cur_ok 1 (memoO_ok phM1 (by kernel_rfl) (by kernel_rfl) (memoO_ok phM3 (by kernel_rfl) (by kernel_rfl) (memoO_ok phM9 (by kernel_rfl) (by kernel_rfl) (memoO_ok phM11 (by kernel_rfl) (by kernel_rfl) (memoO_ok phM33 (by kernel_rfl) (by kernel_rfl) K66t)))))
def F66c99 : Gn 1 := G66 (C66 F66k99 F108t)
theorem K66c99 : FOK Tryz.prog 66 (un 1 F66c99) := fokP (.cons K66k99 (.cons K108t .nil)) .nil hm Tryz.func66 (by kernel_rfl) (D66 F66k99 F108t) (H66 _)
theorem phS99 : stat [] phA99 phV99 phO99 = true := by kernel_rfl
theorem phR99 : runOk (un 1 F66c99 phA99 (mkS []) fun v S => some (v, S)) phV99 phO99 = true := by kernel_rfl
theorem phM99 : FOK Tryz.prog 66 (memoF [] phA99 phV99 phO99) := memo_ok K66c99 phS99 phR99
def phA100 : List V := [.i .i64 100]
def phV100 : V := (.sl (.o (.i (.o (.i .h)))) 0 41 41)
def phO100 : List (Pos × List V) := [((.o (.i (.o (.i .h)))), [cp1, cz0, cz0, cz0, cz0, cz0, cz0, cz0, cz0, cz0, cm1, cz0, cz0, cz0, cz0, cz0, cz0, cz0, cz0, cz0, cp1, cz0, cz0, cz0, cz0, cz0, cz0, cz0, cz0, cz0, cm1, cz0, cz0, cz0, cz0, cz0, cz0, cz0, cz0, cz0, cp1])]
def F66k100 : Gn 1 := cur 1 (memoO [] phA1 phV1 phO1 (memoO [] phA2 phV2 phO2 (memoO [] phA4 phV4 phO4 (memoO [] phA5 phV5 phO5 (memoO [] phA10 phV10 phO10 (memoO [] phA20 phV20 phO20 (memoO [] phA25 phV25 phO25 (memoO [] phA50 phV50 phO50 (un 1 F66t)))))))))
theorem K66k100 : FOK Tryz.prog 66 (un 1 F66k100) := cur_ok 1 (memoO_ok phM1 (by kernel_rfl) (by kernel_rfl) (memoO_ok phM2 (by kernel_rfl) (by kernel_rfl) (memoO_ok phM4 (by kernel_rfl) (by kernel_rfl) (memoO_ok phM5 (by kernel_rfl) (by kernel_rfl) (memoO_ok phM10 (by kernel_rfl) (by kernel_rfl) (memoO_ok phM20 (by kernel_rfl) (by kernel_rfl) (memoO_ok phM25 (by kernel_rfl) (by kernel_rfl) (memoO_ok phM50 (by kernel_rfl) (by kernel_rfl) K66t))))))))
def F66c100 : Gn 1 := G66 (C66 F66k100 F108t)
theorem K66c100 : FOK Tryz.prog 66 (un 1 F66c100) := fokP (.cons K66k100 (.cons K108t .nil)) .nil hm Tryz.func66 (by kernel_rfl) (D66 F66k100 F108t) (H66 _)
theorem phS100 : stat [] phA100 phV100 phO100 = true := by kernel_rfl
theorem phR100 : runOk (un 1 F66c100 phA100 (mkS []) fun v S => some (v, S)) phV100 phO100 = true := by kernel_rfl
theorem phM100 : FOK Tryz.prog 66 (memoF [] phA100 phV100 phO100) := memo_ok K66c100 phS100 phR100
def phA102 : List V := [.i .i64 102]
def phV102 : V := (.sl (.i (.i (.i (.o .h)))) 0 33 33)
def phO102 : List (Pos × List V) := [((.i (.i (.i (.o .h)))), [cp1, cp1, cz0, cm1, cm1, cz0, cp1, cp1, cz0, cm1, cm1, cz0, cp1, cp1, cz0, cm1, cm1, cm1, cz0, cp1, cp1, cz0, cm1, cm1, cz0, cp1, cp1, cz0, cm1, cm1, cz0, cp1, cp1])]
def F66k102 : Gn 1 := cur 1 (memoO [] phA1 phV1 phO1 (memoO [] phA2 phV2 phO2 (memoO [] phA3 phV3 phO3 (memoO [] phA6 phV6 phO6 (memoO [] phA17 phV17 phO17 (memoO [] phA34 phV34 phO34 (memoO [] phA51 phV51 phO51 (un 1 F66t))))))))
theorem K66k102 : FOK Tryz.prog 66 (un 1 F66k102) := cur_ok 1 (memoO_ok phM1 (by kernel_rfl) (by kernel_rfl) (memoO_ok phM2 (by kernel_rfl) (by kernel_rfl) (memoO_ok phM3 (by kernel_rfl) (by kernel_rfl) (memoO_ok phM6 (by kernel_rfl) (by kernel_rfl) (memoO_ok phM17 (by kernel_rfl) (by kernel_rfl) (memoO_ok phM34 (by kernel_rfl) (by kernel_rfl) (memoO_ok phM51 (by kernel_rfl) (by kernel_rfl) K66t)))))))
def F66c102 : Gn 1 := G66 (C66 F66k102 F108t)
theorem K66c102 : FOK Tryz.prog 66 (un 1 F66c102) := fokP (.cons K66k102 (.cons K108t .nil)) .nil hm Tryz.func66 (by kernel_rfl) (D66 F66k102 F108t) (H66 _)
theorem phS102 : stat [] phA102 phV102 phO102 = true := by kernel_rfl
theorem phR102 : runOk (un 1 F66c102 phA102 (mkS []) fun v S => some (v, S)) phV102 phO102 = true := by kernel_rfl
theorem phM102 : FOK Tryz.prog 66 (memoF [] phA102 phV102 phO102) := memo_ok K66c102 phS102 phR102
def phA104 : List V := [.i .i64 104]
def phV104 : V := (.sl (.i (.i (.i (.o .h)))) 0 49 49)
def phO104 : List (Pos × List V) := [((.i (.i (.i (.o .h)))), [cp1, cz0, cz0, cz0, cm1, cz0, cz0, cz0, cp1, cz0, cz0, cz0, cm1, cz0, cz0, cz0, cp1, cz0, cz0, cz0, cm1, cz0, cz0, cz0, cp1, cz0, cz0, cz0, cm1, cz0, cz0, cz0, cp1, cz0, cz0, cz0, cm1, cz0, cz0, cz0, cp1, cz0, cz0, cz0, cm1, cz0, cz0, cz0, cp1])]
def F66k104 : Gn 1 := cur 1 (memoO [] phA1 phV1 phO1 (memoO [] phA2 phV2 phO2 (memoO [] phA4 phV4 phO4 (memoO [] phA8 phV8 phO8 (memoO [] phA13 phV13 phO13 (memoO [] phA26 phV26 phO26 (memoO [] phA52 phV52 phO52 (un 1 F66t))))))))
theorem K66k104 : FOK Tryz.prog 66 (un 1 F66k104) := cur_ok 1 (memoO_ok phM1 (by kernel_rfl) (by kernel_rfl) (memoO_ok phM2 (by kernel_rfl) (by kernel_rfl) (memoO_ok phM4 (by kernel_rfl) (by kernel_rfl) (memoO_ok phM8 (by kernel_rfl) (by kernel_rfl) (memoO_ok phM13 (by kernel_rfl) (by kernel_rfl) (memoO_ok phM26 (by kernel_rfl) (by kernel_rfl) (memoO_ok phM52 (by kernel_rfl) (by kernel_rfl) K66t)))))))
def F66c104 : Gn 1 := G66 (C66 F66k104 F108t)
theorem K66c104 : FOK Tryz.prog 66 (un 1 F66c104) := fokP (.cons K66k104 (.cons K108t .nil)) .nil hm Tryz.func66 (by kernel_rfl) (D66 F66k104 F108t) (H66 _)
theorem phS104 : stat [] phA104 phV104 phO104 = true := by kernel_rfl
theorem phR104 : runOk (un 1 F66c104 phA104 (mkS []) fun v S => some (v, S)) phV104 phO104 = true := by kernel_rfl
theorem phM104 : FOK Tryz.prog 66 (memoF [] phA104 phV104 phO104) := memo_ok K66c104 phS104 phR104
def phA105 : List V := [.i .i64 105]
def phV105 : V := (.sl (.i (.i (.i (.o .h)))) 0 49 49)
def phO105 : List (Pos × List V) := [((.i (.i (.i (.o .h)))), [cp1, cp1, cp1, cz0, cz0, cm1, cm1, cm2, cm1, cm1, cz0, cz0, cp1, cp1, cp1, cp1, cp1, cp1, cz0, cz0, cm1, cz0, cm1, cz0, cm1, cz0, cm1, cz0, cm1, cz0, cz0, cp1, cp1, cp1, cp1, cp1, cp1, cz0, cz0, cm1, cm1, cm2, cm1, cm1, cz0, cz0, cp1, cp1, cp1])]
def F66k105 : Gn 1 := cur 1 (memoO [] phA1 phV1 phO1 (memoO [] phA3 phV3 phO3 (memoO [] phA5 phV5 phO5 (memoO [] phA7 phV7 phO7 (memoO [] phA15 phV15 phO15 (memoO [] phA21 phV21 phO21 (memoO [] phA35 phV35 phO35 (un 1 F66t))))))))
theorem K66k105 : FOK Tryz.prog 66 (un 1 F66k105) := cur_ok 1 (memoO_ok phM1 (by kernel_rfl) (by kernel_rfl) (memoO_ok phM3 (by kernel_rfl) (by kernel_rfl) (memoO_ok phM5 (by kernel_rfl) (by kernel_rfl) (memoO_ok phM7 (by kernel_rfl) (by kernel_rfl) (memoO_ok phM15 (by kernel_rfl) (by kernel_rfl) (memoO_ok phM21 (by kernel_rfl) (by kernel_rfl) (memoO_ok phM35 (by kernel_rfl) (by kernel_rfl) K66t)))))))
def F66c105 : Gn 1 := G66 (C66 F66k105 F108t)
theorem K66c105 : FOK Tryz.prog 66 (un 1 F66c105) := fokP (.cons K66k105 (.cons K108t .nil)) .nil hm Tryz.func66 (by kernel_rfl) (D66 F66k105 F108t) (H66 _)
theorem phS105 : stat [] phA105 phV105 phO105 = true := by kernel_rfl
theorem phR105 : runOk (un 1 F66c105 phA105 (mkS []) fun v S => some (v, S)) phV105 phO105 = true := by kernel_rfl
theorem phM105 : FOK Tryz.prog 66 (memoF [] phA105 phV105 phO105) := memo_ok K66c105 phS105 phR105
def phA106 : List V := [.i .i64 106]
def phV106 : V := (.sl (.i (.i (.o .h))) 0 53 53)
def phO106 : List (Pos × List V) := [((.i (.i (.o .h))), [cp1, cm1, cp1, cm1, cp1, cm1, cp1, cm1, cp1, cm1, cp1, cm1, cp1, cm1, cp1, cm1, cp1, cm1, cp1, cm1, cp1, cm1, cp1, cm1, cp1, cm1, cp1, cm1, cp1, cm1, cp1, cm1, cp1, cm1, cp1, cm1, cp1, cm1, cp1, cm1, cp1, cm1, cp1, cm1, cp1, cm1, cp1, cm1, cp1, cm1, cp1, cm1, cp1])]
def F66k106 : Gn 1 := cur 1 (memoO [] phA1 phV1 phO1 (memoO [] phA2 phV2 phO2 (memoO [] phA53 phV53 phO53 (un 1 F66t))))
theorem K66k106 : FOK Tryz.prog 66 (un 1 F66k106) := cur_ok 1 (memoO_ok phM1 (by kernel_rfl) (by kernel_rfl) (memoO_ok phM2 (by kernel_rfl) (by kernel_rfl) (memoO_ok phM53 (by kernel_rfl) (by kernel_rfl) K66t)))
def F66c106 : Gn 1 := G66 (C66 F66k106 F108t)
theorem K66c106 : FOK Tryz.prog 66 (un 1 F66c106) := fokP (.cons K66k106 (.cons K108t .nil)) .nil hm Tryz.func66 (by kernel_rfl) (D66 F66k106 F108t) (H66 _)
theorem phS106 : stat [] phA106 phV106 phO106 = true := by kernel_rfl
theorem phR106 : runOk (un 1 F66c106 phA106 (mkS []) fun v S => some (v, S)) phV106 phO106 = true := by kernel_rfl
theorem phM106 : FOK Tryz.prog 66 (memoF [] phA106 phV106 phO106) := memo_ok K66c106 phS106 phR106
def phA108 : List V := [.i .i64 108]
def phV108 : V := (.sl (.i (.i (.o (.o (.o .h))))) 0 37 37)
def phO108 : List (Pos × List V) := [((.i (.i (.o (.o (.o .h))))), [cp1, cz0, cz0, cz0, cz0, cz0, cz0, cz0, cz0, cz0, cz0, cz0, cz0, cz0, cz0, cz0, cz0, cz0, cm1, cz0, cz0, cz0, cz0, cz0, cz0, cz0, cz0, cz0, cz0, cz0, cz0, cz0, cz0, cz0, cz0, cz0, cp1])]
def F66k108 : Gn 1 := cur 1 (memoO [] phA1 phV1 phO1 (memoO [] phA2 phV2 phO2 (memoO [] phA3 phV3 phO3 (memoO [] phA4 phV4 phO4 (memoO [] phA6 phV6 phO6 (memoO [] phA9 phV9 phO9 (memoO [] phA12 phV12 phO12 (memoO [] phA18 phV18 phO18 (memoO [] phA27 phV27 phO27 (memoO [] phA36 phV36 phO36 (memoO [] phA54 phV54 phO54 (un 1 F66t))))))))))))
theorem K66k108 : FOK Tryz.prog 66 (un 1 F66k108) := cur_ok 1 (memoO_ok phM1 (by kernel_rfl) (by kernel_rfl) (memoO_ok phM2 (by kernel_rfl) (by kernel_rfl) (memoO_ok phM3 (by kernel_rfl) (by kernel_rfl) (memoO_ok phM4 (by kernel_rfl) (by kernel_rfl) (memoO_ok phM6 (by kernel_rfl) (by kernel_rfl) (memoO_ok phM9 (by kernel_rfl) (by kernel_rfl) (memoO_ok phM12 (by kernel_rfl) (by kernel_rfl) (memoO_ok phM18 (by kernel_rfl) (by kernel_rfl) (memoO_ok phM27 (by kernel_rfl) (by kernel_rfl) (memoO_ok phM36 (by kernel_rfl) (by kernel_rfl) (memoO_ok phM54 (by kernel_rfl) (by kernel_rfl) K66t)))))))))))
def F66c108 : Gn 1 := G66 (C66 F66k108 F108t)
theorem K66c108 : FOK Tryz.prog 66 (un 1 F66c108) := fokP (.cons K66k108 (.cons K108t .nil)) .nil hm Tryz.func66 (by kernel_rfl) (D66 F66k108 F108t) (H66 _)
theorem phS108 : stat [] phA108 phV108 phO108 = true := by kernel_rfl
theorem phR108 : runOk (un 1 F66c108 phA108 (mkS []) fun v S => some (v, S)) phV108 phO108 = true := by kernel_rfl
theorem phM108 : FOK Tryz.prog 66 (memoF [] phA108 phV108 phO108) := memo_ok K66c108 phS108 phR108
def phA110 : List V := [.i .i64 110]
def phV110 : V := (.sl (.i (.i (.i (.o .h)))) 0 41 41)
def phO110 : List (Pos × List V) := [((.i (.i (.i (.o .h)))), [cp1, cp1, cz0, cz0, cz0, cm1, cm1, cz0, cz0, cz0, cp1, cz0, cm1, cz0, cz0, cm1, cz0, cp1, cz0, cz0, cp1, cz0, cz0, cp1, cz0, cm1, cz0, cz0, cm1, cz0, cp1, cz0, cz0, cz0, cm1, cm1, cz0, cz0, cz0, cp1, cp1])]
def F66k110 : Gn 1 := cur 1 (memoO [] phA1 phV1 phO1 (memoO [] phA2 phV2 phO2 (memoO [] phA5 phV5 phO5 (memoO [] phA10 phV10 phO10 (memoO [] phA11 phV11 phO11 (memoO [] phA22 phV22 phO22 (memoO [] phA55 phV55 phO55 (un 1 F66t))))))))
theorem K66k110 : FOK Tryz.prog 66 (un 1 F66k110) := cur_ok 1 (memoO_ok phM1 (by kernel_rfl) (by kernel_rfl) (memoO_ok phM2 (by kernel_rfl) (by kernel_rfl) (memoO_ok phM5 (by kernel_rfl) (by kernel_rfl) (memoO_ok phM10 (by kernel_rfl) (by kernel_rfl) (memoO_ok phM11 (by kernel_rfl) (by kernel_rfl) (memoO_ok phM22 (by kernel_rfl) (by kernel_rfl) (memoO_ok phM55 (by kernel_rfl) (by kernel_rfl) K66t)))))))
def F66c110 : Gn 1 := G66 (C66 F66k110 F108t)
theorem K66c110 : FOK Tryz.prog 66 (un 1 F66c110) := fokP (.cons K66k110 (.cons K108t .nil)) .nil hm Tryz.func66 (by kernel_rfl) (D66 F66k110 F108t) (H66 _)
theorem phS110 : stat [] phA110 phV110 phO110 = true := by kernel_rfl
theorem phR110 : runOk (un 1 F66c110 phA110 (mkS []) fun v S => some (v, S)) phV110 phO110 = true := by kernel_rfl
theorem phM110 : FOK Tryz.prog 66 (memoF [] phA110 phV110 phO110) := memo_ok K66c110 phS110 phR110
def phA112 : List V := [.i .i64 112]
def phV112 : V := (.sl (.i (.o (.i (.i .h)))) 0 49 49)
def phO112 : List (Pos × List V) := [((.i (.o (.i (.i .h)))), [cp1, cz0, cz0, cz0, cz0, cz0, cz0, cz0, cm1, cz0, cz0, cz0, cz0, cz0, cz0, cz0, cp1, cz0, cz0, cz0, cz0, cz0, cz0, cz0, cm1, cz0, cz0, cz0, cz0, cz0, cz0, cz0, cp1, cz0, cz0, cz0, cz0, cz0, cz0, cz0, cm1, cz0, cz0, cz0, cz0, cz0, cz0, cz0, cp1])]
def F66k112 : Gn 1 := cur 1 (memoO [] phA1 phV1 phO1 (memoO [] phA2 phV2 phO2 (memoO [] phA4 phV4 phO4 (memoO [] phA7 phV7 phO7 (memoO [] phA8 phV8 phO8 (memoO [] phA14 phV14 phO14 (memoO [] phA16 phV16 phO16 (memoO [] phA28 phV28 phO28 (memoO [] phA56 phV56 phO56 (un 1 F66t))))))))))
theorem K66k112 : FOK Tryz.prog 66 (un 1 F66k112) := cur_ok 1 (memoO_ok phM1 (by kernel_rfl) (by kernel_rfl) (memoO_ok phM2 (by kernel_rfl) (by kernel_rfl) (memoO_ok phM4 (by kernel_rfl) (by kernel_rfl) (memoO_ok phM7 (by kernel_rfl) (by kernel_rfl) (memoO_ok phM8 (by kernel_rfl) (by kernel_rfl) (memoO_ok phM14 (by kernel_rfl) (by kernel_rfl) (memoO_ok phM16 (by kernel_rfl) (by kernel_rfl) (memoO_ok phM28 (by kernel_rfl) (by kernel_rfl) (memoO_ok phM56 (by kernel_rfl) (by kernel_rfl) K66t)))))))))
def F66c112 : Gn 1 := G66 (C66 F66k112 F108t)
theorem K66c112 : FOK Tryz.prog 66 (un 1 F66c112) := fokP (.cons K66k112 (.cons K108t .nil)) .nil hm Tryz.func66 (by kernel_rfl) (D66 F66k112 F108t) (H66 _)
theorem phS112 : stat [] phA112 phV112 phO112 = true := by kernel_rfl
theorem phR112 : runOk (un 1 F66c112 phA112 (mkS []) fun v S => some (v, S)) phV112 phO112 = true := by kernel_rfl
theorem phM112 : FOK Tryz.prog 66 (memoF [] phA112 phV112 phO112) := memo_ok K66c112 phS112 phR112
def phA114 : List V := [.i .i64 114]
def phV114 : V := (.sl (.i (.i (.i (.o .h)))) 0 37 37)
def phO114 : List (Pos × List V) := [((.i (.i (.i (.o .h)))), [cp1, cp1, cz0, cm1, cm1, cz0, cp1, cp1, cz0, cm1, cm1, cz0, cp1, cp1, cz0, cm1, cm1, cz0, cp1, cz0, cm1, cm1, cz0, cp1, cp1, cz0, cm1, cm1, cz0, cp1, cp1, cz0, cm1, cm1, cz0, cp1, cp1])]
def F66k114 : Gn 1 := cur 1 (memoO [] phA1 phV1 phO1 (memoO [] phA2 phV2 phO2 (memoO [] phA3 phV3 phO3 (memoO [] phA6 phV6 phO6 (memoO [] phA19 phV19 phO19 (memoO [] phA38 phV38 phO38 (memoO [] phA57 phV57 phO57 (un 1 F66t))))))))
theorem K66k114 : FOK Tryz.prog 66 (un 1 F66k114) := cur_ok 1 (memoO_ok phM1 (by kernel_rfl) (by kernel_rfl) (memoO_ok phM2 (by kernel_rfl) (by kernel_rfl) (memoO_ok phM3 (by kernel_rfl) (by kernel_rfl) (memoO_ok phM6 (by kernel_rfl) (by kernel_rfl) (memoO_ok phM19 (by kernel_rfl) (by kernel_rfl) (memoO_ok phM38 (by kernel_rfl) (by kernel_rfl) (memoO_ok phM57 (by kernel_rfl) (by kernel_rfl) K66t)))))))
def F66c114 : Gn 1 := G66 (C66 F66k114 F108t)
theorem K66c114 : FOK Tryz.prog 66 (un 1 F66c114) := fokP (.cons K66k114 (.cons K108t .nil)) .nil hm Tryz.func66 (by kernel_rfl) (D66 F66k114 F108t) (H66 _)
theorem phS114 : stat [] phA114 phV114 phO114 = true := by kernel_rfl
theorem phR114 : runOk (un 1 F66c114 phA114 (mkS []) fun v S => some (v, S)) phV114 phO114 = true := by kernel_rfl
theorem phM114 : FOK Tryz.prog 66 (memoF [] phA114 phV114 phO114) := memo_ok K66c114 phS114 phR114
def phA116 : List V := [.i .i64 116]
def phV116 : V := (.sl (.i (.o (.o (.o .h)))) 0 57 57)
def phO116 : List (Pos × List V) := [((.i (.o (.o (.o .h)))), [cp1, cz0, cm1, cz0, cp1, cz0, cm1, cz0, cp1, cz0, cm1, cz0, cp1, cz0, cm1, cz0, cp1, cz0, cm1, cz0, cp1, cz0, cm1, cz0, cp1, cz0, cm1, cz0, cp1, cz0, cm1, cz0, cp1, cz0, cm1, cz0, cp1, cz0, cm1, cz0, cp1, cz0, cm1, cz0, cp1, cz0, cm1, cz0, cp1, cz0, cm1, cz0, cp1, cz0, cm1, cz0, cp1])]
def F66k116 : Gn 1 := cur 1 (memoO [] phA1 phV1 phO1 (memoO [] phA2 phV2 phO2 (memoO [] phA4 phV4 phO4 (memoO [] phA29 phV29 phO29 (memoO [] phA58 phV58 phO58 (un 1 F66t))))))
theorem K66k116 : FOK Tryz.prog 66 (un 1 F66k116) := cur_ok 1 (memoO_ok phM1 (by kernel_rfl) (by kernel_rfl) (memoO_ok phM2 (by kernel_rfl) (by kernel_rfl) (memoO_ok phM4 (by kernel_rfl) (by kernel_rfl) (memoO_ok phM29 (by kernel_rfl) (by kernel_rfl) (memoO_ok phM58 (by kernel_rfl) (by kernel_rfl) K66t)))))
def F66c116 : Gn 1 := G66 (C66 F66k116 F108t)
theorem K66c116 : FOK Tryz.prog 66 (un 1 F66c116) := fokP (.cons K66k116 (.cons K108t .nil)) .nil hm Tryz.func66 (by kernel_rfl) (D66 F66k116 F108t) (H66 _)
theorem phS116 : stat [] phA116 phV116 phO116 = true := by kernel_rfl
theorem phR116 : runOk (un 1 F66c116 phA116 (mkS []) fun v S => some (v, S)) phV116 phO116 = true := by kernel_rfl
theorem phM116 : FOK Tryz.prog 66 (memoF [] phA116 phV116 phO116) := memo_ok K66c116 phS116 phR116
def phA118 : List V := [.i .i64 118]
def phV118 : V := (.sl (.i (.i (.o .h))) 0 59 59)
def phO118 : List (Pos × List V) := [((.i (.i (.o .h))), [cp1, cm1, cp1, cm1, cp1, cm1, cp1, cm1, cp1, cm1, cp1, cm1, cp1, cm1, cp1, cm1, cp1, cm1, cp1, cm1, cp1, cm1, cp1, cm1, cp1, cm1, cp1, cm1, cp1, cm1, cp1, cm1, cp1, cm1, cp1, cm1, cp1, cm1, cp1, cm1, cp1, cm1, cp1, cm1, cp1, cm1, cp1, cm1, cp1, cm1, cp1, cm1, cp1, cm1, cp1, cm1, cp1, cm1, cp1])]
def F66k118 : Gn 1 := cur 1 (memoO [] phA1 phV1 phO1 (memoO [] phA2 phV2 phO2 (memoO [] phA59 phV59 phO59 (un 1 F66t))))
theorem K66k118 : FOK Tryz.prog 66 (un 1 F66k118) := cur_ok 1 (memoO_ok phM1 (by kernel_rfl) (by kernel_rfl) (memoO_ok phM2 (by kernel_rfl) (by kernel_rfl) (memoO_ok phM59 (by kernel_rfl) (by kernel_rfl) K66t)))
def F66c118 : Gn 1 := G66 (C66 F66k118 F108t)
theorem K66c118 : FOK Tryz.prog 66 (un 1 F66c118) := fokP (.cons K66k118 (.cons K108t .nil)) .nil hm Tryz.func66 (by kernel_rfl) (D66 F66k118 F108t) (H66 _)
theorem phS118 : stat [] phA118 phV118 phO118 = true := by kernel_rfl
theorem phR118 : runOk (un 1 F66c118 phA118 (mkS []) fun v S => some (v, S)) phV118 phO118 = true := by kernel_rfl
theorem phM118 : FOK Tryz.prog 66 (memoF [] phA118 phV118 phO118) := memo_ok K66c118 phS118 phR118
def phA120 : List V := [.i .i64 120]
def phV120 : V := (.sl (.i (.i (.i (.i (.o .h))))) 0 33 33)
def phO120 : List (Pos × List V) := [((.i (.i (.i (.i (.o .h))))), [cp1, cz0, cz0, cz0, cp1, cz0, cz0, cz0, cz0, cz0, cz0, cz0, cm1, cz0, cz0, cz0, cm1, cz0, cz0, cz0, cm1, cz0, cz0, cz0, cz0, cz0, cz0, cz0, cp1, cz0, cz0, cz0, cp1])]
def F66k120 : Gn 1 := cur 1 (memoO [] phA1 phV1 phO1 (memoO [] phA2 phV2 phO2 (memoO [] phA3 phV3 phO3 (memoO [] phA4 phV4 phO4 (memoO [] phA5 phV5 phO5 (memoO [] phA6 phV6 phO6 (memoO [] phA8 phV8 phO8 (memoO [] phA10 phV10 phO10 (memoO [] phA12 phV12 phO12 (memoO [] phA15 phV15 phO15 (memoO [] phA20 phV20 phO20 (memoO [] phA24 phV24 phO24 (memoO [] phA30 phV30 phO30 (memoO [] phA40 phV40 phO40 (memoO [] phA60 phV60 phO60 (un 1 F66t))))))))))))))))
theorem K66k120 : FOK Tryz.prog 66 (un 1 F66k120) := cur_ok 1 (memoO_ok phM1 (by kernel_rfl) (by kernel_rfl) (memoO_ok phM2 (by kernel_rfl) (by kernel_rfl) (memoO_ok phM3 (by kernel_rfl) (by kernel_rfl) (memoO_ok phM4 (by kernel_rfl) (by kernel_rfl) (memoO_ok phM5 (by kernel_rfl) (by kernel_rfl) (memoO_ok phM6 (by kernel_rfl) (by kernel_rfl) (memoO_ok phM8 (by kernel_rfl) (by kernel_rfl) (memoO_ok phM10 (by kernel_rfl) (by kernel_rfl) (memoO_ok phM12 (by kernel_rfl) (by kernel_rfl) (memoO_ok phM15 (by kernel_rfl) (by kernel_rfl) (memoO_ok phM20 (by kernel_rfl) (by kernel_rfl) (memoO_ok phM24 (by kernel_rfl) (by kernel_rfl) (memoO_ok phM30 (by kernel_rfl) (by kernel_rfl) (memoO_ok phM40 (by kernel_rfl) (by kernel_rfl) (memoO_ok phM60 (by kernel_rfl) (by kernel_rfl) K66t)))))))))))))))
def F66c120 : Gn 1 := G66 (C66 F66k120 F108t)
theorem K66c120 : FOK Tryz.prog 66 (un 1 F66c120) := fokP (.cons K66k120 (.cons K108t .nil)) .nil hm Tryz.func66 (by kernel_rfl) (D66 F66k120 F108t) (H66 _)
theorem phS120 : stat [] phA120 phV120 phO120 = true := by kernel_rfl
theorem phR120 : runOk (un 1 F66c120 phA120 (mkS []) fun v S => some (v, S)) phV120 phO120 = true := by kernel_rfl
theorem phM120 : FOK Tryz.prog 66 (memoF [] phA120 phV120 phO120) := memo_ok K66c120 phS120 phR120
def phA122 : List V := [.i .i64 122]
def phV122 : V := (.sl (.i (.i (.o .h))) 0 61 61)
def phO122 : List (Pos × List V) := [((.i (.i (.o .h))), [cp1, cm1, cp1, cm1, cp1, cm1, cp1, cm1, cp1, cm1, cp1, cm1, cp1, cm1, cp1, cm1, cp1, cm1, cp1, cm1, cp1, cm1, cp1, cm1, cp1, cm1, cp1, cm1, cp1, cm1, cp1, cm1, cp1, cm1, cp1, cm1, cp1, cm1, cp1, cm1, cp1, cm1, cp1, cm1, cp1, cm1, cp1, cm1, cp1, cm1, cp1, cm1, cp1, cm1, cp1, cm1, cp1, cm1, cp1, cm1, cp1])]
def F66k122 : Gn 1 := cur 1 (memoO [] phA1 phV1 phO1 (memoO [] phA2 phV2 phO2 (memoO [] phA61 phV61 phO61 (un 1 F66t))))
theorem K66k122 : FOK Tryz.prog 66 (un 1 F66k122) := cur_ok 1 (memoO_ok phM1 (by kernel_rfl) (by kernel_rfl) (memoO_ok phM2 (by kernel_rfl) (by kernel_rfl) (memoO_ok phM61 (by kernel_rfl) (by kernel_rfl) K66t)))
def F66c122 : Gn 1 := G66 (C66 F66k122 F108t)
theorem K66c122 : FOK Tryz.prog 66 (un 1 F66c122) := fokP (.cons K66k122 (.cons K108t .nil)) .nil hm Tryz.func66 (by kernel_rfl) (D66 F66k122 F108t) (H66 _)
theorem phS122 : stat [] phA122 phV122 phO122 = true := by kernel_rfl
theorem phR122 : runOk (un 1 F66c122 phA122 (mkS []) fun v S => some (v, S)) phV122 phO122 = true := by kernel_rfl
theorem phM122 : FOK Tryz.prog 66 (memoF [] phA122 phV122 phO122) := memo_ok K66c122 phS122 phR122
def phA124 : List V := [.i .i64 124]
def phV124 : V := (.sl (.i (.o (.o (.o .h)))) 0 61 61)
def phO124 : List (Pos × List V) := [((.i (.o (.o (.o .h)))), [cp1, cz0, cm1, cz0, cp1, cz0, cm1, cz0, cp1, cz0, cm1, cz0, cp1, cz0, cm1, cz0, cp1, cz0, cm1, cz0, cp1, cz0, cm1, cz0, cp1, cz0, cm1, cz0, cp1, cz0, cm1, cz0, cp1, cz0, cm1, cz0, cp1, cz0, cm1, cz0, cp1, cz0, cm1, cz0, cp1, cz0, cm1, cz0, cp1, cz0, cm1, cz0, cp1, cz0, cm1, cz0, cp1, cz0, cm1, cz0, cp1])]
def F66k124 : Gn 1 := cur 1 (memoO [] phA1 phV1 phO1 (memoO [] phA2 phV2 phO2 (memoO [] phA4 phV4 phO4 (memoO [] phA31 phV31 phO31 (memoO [] phA62 phV62 phO62 (un 1 F66t))))))
theorem K66k124 : FOK Tryz.prog 66 (un 1 F66k124) := cur_ok 1 (memoO_ok phM1 (by kernel_rfl) (by kernel_rfl) (memoO_ok phM2 (by kernel_rfl) (by kernel_rfl) (memoO_ok phM4 (by kernel_rfl) (by kernel_rfl) (memoO_ok phM31 (by kernel_rfl) (by kernel_rfl) (memoO_ok phM62 (by kernel_rfl) (by kernel_rfl) K66t)))))
def F66c124 : Gn 1 := G66 (C66 F66k124 F108t)
theorem K66c124 : FOK Tryz.prog 66 (un 1 F66c124) := fokP (.cons K66k124 (.cons K108t .nil)) .nil hm Tryz.func66 (by kernel_rfl) (D66 F66k124 F108t) (H66 _)
theorem phS124 : stat [] phA124 phV124 phO124 = true := by kernel_rfl
theorem phR124 : runOk (un 1 F66c124 phA124 (mkS []) fun v S => some (v, S)) phV124 phO124 = true := by kernel_rfl
theorem phM124 : FOK Tryz.prog 66 (memoF [] phA124 phV124 phO124) := memo_ok K66c124 phS124 phR124
def phA126 : List V := [.i .i64 126]
def phV126 : V := (.sl (.i (.i (.o (.o (.o .h))))) 0 37 37)
def phO126 : List (Pos × List V) := [((.i (.i (.o (.o (.o .h))))), [cp1, cz0, cz0, cp1, cz0, cz0, cz0, cz0, cz0, cm1, cz0, cz0, cm1, cz0, cz0, cz0, cz0, cz0, cp1, cz0, cz0, cz0, cz0, cz0, cm1, cz0, cz0, cm1, cz0, cz0, cz0, cz0, cz0, cp1, cz0, cz0, cp1])]
def F66k126 : Gn 1 := cur 1 (memoO [] phA1 phV1 phO1 (memoO [] phA2 phV2 phO2 (memoO [] phA3 phV3 phO3 (memoO [] phA6 phV6 phO6 (memoO [] phA7 phV7 phO7 (memoO [] phA9 phV9 phO9 (memoO [] phA14 phV14 phO14 (memoO [] phA18 phV18 phO18 (memoO [] phA21 phV21 phO21 (memoO [] phA42 phV42 phO42 (memoO [] phA63 phV63 phO63 (un 1 F66t))))))))))))
theorem K66k126 : FOK Tryz.prog 66 (un 1 F66k126) := cur_ok 1 (memoO_ok phM1 (by kernel_rfl) (by kernel_rfl) (memoO_ok phM2 (by kernel_rfl) (by kernel_rfl) (memoO_ok phM3 (by kernel_rfl) (by kernel_rfl) (memoO_ok phM6 (by kernel_rfl) (by kernel_rfl) (memoO_ok phM7 (by kernel_rfl) (by kernel_rfl) (memoO_ok phM9 (by kernel_rfl) (by kernel_rfl) (memoO_ok phM14 (by kernel_rfl) (by kernel_rfl) (memoO_ok phM18 (by kernel_rfl) (by kernel_rfl) (memoO_ok phM21 (by kernel_rfl) (by kernel_rfl) (memoO_ok phM42 (by kernel_rfl) (by kernel_rfl) (memoO_ok phM63 (by kernel_rfl) (by kernel_rfl) K66t)))))))))))
def F66c126 : Gn 1 := G66 (C66 F66k126 F108t)
theorem K66c126 : FOK Tryz.prog 66 (un 1 F66c126) := fokP (.cons K66k126 (.cons K108t .nil)) .nil hm Tryz.func66 (by kernel_rfl) (D66 F66k126 F108t) (H66 _)
theorem phS126 : stat [] phA126 phV126 phO126 = true := by kernel_rfl
theorem phR126 : runOk (un 1 F66c126 phA126 (mkS []) fun v S => some (v, S)) phV126 phO126 = true := by kernel_rfl
theorem phM126 : FOK Tryz.prog 66 (memoF [] phA126 phV126 phO126) := memo_ok K66c126 phS126 phR126
def phA128 : List V := [.i .i64 128]
def phV128 : V := (.sl (.i (.i (.i (.o .h)))) 0 65 65)
def phO128 : List (Pos × List V) := [((.i (.i (.i (.o .h)))), [cp1, cz0, cz0, cz0, cz0, cz0, cz0, cz0, cz0, cz0, cz0, cz0, cz0, cz0, cz0, cz0, cz0, cz0, cz0, cz0, cz0, cz0, cz0, cz0, cz0, cz0, cz0, cz0, cz0, cz0, cz0, cz0, cz0, cz0, cz0, cz0, cz0, cz0, cz0, cz0, cz0, cz0, cz0, cz0, cz0, cz0, cz0, cz0, cz0, cz0, cz0, cz0, cz0, cz0, cz0, cz0, cz0, cz0, cz0, cz0, cz0, cz0, cz0, cz0, cp1])]
def F66k128 : Gn 1 := cur 1 (memoO [] phA1 phV1 phO1 (memoO [] phA2 phV2 phO2 (memoO [] phA4 phV4 phO4 (memoO [] phA8 phV8 phO8 (memoO [] phA16 phV16 phO16 (memoO [] phA32 phV32 phO32 (memoO [] phA64 phV64 phO64 (un 1 F66t))))))))
theorem K66k128 : FOK Tryz.prog 66 (un 1 F66k128) := cur_ok 1 (memoO_ok phM1 (by kernel_rfl) (by kernel_rfl) (memoO_ok phM2 (by kernel_rfl) (by kernel_rfl) (memoO_ok phM4 (by kernel_rfl) (by kernel_rfl) (memoO_ok phM8 (by kernel_rfl) (by kernel_rfl) (memoO_ok phM16 (by kernel_rfl) (by kernel_rfl) (memoO_ok phM32 (by kernel_rfl) (by kernel_rfl) (memoO_ok phM64 (by kernel_rfl) (by kernel_rfl) K66t)))))))
def F66c128 : Gn 1 := G66 (C66 F66k128 F108t)
theorem K66c128 : FOK Tryz.prog 66 (un 1 F66c128) := fokP (.cons K66k128 (.cons K108t .nil)) .nil hm Tryz.func66 (by kernel_rfl) (D66 F66k128 F108t) (H66 _)
theorem phS128 : stat [] phA128 phV128 phO128 = true := by kernel_rfl
theorem phR128 : runOk (un 1 F66c128 phA128 (mkS []) fun v S => some (v, S)) phV128 phO128 = true := by kernel_rfl
theorem phM128 : FOK Tryz.prog 66 (memoF [] phA128 phV128 phO128) := memo_ok K66c128 phS128 phR128
def phA130 : List V := [.i .i64 130]
def phV130 : V := (.sl (.i (.i (.i (.o .h)))) 0 49 49)
def phO130 : List (Pos × List V) := [((.i (.i (.i (.o .h)))), [cp1, cp1, cz0, cz0, cz0, cm1, cm1, cz0, cz0, cz0, cp1, cp1, cz0, cm1, cm1, cm1, cm1, cz0, cp1, cp1, cp1, cp1, cz0, cm1, cm1, cm1, cz0, cp1, cp1, cp1, cp1, cz0, cm1, cm1, cm1, cm1, cz0, cp1, cp1, cz0, cz0, cz0, cm1, cm1, cz0, cz0, cz0, cp1, cp1])]
def F66k130 : Gn 1 := cur 1 (memoO [] phA1 phV1 phO1 (memoO [] phA2 phV2 phO2 (memoO [] phA5 phV5 phO5 (memoO [] phA10 phV10 phO10 (memoO [] phA13 phV13 phO13 (memoO [] phA26 phV26 phO26 (memoO [] phA65 phV65 phO65 (un 1 F66t))))))))
theorem K66k130 : FOK Tryz.prog 66 (un 1 F66k130) := cur_ok 1 (memoO_ok phM1 (by kernel_rfl) (by kernel_rfl) (memoO_ok phM2 (by kernel_rfl) (by kernel_rfl) (memoO_ok phM5 (by kernel_rfl) (by kernel_rfl) (memoO_ok phM10 (by kernel_rfl) (by kernel_rfl) (memoO_ok phM13 (by kernel_rfl) (by kernel_rfl) (memoO_ok phM26 (by kernel_rfl) (by kernel_rfl) (memoO_ok phM65 (by kernel_rfl) (by kernel_rfl) K66t)))))))
def F66c130 : Gn 1 := G66 (C66 F66k130 F108t)
theorem K66c130 : FOK Tryz.prog 66 (un 1 F66c130) := fokP (.cons K66k130 (.cons K108t .nil)) .nil hm Tryz.func66 (by kernel_rfl) (D66 F66k130 F108t) (H66 _)
theorem phS130 : stat [] phA130 phV130 phO130 = true := by kernel_rfl
theorem phR130 : runOk (un 1 F66c130 phA130 (mkS []) fun v S => some (v, S)) phV130 phO130 = true := by kernel_rfl
theorem phM130 : FOK Tryz.prog 66 (memoF [] phA130 phV130 phO130) := memo_ok K66c130 phS130 phR130
def phA132 : List V := [.i .i64 132]
def phV132 : V := (.sl (.i (.i (.o (.o (.o .h))))) 0 41 41)
def phO132 : List (Pos × List V) := [((.i (.i (.o (.o (.o .h))))), [cp1, cz0, cp1, cz0, cz0, cz0, cm1, cz0, cm1, cz0, cz0, cz0, cp1, cz0, cp1, cz0, cz0, cz0, cm1, cz0, cm1, cz0, cm1, cz0, cz0, cz0, cp1, cz0, cp1, cz0, cz0, cz0, cm1, cz0, cm1, cz0, cz0, cz0, cp1, cz0, cp1])]
def F66k132 : Gn 1 := cur 1 (memoO [] phA1 phV1 phO1 (memoO [] phA2 phV2 phO2 (memoO [] phA3 phV3 phO3 (memoO [] phA4 phV4 phO4 (memoO [] phA6 phV6 phO6 (memoO [] phA11 phV11 phO11 (memoO [] phA12 phV12 phO12 (memoO [] phA22 phV22 phO22 (memoO [] phA33 phV33 phO33 (memoO [] phA44 phV44 phO44 (memoO [] phA66 phV66 phO66 (un 1 F66t))))))))))))
theorem K66k132 : FOK Tryz.prog 66 (un 1 F66k132) := cur_ok 1 (memoO_ok phM1 (by kernel_rfl) (by kernel_rfl) (memoO_ok phM2 (by kernel_rfl) (by kernel_rfl) (memoO_ok phM3 (by kernel_rfl) (by kernel_rfl) (memoO_ok phM4 (by kernel_rfl) (by kernel_rfl) (memoO_ok phM6 (by kernel_rfl) (by kernel_rfl) (memoO_ok phM11 (by kernel_rfl) (by kernel_rfl) (memoO_ok phM12 (by kernel_rfl) (by kernel_rfl) (memoO_ok phM22 (by kernel_rfl) (by kernel_rfl) (memoO_ok phM33 (by kernel_rfl) (by kernel_rfl) (memoO_ok phM44 (by kernel_rfl) (by kernel_rfl) (memoO_ok phM66 (by kernel_rfl) (by kernel_rfl) K66t)))))))))))
def F66c132 : Gn 1 := G66 (C66 F66k132 F108t)
theorem K66c132 : FOK Tryz.prog 66 (un 1 F66c132) := fokP (.cons K66k132 (.cons K108t .nil)) .nil hm Tryz.func66 (by kernel_rfl) (D66 F66k132 F108t) (H66 _)
theorem phS132 : stat [] phA132 phV132 phO132 = true := by kernel_rfl
theorem phR132 : runOk (un 1 F66c132 phA132 (mkS []) fun v S => some (v, S)) phV132 phO132 = true := by kernel_rfl
theorem phM132 : FOK Tryz.prog 66 (memoF [] phA132 phV132 phO132) := memo_ok K66c132 phS132 phR132
def phA136 : List V := [.i .i64 136]
def phV136 : V := (.sl (.i (.i (.i (.o .h)))) 0 65 65)
def phO136 : List (Pos × List V) := [((.i (.i (.i (.o .h)))), [cp1, cz0, cz0, cz0, cm1, cz0, cz0, cz0, cp1, cz0, cz0, cz0, cm1, cz0, cz0, cz0, cp1, cz0, cz0, cz0, cm1, cz0, cz0, cz0, cp1, cz0, cz0, cz0, cm1, cz0, cz0, cz0, cp1, cz0, cz0, cz0, cm1, cz0, cz0, cz0, cp1, cz0, cz0, cz0, cm1, cz0, cz0, cz0, cp1, cz0, cz0, cz0, cm1, cz0, cz0, cz0, cp1, cz0, cz0, cz0, cm1, cz0, cz0, cz0, cp1])]
def F66k136 : Gn 1 := cur 1 (memoO [] phA1 phV1 phO1 (memoO [] phA2 phV2 phO2 (memoO [] phA4 phV4 phO4 (memoO [] phA8 phV8 phO8 (memoO [] phA17 phV17 phO17 (memoO [] phA34 phV34 phO34 (memoO [] phA68 phV68 phO68 (un 1 F66t))))))))
theorem K66k136 : FOK Tryz.prog 66 (un 1 F66k136) := cur_ok 1 (memoO_ok phM1 (by kernel_rfl) (by kernel_rfl) (memoO_ok phM2 (by kernel_rfl) (by kernel_rfl) (memoO_ok phM4 (by kernel_rfl) (by kernel_rfl) (memoO_ok phM8 (by kernel_rfl) (by kernel_rfl) (memoO_ok phM17 (by kernel_rfl) (by kernel_rfl) (memoO_ok phM34 (by kernel_rfl) (by kernel_rfl) (memoO_ok phM68 (by kernel_rfl) (by kernel_rfl) K66t)))))))
def F66c136 : Gn 1 := G66 (C66 F66k136 F108t)
theorem K66c136 : FOK Tryz.prog 66 (un 1 F66c136) := fokP (.cons K66k136 (.cons K108t .nil)) .nil hm Tryz.func66 (by kernel_rfl) (D66 F66k136 F108t) (H66 _)
theorem phS136 : stat [] phA136 phV136 phO136 = true := by kernel_rfl
theorem phR136 : runOk (un 1 F66c136 phA136 (mkS []) fun v S => some (v, S)) phV136 phO136 = true := by kernel_rfl
theorem phM136 : FOK Tryz.prog 66 (memoF [] phA136 phV136 phO136) := memo_ok K66c136 phS136 phR136
def phA138 : List V := [.i .i64 138]
def phV138 : V := (.sl (.i (.i (.i (.o .h)))) 0 45 45)
def phO138 : List (Pos × List V) := [((.i (.i (.i (.o .h)))), [cp1, cp1, cz0, cm1, cm1, cz0, cp1, cp1, cz0, cm1, cm1, cz0, cp1, cp1, cz0, cm1, cm1, cz0, cp1, cp1, cz0, cm1, cm1, cm1, cz0, cp1, cp1, cz0, cm1, cm1, cz0, cp1, cp1, cz0, cm1, cm1, cz0, cp1, cp1, cz0, cm1, cm1, cz0, cp1, cp1])]
def F66k138 : Gn 1 := cur 1 (memoO [] phA1 phV1 phO1 (memoO [] phA2 phV2 phO2 (memoO [] phA3 phV3 phO3 (memoO [] phA6 phV6 phO6 (memoO [] phA23 phV23 phO23 (memoO [] phA46 phV46 phO46 (memoO [] phA69 phV69 phO69 (un 1 F66t))))))))
theorem K66k138 : FOK Tryz.prog 66 (un 1 F66k138) := cur_ok 1 (memoO_ok phM1 (by kernel_rfl) (by kernel_rfl) (memoO_ok phM2 (by kernel_rfl) (by kernel_rfl) (memoO_ok phM3 (by kernel_rfl) (by kernel_rfl) (memoO_ok phM6 (by kernel_rfl) (by kernel_rfl) (memoO_ok phM23 (by kernel_rfl) (by kernel_rfl) (memoO_ok phM46 (by kernel_rfl) (by kernel_rfl) (memoO_ok phM69 (by kernel_rfl) (by kernel_rfl) K66t)))))))
def F66c138 : Gn 1 := G66 (C66 F66k138 F108t)
theorem K66c138 : FOK Tryz.prog 66 (un 1 F66c138) := fokP (.cons K66k138 (.cons K108t .nil)) .nil hm Tryz.func66 (by kernel_rfl) (D66 F66k138 F108t) (H66 _)
theorem phS138 : stat [] phA138 phV138 phO138 = true := by kernel_rfl
theorem phR138 : runOk (un 1 F66c138 phA138 (mkS []) fun v S => some (v, S)) phV138 phO138 = true := by kernel_rfl
theorem phM138 : FOK Tryz.prog 66 (memoF [] phA138 phV138 phO138) := memo_ok K66c138 phS138 phR138
def phA140 : List V := [.i .i64 140]
def phV140 : V := (.sl (.i (.i (.o (.o (.o .h))))) 0 49 49)
def phO140 : List (Pos × List V) := [((.i (.i (.o (.o (.o .h))))), [cp1, cz0, cp1, cz0, cz0, cz0, cz0, cz0, cz0, cz0, cm1, cz0, cm1, cz0, cm1, cz0, cm1, cz0, cz0, cz0, cp1, cz0, cp1, cz0, cp1, cz0, cp1, cz0, cp1, cz0, cz0, cz0, cm1, cz0, cm1, cz0, cm1, cz0, cm1, cz0, cz0, cz0, cz0, cz0, cz0, cz0, cp1, cz0, cp1])]
def F66k140 : Gn 1 := cur 1 (memoO [] phA1 phV1 phO1 (memoO [] phA2 phV2 phO2 (memoO [] phA4 phV4 phO4 (memoO [] phA5 phV5 phO5 (memoO [] phA7 phV7 phO7 (memoO [] phA10 phV10 phO10 (memoO [] phA14 phV14 phO14 (memoO [] phA20 phV20 phO20 (memoO [] phA28 phV28 phO28 (memoO [] phA35 phV35 phO35 (memoO [] phA70 phV70 phO70 (un 1 F66t))))))))))))
theorem K66k140 : FOK Tryz.prog 66 (un 1 F66k140) := cur_ok 1 (memoO_ok phM1 (by kernel_rfl) (by kernel_rfl) (memoO_ok phM2 (by kernel_rfl) (by kernel_rfl) (memoO_ok phM4 (by kernel_rfl) (by kernel_rfl) (memoO_ok phM5 (by kernel_rfl) (by kernel_rfl) (memoO_ok phM7 (by kernel_rfl) (by kernel_rfl) (memoO_ok phM10 (by kernel_rfl) (by kernel_rfl) (memoO_ok phM14 (by kernel_rfl) (by kernel_rfl) (memoO_ok phM20 (by kernel_rfl) (by kernel_rfl) (memoO_ok phM28 (by kernel_rfl) (by kernel_rfl) (memoO_ok phM35 (by kernel_rfl) (by kernel_rfl) (memoO_ok phM70 (by kernel_rfl) (by kernel_rfl) K66t)))))))))))
def F66c140 : Gn 1 := G66 (C66 F66k140 F108t)
theorem K66c140 : FOK Tryz.prog 66 (un 1 F66c140) := fokP (.cons K66k140 (.cons K108t .nil)) .nil hm Tryz.func66 (by kernel_rfl) (D66 F66k140 F108t) (H66 _)
theorem phS140 : stat [] phA140 phV140 phO140 = true := by kernel_rfl
theorem phR140 : runOk (un 1 F66c140 phA140 (mkS []) fun v S => some (v, S)) phV140 phO140 = true := by kernel_rfl
theorem phM140 : FOK Tryz.prog 66 (memoF [] phA140 phV140 phO140) := memo_ok K66c140 phS140 phR140
def phA144 : List V := [.i .i64 144]
def phV144 : V := (.sl (.o (.o (.i (.i (.o .h))))) 0 49 49)
def phO144 : List (Pos × List V) := [((.o (.o (.i (.i (.o .h))))), [cp1, cz0, cz0, cz0, cz0, cz0, cz0, cz0, cz0, cz0, cz0, cz0, cz0, cz0, cz0, cz0, cz0, cz0, cz0, cz0, cz0, cz0, cz0, cz0, cm1, cz0, cz0, cz0, cz0, cz0, cz0, cz0, cz0, cz0, cz0, cz0, cz0, cz0, cz0, cz0, cz0, cz0, cz0, cz0, cz0, cz0, cz0, cz0, cp1])]
def F66k144 : Gn 1 := cur 1 (memoO [] phA1 phV1 phO1 (memoO [] phA2 phV2 phO2 (memoO [] phA3 phV3 phO3 (memoO [] phA4 phV4 phO4 (memoO [] phA6 phV6 phO6 (memoO [] phA8 phV8 phO8 (memoO [] phA9 phV9 phO9 (memoO [] phA12 phV12 phO12 (memoO [] phA16 phV16 phO16 (memoO [] phA18 phV18 phO18 (memoO [] phA24 phV24 phO24 (memoO [] phA36 phV36 phO36 (memoO [] phA48 phV48 phO48 (memoO [] phA72 phV72 phO72 (un 1 F66t)))))))))))))))
theorem K66k144 : FOK Tryz.prog 66 (un 1 F66k144) := cur_ok 1 (memoO_ok phM1 (by kernel_rfl) (by kernel_rfl) (memoO_ok phM2 (by kernel_rfl) (by kernel_rfl) (memoO_ok phM3 (by kernel_rfl) (by kernel_rfl) (memoO_ok phM4 (by kernel_rfl) (by kernel_rfl) (memoO_ok phM6 (by kernel_rfl) (by kernel_rfl) (memoO_ok phM8 (by kernel_rfl) (by kernel_rfl) (memoO_ok phM9 (by kernel_rfl) (by kernel_rfl) (memoO_ok phM12 (by kernel_rfl) (by kernel_rfl) (memoO_ok phM16 (by kernel_rfl) (by kernel_rfl) (memoO_ok phM18 (by kernel_rfl) (by kernel_rfl) (memoO_ok phM24 (by kernel_rfl) (by kernel_rfl) (memoO_ok phM36 (by kernel_rfl) (by kernel_rfl) (memoO_ok phM48 (by kernel_rfl) (by kernel_rfl) (memoO_ok phM72 (by kernel_rfl) (by kernel_rfl) K66t))))))))))))))
def F66c144 : Gn 1 := G66 (C66 F66k144 F108t)
theorem K66c144 : FOK Tryz.prog 66 (un 1 F66c144) := fokP (.cons K66k144 (.cons K108t .nil)) .nil hm Tryz.func66 (by kernel_rfl) (D66 F66k144 F108t) (H66 _)
theorem phS144 : stat [] phA144 phV144 phO144 = true := by kernel_rfl
theorem phR144 : runOk (un 1 F66c144 phA144 (mkS []) fun v S => some (v, S)) phV144 phO144 = true := by kernel_rfl
theorem phM144 : FOK Tryz.prog 66 (memoF [] phA144 phV144 phO144) := memo_ok K66c144 phS144 phR144
def phA150 : List V := [.i .i64 150]
def phV150 : V := (.sl (.i (.i (.o (.o (.o .h))))) 0 41 41)
def phO150 : List (Pos × List V) := [((.i (.i (.o (.o (.o .h))))), [cp1, cz0, cz0, cz0, cz0, cp1, cz0, cz0, cz0, cz0, cz0, cz0, cz0, cz0, cz0, cm1, cz0, cz0, cz0, cz0, cm1, cz0, cz0, cz0, cz0, cm1, cz0, cz0, cz0, cz0, cz0, cz0, cz0, cz0, cz0, cp1, cz0, cz0, cz0, cz0, cp1])]
def F66k150 : Gn 1 := cur 1 (memoO [] phA1 phV1 phO1 (memoO [] phA2 phV2 phO2 (memoO [] phA3 phV3 phO3 (memoO [] phA5 phV5 phO5 (memoO [] phA6 phV6 phO6 (memoO [] phA10 phV10 phO10 (memoO [] phA15 phV15 phO15 (memoO [] phA25 phV25 phO25 (memoO [] phA30 phV30 phO30 (memoO [] phA50 phV50 phO50 (memoO [] phA75 phV75 phO75 (un 1 F66t))))))))))))
theorem K66k150 : FOK Tryz.prog 66 (un 1 F66k150) := cur_ok 1 (memoO_ok phM1 (by kernel_rfl) (by kernel_rfl) (memoO_ok phM2 (by kernel_rfl) (by kernel_rfl) (memoO_ok phM3 (by kernel_rfl) (by kernel_rfl) (memoO_ok phM5 (by kernel_rfl) (by kernel_rfl) (memoO_ok phM6 (by kernel_rfl) (by kernel_rfl) (memoO_ok phM10 (by kernel_rfl) (by kernel_rfl) (memoO_ok phM15 (by kernel_rfl) (by kernel_rfl) (memoO_ok phM25 (by kernel_rfl) (by kernel_rfl) (memoO_ok phM30 (by kernel_rfl) (by kernel_rfl) (memoO_ok phM50 (by kernel_rfl) (by kernel_rfl) (memoO_ok phM75 (by kernel_rfl) (by kernel_rfl) K66t)))))))))))
def F66c150 : Gn 1 := G66 (C66 F66k150 F108t)
theorem K66c150 : FOK Tryz.prog 66 (un 1 F66c150) := fokP (.cons K66k150 (.cons K108t .nil)) .nil hm Tryz.func66 (by kernel_rfl) (D66 F66k150 F108t) (H66 _)
theorem phS150 : stat [] phA150 phV150 phO150 = true := by kernel_rfl
theorem phR150 : runOk (un 1 F66c150 phA150 (mkS []) fun v S => some (v, S)) phV150 phO150 = true := by kernel_rfl
theorem phM150 : FOK Tryz.prog 66 (memoF [] phA150 phV150 phO150) := memo_ok K66c150 phS150 phR150
def phA154 : List V := [.i .i64 154]
def phV154 : V := (.sl (.i (.i (.i (.o .h)))) 0 61 61)
def phO154 : List (Pos × List V) := [((.i (.i (.i (.o .h)))), [cp1, cp1, cz0, cz0, cz0, cz0, cz0, cm1, cm1, cz0, cz0, cm1, cm1, cz0, cp1, cp1, cz0, cz0, cp1, cp1, cz0, cm1, cz0, cp1, cz0, cm1, cm1, cz0, cp1, cz0, cm1, cz0, cp1, cz0, cm1, cm1, cz0, cp1, cz0, cm1, cz0, cp1, cp1, cz0, cz0, cp1, cp1, cz0, cm1, cm1, cz0, cz0, cm1, cm1, cz0, cz0, cz0, cz0, cz0, cp1, cp1])]
def F66k154 : Gn 1 := cur 1 (memoO [] phA1 phV1 phO1 (memoO [] phA2 phV2 phO2 (memoO [] phA7 phV7 phO7 (memoO [] phA11 phV11 phO11 (memoO [] phA14 phV14 phO14 (memoO [] phA22 phV22 phO22 (memoO [] phA77 phV77 phO77 (un 1 F66t))))))))
theorem K66k154 : FOK Tryz.prog 66 (un 1 F66k154) := cur_ok 1 (memoO_ok phM1 (by kernel_rfl) (by kernel_rfl) (memoO_ok phM2 (by kernel_rfl) (by kernel_rfl) (memoO_ok phM7 (by kernel_rfl) (by kernel_rfl) (memoO_ok phM11 (by kernel_rfl) (by kernel_rfl) (memoO_ok phM14 (by kernel_rfl) (by kernel_rfl) (memoO_ok phM22 (by kernel_rfl) (by kernel_rfl) (memoO_ok phM77 (by kernel_rfl) (by kernel_rfl) K66t)))))))
def F66c154 : Gn 1 := G66 (C66 F66k154 F108t)
theorem K66c154 : FOK Tryz.prog 66 (un 1 F66c154) := fokP (.cons K66k154 (.cons K108t .nil)) .nil hm Tryz.func66 (by kernel_rfl) (D66 F66k154 F108t) (H66 _)
theorem phS154 : stat [] phA154 phV154 phO154 = true := by kernel_rfl
theorem phR154 : runOk (un 1 F66c154 phA154 (mkS []) fun v S => some (v, S)) phV154 phO154 = true := by kernel_rfl
theorem phM154 : FOK Tryz.prog 66 (memoF [] phA154 phV154 phO154) := memo_ok K66c154 phS154 phR154
def phA156 : List V := [.i .i64 156]
def phV156 : V := (.sl (.i (.i (.o (.o (.o .h))))) 0 49 49)
def phO156 : List (Pos × List V) := [((.i (.i (.o (.o (.o .h))))), [cp1, cz0, cp1, cz0, cz0, cz0, cm1, cz0, cm1, cz0, cz0, cz0, cp1, cz0, cp1, cz0, cz0, cz0, cm1, cz0, cm1, cz0, cz0, cz0, cp1, cz0, cz0, cz0, cm1, cz0, cm1, cz0, cz0, cz0, cp1, cz0, cp1, cz0, cz0, cz0, cm1, cz0, cm1, cz0, cz0, cz0, cp1, cz0, cp1])]
def F66k156 : Gn 1 := cur 1 (memoO [] phA1 phV1 phO1 (memoO [] phA2 phV2 phO2 (memoO [] phA3 phV3 phO3 (memoO [] phA4 phV4 phO4 (memoO [] phA6 phV6 phO6 (memoO [] phA12 phV12 phO12 (memoO [] phA13 phV13 phO13 (memoO [] phA26 phV26 phO26 (memoO [] phA39 phV39 phO39 (memoO [] phA52 phV52 phO52 (memoO [] phA78 phV78 phO78 (un 1 F66t))))))))))))
theorem K66k156 : FOK Tryz.prog 66 (un 1 F66k156) := cur_ok 1 (memoO_ok phM1 (by kernel_rfl) (by kernel_rfl) (memoO_ok phM2 (by kernel_rfl) (by kernel_rfl) (memoO_ok phM3 (by kernel_rfl) (by kernel_rfl) (memoO_ok phM4 (by kernel_rfl) (by kernel_rfl) (memoO_ok phM6 (by kernel_rfl) (by kernel_rfl) (memoO_ok phM12 (by kernel_rfl) (by kernel_rfl) (memoO_ok phM13 (by kernel_rfl) (by kernel_rfl) (memoO_ok phM26 (by kernel_rfl) (by kernel_rfl) (memoO_ok phM39 (by kernel_rfl) (by kernel_rfl) (memoO_ok phM52 (by kernel_rfl) (by kernel_rfl) (memoO_ok phM78 (by kernel_rfl) (by kernel_rfl) K66t)))))))))))
def F66c156 : Gn 1 := G66 (C66 F66k156 F108t)
theorem K66c156 : FOK Tryz.prog 66 (un 1 F66c156) := fokP (.cons K66k156 (.cons K108t .nil)) .nil hm Tryz.func66 (by kernel_rfl) (D66 F66k156 F108t) (H66 _)
theorem phS156 : stat [] phA156 phV156 phO156 = true := by kernel_rfl
theorem phR156 : runOk (un 1 F66c156 phA156 (mkS []) fun v S => some (v, S)) phV156 phO156 = true := by kernel_rfl
theorem phM156 : FOK Tryz.prog 66 (memoF [] phA156 phV156 phO156) := memo_ok K66c156 phS156 phR156
def phA160 : List V := [.i .i64 160]
def phV160 : V := (.sl (.i (.i (.o (.o (.o .h))))) 0 65 65)
def phO160 : List (Pos × List V) := [((.i (.i (.o (.o (.o .h))))), [cp1, cz0, cz0, cz0, cz0, cz0, cz0, cz0, cz0, cz0, cz0, cz0, cz0, cz0, cz0, cz0, cm1, cz0, cz0, cz0, cz0, cz0, cz0, cz0, cz0, cz0, cz0, cz0, cz0, cz0, cz0, cz0, cp1, cz0, cz0, cz0, cz0, cz0, cz0, cz0, cz0, cz0, cz0, cz0, cz0, cz0, cz0, cz0, cm1, cz0, cz0, cz0, cz0, cz0, cz0, cz0, cz0, cz0, cz0, cz0, cz0, cz0, cz0, cz0, cp1])]
def F66k160 : Gn 1 := cur 1 (memoO [] phA1 phV1 phO1 (memoO [] phA2 phV2 phO2 (memoO [] phA4 phV4 phO4 (memoO [] phA5 phV5 phO5 (memoO [] phA8 phV8 phO8 (memoO [] phA10 phV10 phO10 (memoO [] phA16 phV16 phO16 (memoO [] phA20 phV20 phO20 (memoO [] phA32 phV32 phO32 (memoO [] phA40 phV40 phO40 (memoO [] phA80 phV80 phO80 (un 1 F66t))))))))))))
theorem K66k160 : FOK Tryz.prog 66 (un 1 F66k160) := cur_ok 1 (memoO_ok phM1 (by kernel_rfl) (by kernel_rfl) (memoO_ok phM2 (by kernel_rfl) (by kernel_rfl) (memoO_ok phM4 (by kernel_rfl) (by kernel_rfl) (memoO_ok phM5 (by kernel_rfl) (by kernel_rfl) (memoO_ok phM8 (by kernel_rfl) (by kernel_rfl) (memoO_ok phM10 (by kernel_rfl) (by kernel_rfl) (memoO_ok phM16 (by kernel_rfl) (by kernel_rfl) (memoO_ok phM20 (by kernel_rfl) (by kernel_rfl) (memoO_ok phM32 (by kernel_rfl) (by kernel_rfl) (memoO_ok phM40 (by kernel_rfl) (by kernel_rfl) (memoO_ok phM80 (by kernel_rfl) (by kernel_rfl) K66t)))))))))))
def F66c160 : Gn 1 := G66 (C66 F66k160 F108t)
theorem K66c160 : FOK Tryz.prog 66 (un 1 F66c160) := fokP (.cons K66k160 (.cons K108t .nil)) .nil hm Tryz.func66 (by kernel_rfl) (D66 F66k160 F108t) (H66 _)
theorem phS160 : stat [] phA160 phV160 phO160 = true := by kernel_rfl
theorem phR160 : runOk (un 1 F66c160 phA160 (mkS []) fun v S => some (v, S)) phV160 phO160 = true := by kernel_rfl
theorem phM160 : FOK Tryz.prog 66 (memoF [] phA160 phV160 phO160) := memo_ok K66c160 phS160 phR160
def phA162 : List V := [.i .i64 162]
def phV162 : V := (.sl (.i (.o (.i (.i .h)))) 0 55 55)
def phO162 : List (Pos × List V) := [((.i (.o (.i (.i .h)))), [cp1, cz0, cz0, cz0, cz0, cz0, cz0, cz0, cz0, cz0, cz0, cz0, cz0, cz0, cz0, cz0, cz0, cz0, cz0, cz0, cz0, cz0, cz0, cz0, cz0, cz0, cz0, cm1, cz0, cz0, cz0, cz0, cz0, cz0, cz0, cz0, cz0, cz0, cz0, cz0, cz0, cz0, cz0, cz0, cz0, cz0, cz0, cz0, cz0, cz0, cz0, cz0, cz0, cz0, cp1])]
def F66k162 : Gn 1 := cur 1 (memoO [] phA1 phV1 phO1 (memoO [] phA2 phV2 phO2 (memoO [] phA3 phV3 phO3 (memoO [] phA6 phV6 phO6 (memoO [] phA9 phV9 phO9 (memoO [] phA18 phV18 phO18 (memoO [] phA27 phV27 phO27 (memoO [] phA54 phV54 phO54 (memoO [] phA81 phV81 phO81 (un 1 F66t))))))))))
theorem K66k162 : FOK Tryz.prog 66 (un 1 F66k162) := cur_ok 1 (memoO_ok phM1 (by kernel_rfl) (by kernel_rfl) (memoO_ok phM2 (by kernel_rfl) (by kernel_rfl) (memoO_ok phM3 (by kernel_rfl) (by kernel_rfl) (memoO_ok phM6 (by kernel_rfl) (by kernel_rfl) (memoO_ok phM9 (by kernel_rfl) (by kernel_rfl) (memoO_ok phM18 (by kernel_rfl) (by kernel_rfl) (memoO_ok phM27 (by kernel_rfl) (by kernel_rfl) (memoO_ok phM54 (by kernel_rfl) (by kernel_rfl) (memoO_ok phM81 (by kernel_rfl) (by kernel_rfl) K66t)))))))))
def F66c162 : Gn 1 := G66 (C66 F66k162 F108t)
theorem K66c162 : FOK Tryz.prog 66 (un 1 F66c162) := fokP (.cons K66k162 (.cons K108t .nil)) .nil hm Tryz.func66 (by kernel_rfl) (D66 F66k162 F108t) (H66 _)
theorem phS162 : stat [] phA162 phV162 phO162 = true := by kernel_rfl
theorem phR162 : runOk (un 1 F66c162 phA162 (mkS []) fun v S => some (v, S)) phV162 phO162 = true := by kernel_rfl
theorem phM162 : FOK Tryz.prog 66 (memoF [] phA162 phV162 phO162) := memo_ok K66c162 phS162 phR162
def phA168 : List V := [.i .i64 168]
def phV168 : V := (.sl (.i (.i (.i (.i (.o .h))))) 0 49 49)
def phO168 : List (Pos × List V) := [((.i (.i (.i (.i (.o .h))))), [cp1, cz0, cz0, cz0, cp1, cz0, cz0, cz0, cz0, cz0, cz0, cz0, cm1, cz0, cz0, cz0, cm1, cz0, cz0, cz0, cz0, cz0, cz0, cz0, cp1, cz0, cz0, cz0, cz0, cz0, cz0, cz0, cm1, cz0, cz0, cz0, cm1, cz0, cz0, cz0, cz0, cz0, cz0, cz0, cp1, cz0, cz0, cz0, cp1])]
def F66k168 : Gn 1 := cur 1 (memoO [] phA1 phV1 phO1 (memoO [] phA2 phV2 phO2 (memoO [] phA3 phV3 phO3 (memoO [] phA4 phV4 phO4 (memoO [] phA6 phV6 phO6 (memoO [] phA7 phV7 phO7 (memoO [] phA8 phV8 phO8 (memoO [] phA12 phV12 phO12 (memoO [] phA14 phV14 phO14 (memoO [] phA21 phV21 phO21 (memoO [] phA24 phV24 phO24 (memoO [] phA28 phV28 phO28 (memoO [] phA42 phV42 phO42 (memoO [] phA56 phV56 phO56 (memoO [] phA84 phV84 phO84 (un 1 F66t))))))))))))))))
theorem K66k168 : FOK Tryz.prog 66 (un 1 F66k168) := cur_ok 1 (memoO_ok phM1 (by kernel_rfl) (by kernel_rfl) (memoO_ok phM2 (by kernel_rfl) (by kernel_rfl) (memoO_ok phM3 (by kernel_rfl) (by kernel_rfl) (memoO_ok phM4 (by kernel_rfl) (by kernel_rfl) (memoO_ok phM6 (by kernel_rfl) (by kernel_rfl) (memoO_ok phM7 (by kernel_rfl) (by kernel_rfl) (memoO_ok phM8 (by kernel_rfl) (by kernel_rfl) (memoO_ok phM12 (by kernel_rfl) (by kernel_rfl) (memoO_ok phM14 (by kernel_rfl) (by kernel_rfl) (memoO_ok phM21 (by kernel_rfl) (by kernel_rfl) (memoO_ok phM24 (by kernel_rfl) (by kernel_rfl) (memoO_ok phM28 (by kernel_rfl) (by kernel_rfl) (memoO_ok phM42 (by kernel_rfl) (by kernel_rfl) (memoO_ok phM56 (by kernel_rfl) (by kernel_rfl) (memoO_ok phM84 (by kernel_rfl) (by kernel_rfl) K66t)))))))))))))))
def F66c168 : Gn 1 := G66 (C66 F66k168 F108t)
theorem K66c168 : FOK Tryz.prog 66 (un 1 F66c168) := fokP (.cons K66k168 (.cons K108t .nil)) .nil hm Tryz.func66 (by kernel_rfl) (D66 F66k168 F108t) (H66 _)
theorem phS168 : stat [] phA168 phV168 phO168 = true := by kernel_rfl
theorem phR168 : runOk (un 1 F66c168 phA168 (mkS []) fun v S => some (v, S)) phV168 phO168 = true := by kernel_rfl
theorem phM168 : FOK Tryz.prog 66 (memoF [] phA168 phV168 phO168) := memo_ok K66c168 phS168 phR168
def phA170 : List V := [.i .i64 170]
def phV170 : V := (.sl (.i (.i (.i (.o .h)))) 0 65 65)
def phO170 : List (Pos × List V) := [((.i (.i (.i (.o .h)))), [cp1, cp1, cz0, cz0, cz0, cm1, cm1, cz0, cz0, cz0, cp1, cp1, cz0, cz0, cz0, cm1, cm1, cm1, cm1, cz0, cp1, cp1, cp1, cp1, cz0, cm1, cm1, cm1, cm1, cz0, cp1, cp1, cp1, cp1, cp1, cz0, cm1, cm1, cm1, cm1, cz0, cp1, cp1, cp1, cp1, cz0, cm1, cm1, cm1, cm1, cz0, cz0, cz0, cp1, cp1, cz0, cz0, cz0, cm1, cm1, cz0, cz0, cz0, cp1, cp1])]
def F66k170 : Gn 1 := cur 1 (memoO [] phA1 phV1 phO1 (memoO [] phA2 phV2 phO2 (memoO [] phA5 phV5 phO5 (memoO [] phA10 phV10 phO10 (memoO [] phA17 phV17 phO17 (memoO [] phA34 phV34 phO34 (memoO [] phA85 phV85 phO85 (un 1 F66t))))))))
theorem K66k170 : FOK Tryz.prog 66 (un 1 F66k170) := cur_ok 1 (memoO_ok phM1 (by kernel_rfl) (by kernel_rfl) (memoO_ok phM2 (by kernel_rfl) (by kernel_rfl) (memoO_ok phM5 (by kernel_rfl) (by kernel_rfl) (memoO_ok phM10 (by kernel_rfl) (by kernel_rfl) (memoO_ok phM17 (by kernel_rfl) (by kernel_rfl) (memoO_ok phM34 (by kernel_rfl) (by kernel_rfl) (memoO_ok phM85 (by kernel_rfl) (by kernel_rfl) K66t)))))))
def F66c170 : Gn 1 := G66 (C66 F66k170 F108t)
theorem K66c170 : FOK Tryz.prog 66 (un 1 F66c170) := fokP (.cons K66k170 (.cons K108t .nil)) .nil hm Tryz.func66 (by kernel_rfl) (D66 F66k170 F108t) (H66 _)
theorem phS170 : stat [] phA170 phV170 phO170 = true := by kernel_rfl
theorem phR170 : runOk (un 1 F66c170 phA170 (mkS []) fun v S => some (v, S)) phV170 phO170 = true := by kernel_rfl
theorem phM170 : FOK Tryz.prog 66 (memoF [] phA170 phV170 phO170) := memo_ok K66c170 phS170 phR170
def phA174 : List V := [.i .i64 174]
def phV174 : V := (.sl (.i (.i (.i (.o .h)))) 0 57 57)
def phO174 : List (Pos × List V) := [((.i (.i (.i (.o .h)))), [cp1, cp1, cz0, cm1, cm1, cz0, cp1, cp1, cz0, cm1, cm1, cz0, cp1, cp1, cz0, cm1, cm1, cz0, cp1, cp1, cz0, cm1, cm1, cz0, cp1, cp1, cz0, cm1, cm1, cm1, cz0, cp1, cp1, cz0, cm1, cm1, cz0, cp1, cp1, cz0, cm1, cm1, cz0, cp1, cp1, cz0, cm1, cm1, cz0, cp1, cp1, cz0, cm1, cm1, cz0, cp1, cp1])]
def F66k174 : Gn 1 := cur 1 (memoO [] phA1 phV1 phO1 (memoO [] phA2 phV2 phO2 (memoO [] phA3 phV3 phO3 (memoO [] phA6 phV6 phO6 (memoO [] phA29 phV29 phO29 (memoO [] phA58 phV58 phO58 (memoO [] phA87 phV87 phO87 (un 1 F66t))))))))
theorem K66k174 : FOK Tryz.prog 66 (un 1 F66k174) := cur_ok 1 (memoO_ok phM1 (by kernel_rfl) (by kernel_rfl) (memoO_ok phM2 (by kernel_rfl) (by kernel_rfl) (memoO_ok phM3 (by kernel_rfl) (by kernel_rfl) (memoO_ok phM6 (by kernel_rfl) (by kernel_rfl) (memoO_ok phM29 (by kernel_rfl) (by kernel_rfl) (memoO_ok phM58 (by kernel_rfl) (by kernel_rfl) (memoO_ok phM87 (by kernel_rfl) (by kernel_rfl) K66t)))))))
def F66c174 : Gn 1 := G66 (C66 F66k174 F108t)
theorem K66c174 : FOK Tryz.prog 66 (un 1 F66c174) := fokP (.cons K66k174 (.cons K108t .nil)) .nil hm Tryz.func66 (by kernel_rfl) (D66 F66k174 F108t) (H66 _)
theorem phS174 : stat [] phA174 phV174 phO174 = true := by kernel_rfl
theorem phR174 : runOk (un 1 F66c174 phA174 (mkS []) fun v S => some (v, S)) phV174 phO174 = true := by kernel_rfl
theorem phM174 : FOK Tryz.prog 66 (memoF [] phA174 phV174 phO174) := memo_ok K66c174 phS174 phR174
def phA180 : List V := [.i .i64 180]
def phV180 : V := (.sl (.i (.o (.i (.o (.i .h))))) 0 49 49)
def phO180 : List (Pos × List V) := [((.i (.o (.i (.o (.i .h))))), [cp1, cz0, cz0, cz0, cz0, cz0, cp1, cz0, cz0, cz0, cz0, cz0, cz0, cz0, cz0, cz0, cz0, cz0, cm1, cz0, cz0, cz0, cz0, cz0, cm1, cz0, cz0, cz0, cz0, cz0, cm1, cz0, cz0, cz0, cz0, cz0, cz0, cz0, cz0, cz0, cz0, cz0, cp1, cz0, cz0, cz0, cz0, cz0, cp1])]
def F66k180 : Gn 1 := cur 1 (memoO [] phA1 phV1 phO1 (memoO [] phA2 phV2 phO2 (memoO [] phA3 phV3 phO3 (memoO [] phA4 phV4 phO4 (memoO [] phA5 phV5 phO5 (memoO [] phA6 phV6 phO6 (memoO [] phA9 phV9 phO9 (memoO [] phA10 phV10 phO10 (memoO [] phA12 phV12 phO12 (memoO [] phA15 phV15 phO15 (memoO [] phA18 phV18 phO18 (memoO [] phA20 phV20 phO20 (memoO [] phA30 phV30 phO30 (memoO [] phA36 phV36 phO36 (memoO [] phA45 phV45 phO45 (memoO [] phA60 phV60 phO60 (memoO [] phA90 phV90 phO90 (un 1 F66t))))))))))))))))))
theorem K66k180 : FOK Tryz.prog 66 (un 1 F66k180) := cur_ok 1 (memoO_ok phM1 (by kernel_rfl) (by kernel_rfl) (memoO_ok phM2 (by kernel_rfl) (by kernel_rfl) (memoO_ok phM3 (by kernel_rfl) (by kernel_rfl) (memoO_ok phM4 (by kernel_rfl) (by kernel_rfl) (memoO_ok phM5 (by kernel_rfl) (by kernel_rfl) (memoO_ok phM6 (by kernel_rfl) (by kernel_rfl) (memoO_ok phM9 (by kernel_rfl) (by kernel_rfl) (memoO_ok phM10 (by kernel_rfl) (by kernel_rfl) (memoO_ok phM12 (by kernel_rfl) (by kernel_rfl) (memoO_ok phM15 (by kernel_rfl) (by kernel_rfl) (memoO_ok phM18 (by kernel_rfl) (by kernel_rfl) (memoO_ok phM20 (by kernel_rfl) (by kernel_rfl) (memoO_ok phM30 (by kernel_rfl) (by kernel_rfl) (memoO_ok phM36 (by kernel_rfl) (by kernel_rfl) (memoO_ok phM45 (by kernel_rfl) (by kernel_rfl) (memoO_ok phM60 (by kernel_rfl) (by kernel_rfl) (memoO_ok phM90 (by kernel_rfl) (by kernel_rfl) K66t)))))))))))))))))
def F66c180 : Gn 1 := G66 (C66 F66k180 F108t)
theorem K66c180 : FOK Tryz.prog 66 (un 1 F66c180) := fokP (.cons K66k180 (.cons K108t .nil)) .nil hm Tryz.func66 (by kernel_rfl) (D66 F66k180 F108t) (H66 _)
theorem phS180 : stat [] phA180 phV180 phO180 = true := by kernel_rfl
theorem phR180 : runOk (un 1 F66c180 phA180 (mkS []) fun v S => some (v, S)) phV180 phO180 = true := by kernel_rfl
theorem phM180 : FOK Tryz.prog 66 (memoF [] phA180 phV180 phO180) := memo_ok K66c180 phS180 phR180
def phA186 : List V := [.i .i64 186]
def phV186 : V := (.sl (.i (.i (.i (.o .h)))) 0 61 61)
def phO186 : List (Pos × List V) := [((.i (.i (.i (.o .h)))), [cp1, cp1, cz0, cm1, cm1, cz0, cp1, cp1, cz0, cm1, cm1, cz0, cp1, cp1, cz0, cm1, cm1, cz0, cp1, cp1, cz0, cm1, cm1, cz0, cp1, cp1, cz0, cm1, cm1, cz0, cp1, cz0, cm1, cm1, cz0, cp1, cp1, cz0, cm1, cm1, cz0, cp1, cp1, cz0, cm1, cm1, cz0, cp1, cp1, cz0, cm1, cm1, cz0, cp1, cp1, cz0, cm1, cm1, cz0, cp1, cp1])]
def F66k186 : Gn 1 := cur 1 (memoO [] phA1 phV1 phO1 (memoO [] phA2 phV2 phO2 (memoO [] phA3 phV3 phO3 (memoO [] phA6 phV6 phO6 (memoO [] phA31 phV31 phO31 (memoO [] phA62 phV62 phO62 (memoO [] phA93 phV93 phO93 (un 1 F66t))))))))
theorem K66k186 : FOK Tryz.prog 66 (un 1 F66k186) := cur_ok 1 (memoO_ok phM1 (by kernel_rfl) (by kernel_rfl) (memoO_ok phM2 (by kernel_rfl) (by kernel_rfl) (memoO_ok phM3 (by kernel_rfl) (by kernel_rfl) (memoO_ok phM6 (by kernel_rfl) (by kernel_rfl) (memoO_ok phM31 (by kernel_rfl) (by kernel_rfl) (memoO_ok phM62 (by kernel_rfl) (by kernel_rfl) (memoO_ok phM93 (by kernel_rfl) (by kernel_rfl) K66t)))))))
def F66c186 : Gn 1 := G66 (C66 F66k186 F108t)
theorem K66c186 : FOK Tryz.prog 66 (un 1 F66c186) := fokP (.cons K66k186 (.cons K108t .nil)) .nil hm Tryz.func66 (by kernel_rfl) (D66 F66k186 F108t) (H66 _)
theorem phS186 : stat [] phA186 phV186 phO186 = true := by kernel_rfl
theorem phR186 : runOk (un 1 F66c186 phA186 (mkS []) fun v S => some (v, S)) phV186 phO186 = true := by kernel_rfl
theorem phM186 : FOK Tryz.prog 66 (memoF [] phA186 phV186 phO186) := memo_ok K66c186 phS186 phR186
def phA192 : List V := [.i .i64 192]
def phV192 : V := (.sl (.i (.o (.o (.i (.o .h))))) 0 65 65)
def phO192 : List (Pos × List V) := [((.i (.o (.o (.i (.o .h))))), [cp1, cz0, cz0, cz0, cz0, cz0, cz0, cz0, cz0, cz0, cz0, cz0, cz0, cz0, cz0, cz0, cz0, cz0, cz0, cz0, cz0, cz0, cz0, cz0, cz0, cz0, cz0, cz0, cz0, cz0, cz0, cz0, cm1, cz0, cz0, cz0, cz0, cz0, cz0, cz0, cz0, cz0, cz0, cz0, cz0, cz0, cz0, cz0, cz0, cz0, cz0, cz0, cz0, cz0, cz0, cz0, cz0, cz0, cz0, cz0, cz0, cz0, cz0, cz0, cp1])]
def F66k192 : Gn 1 := cur 1 (memoO [] phA1 phV1 phO1 (memoO [] phA2 phV2 phO2 (memoO [] phA3 phV3 phO3 (memoO [] phA4 phV4 phO4 (memoO [] phA6 phV6 phO6 (memoO [] phA8 phV8 phO8 (memoO [] phA12 phV12 phO12 (memoO [] phA16 phV16 phO16 (memoO [] phA24 phV24 phO24 (memoO [] phA32 phV32 phO32 (memoO [] phA48 phV48 phO48 (memoO [] phA64 phV64 phO64 (memoO [] phA96 phV96 phO96 (un 1 F66t))))))))))))))
theorem K66k192 : FOK Tryz.prog 66 (un 1 F66k192) := cur_ok 1 (memoO_ok phM1 (by kernel_rfl) (by kernel_rfl) (memoO_ok phM2 (by kernel_rfl) (by kernel_rfl) (memoO_ok phM3 (by kernel_rfl) (by kernel_rfl) (memoO_ok phM4 (by kernel_rfl) (by kernel_rfl) (memoO_ok phM6 (by kernel_rfl) (by kernel_rfl) (memoO_ok phM8 (by kernel_rfl) (by kernel_rfl) (memoO_ok phM12 (by kernel_rfl) (by kernel_rfl) (memoO_ok phM16 (by kernel_rfl) (by kernel_rfl) (memoO_ok phM24 (by kernel_rfl) (by kernel_rfl) (memoO_ok phM32 (by kernel_rfl) (by kernel_rfl) (memoO_ok phM48 (by kernel_rfl) (by kernel_rfl) (memoO_ok phM64 (by kernel_rfl) (by kernel_rfl) (memoO_ok phM96 (by kernel_rfl) (by kernel_rfl) K66t)))))))))))))
def F66c192 : Gn 1 := G66 (C66 F66k192 F108t)
theorem K66c192 : FOK Tryz.prog 66 (un 1 F66c192) := fokP (.cons K66k192 (.cons K108t .nil)) .nil hm Tryz.func66 (by kernel_rfl) (D66 F66k192 F108t) (H66 _)
theorem phS192 : stat [] phA192 phV192 phO192 = true := by kernel_rfl
theorem phR192 : runOk (un 1 F66c192 phA192 (mkS []) fun v S => some (v, S)) phV192 phO192 = true := by kernel_rfl
theorem phM192 : FOK Tryz.prog 66 (memoF [] phA192 phV192 phO192) := memo_ok K66c192 phS192 phR192
def phA198 : List V := [.i .i64 198]
def phV198 : V := (.sl (.i (.i (.o (.o (.o .h))))) 0 61 61)
def phO198 : List (Pos × List V) := [((.i (.i (.o (.o (.o .h))))), [cp1, cz0, cz0, cp1, cz0, cz0, cz0, cz0, cz0, cm1, cz0, cz0, cm1, cz0, cz0, cz0, cz0, cz0, cp1, cz0, cz0, cp1, cz0, cz0, cz0, cz0, cz0, cm1, cz0, cz0, cm1, cz0, cz0, cm1, cz0, cz0, cz0, cz0, cz0, cp1, cz0, cz0, cp1, cz0, cz0, cz0, cz0, cz0, cm1, cz0, cz0, cm1, cz0, cz0, cz0, cz0, cz0, cp1, cz0, cz0, cp1])]
def F66k198 : Gn 1 := cur 1 (memoO [] phA1 phV1 phO1 (memoO [] phA2 phV2 phO2 (memoO [] phA3 phV3 phO3 (memoO [] phA6 phV6 phO6 (memoO [] phA9 phV9 phO9 (memoO [] phA11 phV11 phO11 (memoO [] phA18 phV18 phO18 (memoO [] phA22 phV22 phO22 (memoO [] phA33 phV33 phO33 (memoO [] phA66 phV66 phO66 (memoO [] phA99 phV99 phO99 (un 1 F66t))))))))))))
theorem K66k198 : FOK Tryz.prog 66 (un 1 F66k198) := cur_ok 1 (memoO_ok phM1 (by kernel_rfl) (by kernel_rfl) (memoO_ok phM2 (by kernel_rfl) (by kernel_rfl) (memoO_ok phM3 (by kernel_rfl) (by kernel_rfl) (memoO_ok phM6 (by kernel_rfl) (by kernel_rfl) (memoO_ok phM9 (by kernel_rfl) (by kernel_rfl) (memoO_ok phM11 (by kernel_rfl) (by kernel_rfl) (memoO_ok phM18 (by kernel_rfl) (by kernel_rfl) (memoO_ok phM22 (by kernel_rfl) (by kernel_rfl) (memoO_ok phM33 (by kernel_rfl) (by kernel_rfl) (memoO_ok phM66 (by kernel_rfl) (by kernel_rfl) (memoO_ok phM99 (by kernel_rfl) (by kernel_rfl) K66t)))))))))))
def F66c198 : Gn 1 := G66 (C66 F66k198 F108t)
theorem K66c198 : FOK Tryz.prog 66 (un 1 F66c198) := fokP (.cons K66k198 (.cons K108t .nil)) .nil hm Tryz.func66 (by kernel_rfl) (D66 F66k198 F108t) (H66 _)
theorem phS198 : stat [] phA198 phV198 phO198 = true := by kernel_rfl
theorem phR198 : runOk (un 1 F66c198 phA198 (mkS []) fun v S => some (v, S)) phV198 phO198 = true := by kernel_rfl
theorem phM198 : FOK Tryz.prog 66 (memoF [] phA198 phV198 phO198) := memo_ok K66c198 phS198 phR198
def phA204 : List V := [.i .i64 204]
def phV204 : V := (.sl (.i (.i (.o (.o (.o .h))))) 0 65 65)
def phO204 : List (Pos × List V) := [((.i (.i (.o (.o (.o .h))))), [cp1, cz0, cp1, cz0, cz0, cz0, cm1, cz0, cm1, cz0, cz0, cz0, cp1, cz0, cp1, cz0, cz0, cz0, cm1, cz0, cm1, cz0, cz0, cz0, cp1, cz0, cp1, cz0, cz0, cz0, cm1, cz0, cm1, cz0, cm1, cz0, cz0, cz0, cp1, cz0, cp1, cz0, cz0, cz0, cm1, cz0, cm1, cz0, cz0, cz0, cp1, cz0, cp1, cz0, cz0, cz0, cm1, cz0, cm1, cz0, cz0, cz0, cp1, cz0, cp1])]
def F66k204 : Gn 1 := cur 1 (memoO [] phA1 phV1 phO1 (memoO [] phA2 phV2 phO2 (memoO [] phA3 phV3 phO3 (memoO [] phA4 phV4 phO4 (memoO [] phA6 phV6 phO6 (memoO [] phA12 phV12 phO12 (memoO [] phA17 phV17 phO17 (memoO [] phA34 phV34 phO34 (memoO [] phA51 phV51 phO51 (memoO [] phA68 phV68 phO68 (memoO [] phA102 phV102 phO102 (un 1 F66t))))))))))))
theorem K66k204 : FOK Tryz.prog 66 (un 1 F66k204) := cur_ok 1 (memoO_ok phM1 (by kernel_rfl) (by kernel_rfl) (memoO_ok phM2 (by kernel_rfl) (by kernel_rfl) (memoO_ok phM3 (by kernel_rfl) (by kernel_rfl) (memoO_ok phM4 (by kernel_rfl) (by kernel_rfl) (memoO_ok phM6 (by kernel_rfl) (by kernel_rfl) (memoO_ok phM12 (by kernel_rfl) (by kernel_rfl) (memoO_ok phM17 (by kernel_rfl) (by kernel_rfl) (memoO_ok phM34 (by kernel_rfl) (by kernel_rfl) (memoO_ok phM51 (by kernel_rfl) (by kernel_rfl) (memoO_ok phM68 (by kernel_rfl) (by kernel_rfl) (memoO_ok phM102 (by kernel_rfl) (by kernel_rfl) K66t)))))))))))
def F66c204 : Gn 1 := G66 (C66 F66k204 F108t)
theorem K66c204 : FOK Tryz.prog 66 (un 1 F66c204) := fokP (.cons K66k204 (.cons K108t .nil)) .nil hm Tryz.func66 (by kernel_rfl) (D66 F66k204 F108t) (H66 _)
theorem phS204 : stat [] phA204 phV204 phO204 = true := by kernel_rfl
theorem phR204 : runOk (un 1 F66c204 phA204 (mkS []) fun v S => some (v, S)) phV204 phO204 = true := by kernel_rfl
theorem phM204 : FOK Tryz.prog 66 (memoF [] phA204 phV204 phO204) := memo_ok K66c204 phS204 phR204
def phA210 : List V := [.i .i64 210]
def phV210 : V := (.sl (.i (.i (.i (.i (.o .h))))) 0 49 49)
def phO210 : List (Pos × List V) := [((.i (.i (.i (.i (.o .h))))), [cp1, cm1, cp1, cz0, cz0, cp1, cm1, cp2, cm1, cp1, cz0, cz0, cp1, cm1, cp1, cm1, cp1, cm1, cz0, cz0, cm1, cz0, cm1, cz0, cm1, cz0, cm1, cz0, cm1, cz0, cz0, cm1, cp1, cm1, cp1, cm1, cp1, cz0, cz0, cp1, cm1, cp2, cm1, cp1, cz0, cz0, cp1, cm1, cp1])]
def F66k210 : Gn 1 := cur 1 (memoO [] phA1 phV1 phO1 (memoO [] phA2 phV2 phO2 (memoO [] phA3 phV3 phO3 (memoO [] phA5 phV5 phO5 (memoO [] phA6 phV6 phO6 (memoO [] phA7 phV7 phO7 (memoO [] phA10 phV10 phO10 (memoO [] phA14 phV14 phO14 (memoO [] phA15 phV15 phO15 (memoO [] phA21 phV21 phO21 (memoO [] phA30 phV30 phO30 (memoO [] phA35 phV35 phO35 (memoO [] phA42 phV42 phO42 (memoO [] phA70 phV70 phO70 (memoO [] phA105 phV105 phO105 (un 1 F66t))))))))))))))))
theorem K66k210 : FOK Tryz.prog 66 (un 1 F66k210) := cur_ok 1 (memoO_ok phM1 (by kernel_rfl) (by kernel_rfl) (memoO_ok phM2 (by kernel_rfl) (by kernel_rfl) (memoO_ok phM3 (by kernel_rfl) (by kernel_rfl) (memoO_ok phM5 (by kernel_rfl) (by kernel_rfl) (memoO_ok phM6 (by kernel_rfl) (by kernel_rfl) (memoO_ok phM7 (by kernel_rfl) (by kernel_rfl) (memoO_ok phM10 (by kernel_rfl) (by kernel_rfl) (memoO_ok phM14 (by kernel_rfl) (by kernel_rfl) (memoO_ok phM15 (by kernel_rfl) (by kernel_rfl) (memoO_ok phM21 (by kernel_rfl) (by kernel_rfl) (memoO_ok phM30 (by kernel_rfl) (by kernel_rfl) (memoO_ok phM35 (by kernel_rfl) (by kernel_rfl) (memoO_ok phM42 (by kernel_rfl) (by kernel_rfl) (memoO_ok phM70 (by kernel_rfl) (by kernel_rfl) (memoO_ok phM105 (by kernel_rfl) (by kernel_rfl) K66t)))))))))))))))
def F66c210 : Gn 1 := G66 (C66 F66k210 F108t)
theorem K66c210 : FOK Tryz.prog 66 (un 1 F66c210) := fokP (.cons K66k210 (.cons K108t .nil)) .nil hm Tryz.func66 (by kernel_rfl) (D66 F66k210 F108t) (H66 _)
theorem phS210 : stat [] phA210 phV210 phO210 = true := by kernel_rfl
theorem phR210 : runOk (un 1 F66c210 phA210 (mkS []) fun v S => some (v, S)) phV210 phO210 = true := by kernel_rfl
theorem phM210 : FOK Tryz.prog 66 (memoF [] phA210 phV210 phO210) := memo_ok K66c210 phS210 phR210
def phA240 : List V := [.i .i64 240]
def phV240 : V := (.sl (.i (.i (.o (.i (.i .h))))) 0 65 65)
def phO240 : List (Pos × List V) := [((.i (.i (.o (.i (.i .h))))), [cp1, cz0, cz0, cz0, cz0, cz0, cz0, cz0, cp1, cz0, cz0, cz0, cz0, cz0, cz0, cz0, cz0, cz0, cz0, cz0, cz0, cz0, cz0, cz0, cm1, cz0, cz0, cz0, cz0, cz0, cz0, cz0, cm1, cz0, cz0, cz0, cz0, cz0, cz0, cz0, cm1, cz0, cz0, cz0, cz0, cz0, cz0, cz0, cz0, cz0, cz0, cz0, cz0, cz0, cz0, cz0, cp1, cz0, cz0, cz0, cz0, cz0, cz0, cz0, cp1])]
def F66k240 : Gn 1 := cur 1 (memoO [] phA1 phV1 phO1 (memoO [] phA2 phV2 phO2 (memoO [] phA3 phV3 phO3 (memoO [] phA4 phV4 phO4 (memoO [] phA5 phV5 phO5 (memoO [] phA6 phV6 phO6 (memoO [] phA8 phV8 phO8 (memoO [] phA10 phV10 phO10 (memoO [] phA12 phV12 phO12 (memoO [] phA15 phV15 phO15 (memoO [] phA16 phV16 phO16 (memoO [] phA20 phV20 phO20 (memoO [] phA24 phV24 phO24 (memoO [] phA30 phV30 phO30 (memoO [] phA40 phV40 phO40 (memoO [] phA48 phV48 phO48 (memoO [] phA60 phV60 phO60 (memoO [] phA80 phV80 phO80 (memoO [] phA120 phV120 phO120 (un 1 F66t))))))))))))))))))))
theorem K66k240 : FOK Tryz.prog 66 (un 1 F66k240) := cur_ok 1 (memoO_ok phM1 (by kernel_rfl) (by kernel_rfl) (memoO_ok phM2 (by kernel_rfl) (by kernel_rfl) (memoO_ok phM3 (by kernel_rfl) (by kernel_rfl) (memoO_ok phM4 (by kernel_rfl) (by kernel_rfl) (memoO_ok phM5 (by kernel_rfl) (by kernel_rfl) (memoO_ok phM6 (by kernel_rfl) (by kernel_rfl) (memoO_ok phM8 (by kernel_rfl) (by kernel_rfl) (memoO_ok phM10 (by kernel_rfl) (by kernel_rfl) (memoO_ok phM12 (by kernel_rfl) (by kernel_rfl) (memoO_ok phM15 (by kernel_rfl) (by kernel_rfl) (memoO_ok phM16 (by kernel_rfl) (by kernel_rfl) (memoO_ok phM20 (by kernel_rfl) (by kernel_rfl) (memoO_ok phM24 (by kernel_rfl) (by kernel_rfl) (memoO_ok phM30 (by kernel_rfl) (by kernel_rfl) (memoO_ok phM40 (by kernel_rfl) (by kernel_rfl) (memoO_ok phM48 (by kernel_rfl) (by kernel_rfl) (memoO_ok phM60 (by kernel_rfl) (by kernel_rfl) (memoO_ok phM80 (by kernel_rfl) (by kernel_rfl) (memoO_ok phM120 (by kernel_rfl) (by kernel_rfl) K66t)))))))))))))))))))
def F66c240 : Gn 1 := G66 (C66 F66k240 F108t)
theorem K66c240 : FOK Tryz.prog 66 (un 1 F66c240) := fokP (.cons K66k240 (.cons K108t .nil)) .nil hm Tryz.func66 (by kernel_rfl) (D66 F66k240 F108t) (H66 _)
theorem phS240 : stat [] phA240 phV240 phO240 = true := by kernel_rfl
theorem phR240 : runOk (un 1 F66c240 phA240 (mkS []) fun v S => some (v, S)) phV240 phO240 = true := by kernel_rfl
theorem phM240 : FOK Tryz.prog 66 (memoF [] phA240 phV240 phO240) := memo_ok K66c240 phS240 phR240
def F66m0 : Gn 1 := cur 1 (memoO [] phA1 phV1 phO1 (memoO [] phA2 phV2 phO2 (memoO [] phA3 phV3 phO3 (memoO [] phA4 phV4 phO4 (memoO [] phA5 phV5 phO5 (memoO [] phA6 phV6 phO6 (memoO [] phA7 phV7 phO7 (memoO [] phA8 phV8 phO8 (memoO [] phA9 phV9 phO9 (memoO [] phA10 phV10 phO10 (memoO [] phA11 phV11 phO11 (memoO [] phA12 phV12 phO12 (memoO [] phA13 phV13 phO13 (memoO [] phA14 phV14 phO14 (memoO [] phA15 phV15 phO15 (memoO [] phA16 phV16 phO16 (un 1 F66t)))))))))))))))))
theorem K66m0 : FOK Tryz.prog 66 (un 1 F66m0) := cur_ok 1 (memoO_ok phM1 (by kernel_rfl) (by kernel_rfl) (memoO_ok phM2 (by kernel_rfl) (by kernel_rfl) (memoO_ok phM3 (by kernel_rfl) (by kernel_rfl) (memoO_ok phM4 (by kernel_rfl) (by kernel_rfl) (memoO_ok phM5 (by kernel_rfl) (by kernel_rfl) (memoO_ok phM6 (by kernel_rfl) (by kernel_rfl) (memoO_ok phM7 (by kernel_rfl) (by kernel_rfl) (memoO_ok phM8 (by kernel_rfl) (by kernel_rfl) (memoO_ok phM9 (by kernel_rfl) (by kernel_rfl) (memoO_ok phM10 (by kernel_rfl) (by kernel_rfl) (memoO_ok phM11 (by kernel_rfl) (by kernel_rfl) (memoO_ok phM12 (by kernel_rfl) (by kernel_rfl) (memoO_ok phM13 (by kernel_rfl) (by kernel_rfl) (memoO_ok phM14 (by kernel_rfl) (by kernel_rfl) (memoO_ok phM15 (by kernel_rfl) (by kernel_rfl) (memoO_ok phM16 (by kernel_rfl) (by kernel_rfl) K66t))))))))))))))))
def F66m1 : Gn 1 := cur 1 (memoO [] phA17 phV17 phO17 (memoO [] phA18 phV18 phO18 (memoO [] phA19 phV19 phO19 (memoO [] phA20 phV20 phO20 (memoO [] phA21 phV21 phO21 (memoO [] phA22 phV22 phO22 (memoO [] phA23 phV23 phO23 (memoO [] phA24 phV24 phO24 (memoO [] phA25 phV25 phO25 (memoO [] phA26 phV26 phO26 (memoO [] phA27 phV27 phO27 (memoO [] phA28 phV28 phO28 (memoO [] phA29 phV29 phO29 (memoO [] phA30 phV30 phO30 (memoO [] phA31 phV31 phO31 (memoO [] phA32 phV32 phO32 (un 1 F66m0)))))))))))))))))
theorem K66m1 : FOK Tryz.prog 66 (un 1 F66m1) := cur_ok 1 (memoO_ok phM17 (by kernel_rfl) (by kernel_rfl) (memoO_ok phM18 (by kernel_rfl) (by kernel_rfl) (memoO_ok phM19 (by kernel_rfl) (by kernel_rfl) (memoO_ok phM20 (by kernel_rfl) (by kernel_rfl) (memoO_ok phM21 (by kernel_rfl) (by kernel_rfl) (memoO_ok phM22 (by kernel_rfl) (by kernel_rfl) (memoO_ok phM23 (by kernel_rfl) (by kernel_rfl) (memoO_ok phM24 (by kernel_rfl) (by kernel_rfl) (memoO_ok phM25 (by kernel_rfl) (by kernel_rfl) (memoO_ok phM26 (by kernel_rfl) (by kernel_rfl) (memoO_ok phM27 (by kernel_rfl) (by kernel_rfl) (memoO_ok phM28 (by kernel_rfl) (by kernel_rfl) (memoO_ok phM29 (by kernel_rfl) (by kernel_rfl) (memoO_ok phM30 (by kernel_rfl) (by kernel_rfl) (memoO_ok phM31 (by kernel_rfl) (by kernel_rfl) (memoO_ok phM32 (by kernel_rfl) (by kernel_rfl) K66m0))))))))))))))))
def F66m2 : Gn 1 := cur 1 (memoO [] phA33 phV33 phO33 (memoO [] phA34 phV34 phO34 (memoO [] phA35 phV35 phO35 (memoO [] phA36 phV36 phO36 (memoO [] phA37 phV37 phO37 (memoO [] phA38 phV38 phO38 (memoO [] phA39 phV39 phO39 (memoO [] phA40 phV40 phO40 (memoO [] phA41 phV41 phO41 (memoO [] phA42 phV42 phO42 (memoO [] phA43 phV43 phO43 (memoO [] phA44 phV44 phO44 (memoO [] phA45 phV45 phO45 (memoO [] phA46 phV46 phO46 (memoO [] phA47 phV47 phO47 (memoO [] phA48 phV48 phO48 (un 1 F66m1)))))))))))))))))
theorem K66m2 : FOK Tryz.prog 66 (un 1 F66m2) := cur_ok 1 (memoO_ok phM33 (by kernel_rfl) (by kernel_rfl) (memoO_ok phM34 (by kernel_rfl) (by kernel_rfl) (memoO_ok phM35 (by kernel_rfl) (by kernel_rfl) (memoO_ok phM36 (by kernel_rfl) (by kernel_rfl) (memoO_ok phM37 (by kernel_rfl) (by kernel_rfl) (memoO_ok phM38 (by kernel_rfl) (by kernel_rfl) (memoO_ok phM39 (by kernel_rfl) (by kernel_rfl) (memoO_ok phM40 (by kernel_rfl) (by kernel_rfl) (memoO_ok phM41 (by kernel_rfl) (by kernel_rfl) (memoO_ok phM42 (by kernel_rfl) (by kernel_rfl) (memoO_ok phM43 (by kernel_rfl) (by kernel_rfl) (memoO_ok phM44 (by kernel_rfl) (by kernel_rfl) (memoO_ok phM45 (by kernel_rfl) (by kernel_rfl) (memoO_ok phM46 (by kernel_rfl) (by kernel_rfl) (memoO_ok phM47 (by kernel_rfl) (by kernel_rfl) (memoO_ok phM48 (by kernel_rfl) (by kernel_rfl) K66m1))))))))))))))))
def F66m3 : Gn 1 := cur 1 (memoO [] phA49 phV49 phO49 (memoO [] phA50 phV50 phO50 (memoO [] phA51 phV51 phO51 (memoO [] phA52 phV52 phO52 (memoO [] phA53 phV53 phO53 (memoO [] phA54 phV54 phO54 (memoO [] phA55 phV55 phO55 (memoO [] phA56 phV56 phO56 (memoO [] phA57 phV57 phO57 (memoO [] phA58 phV58 phO58 (memoO [] phA59 phV59 phO59 (memoO [] phA60 phV60 phO60 (memoO [] phA61 phV61 phO61 (memoO [] phA62 phV62 phO62 (memoO [] phA63 phV63 phO63 (memoO [] phA64 phV64 phO64 (un 1 F66m2)))))))))))))))))
theorem K66m3 : FOK Tryz.prog 66 (un 1 F66m3) := cur_ok 1 (memoO_ok phM49 (by kernel_rfl) (by kernel_rfl) (memoO_ok phM50 (by kernel_rfl) (by kernel_rfl) (memoO_ok phM51 (by kernel_rfl) (by kernel_rfl) (memoO_ok phM52 (by kernel_rfl) (by kernel_rfl) (memoO_ok phM53 (by kernel_rfl) (by kernel_rfl) (memoO_ok phM54 (by kernel_rfl) (by kernel_rfl) (memoO_ok phM55 (by kernel_rfl) (by kernel_rfl) (memoO_ok phM56 (by kernel_rfl) (by kernel_rfl) (memoO_ok phM57 (by kernel_rfl) (by kernel_rfl) (memoO_ok phM58 (by kernel_rfl) (by kernel_rfl) (memoO_ok phM59 (by kernel_rfl) (by kernel_rfl) (memoO_ok phM60 (by kernel_rfl) (by kernel_rfl) (memoO_ok phM61 (by kernel_rfl) (by kernel_rfl) (memoO_ok phM62 (by kernel_rfl) (by kernel_rfl) (memoO_ok phM63 (by kernel_rfl) (by kernel_rfl) (memoO_ok phM64 (by kernel_rfl) (by kernel_rfl) K66m2))))))))))))))))
def F66m4 : Gn 1 := cur 1 (memoO [] phA65 phV65 phO65 (memoO [] phA66 phV66 phO66 (memoO [] phA68 phV68 phO68 (memoO [] phA69 phV69 phO69 (memoO [] phA70 phV70 phO70 (memoO [] phA72 phV72 phO72 (memoO [] phA74 phV74 phO74 (memoO [] phA75 phV75 phO75 (memoO [] phA76 phV76 phO76 (memoO [] phA77 phV77 phO77 (memoO [] phA78 phV78 phO78 (memoO [] phA80 phV80 phO80 (memoO [] phA81 phV81 phO81 (memoO [] phA82 phV82 phO82 (memoO [] phA84 phV84 phO84 (memoO [] phA85 phV85 phO85 (un 1 F66m3)))))))))))))))))
theorem K66m4 : FOK Tryz.prog 66 (un 1 F66m4) := cur_ok 1 (memoO_ok phM65 (by kernel_rfl) (by kernel_rfl) (memoO_ok phM66 (by kernel_rfl) (by kernel_rfl) (memoO_ok phM68 (by kernel_rfl) (by kernel_rfl) (memoO_ok phM69 (by kernel_rfl) (by kernel_rfl) (memoO_ok phM70 (by kernel_rfl) (by kernel_rfl) (memoO_ok phM72 (by kernel_rfl) (by kernel_rfl) (memoO_ok phM74 (by kernel_rfl) (by kernel_rfl) (memoO_ok phM75 (by kernel_rfl) (by kernel_rfl) (memoO_ok phM76 (by kernel_rfl) (by kernel_rfl) (memoO_ok phM77 (by kernel_rfl) (by kernel_rfl) (memoO_ok phM78 (by kernel_rfl) (by kernel_rfl) (memoO_ok phM80 (by kernel_rfl) (by kernel_rfl) (memoO_ok phM81 (by kernel_rfl) (by kernel_rfl) (memoO_ok phM82 (by kernel_rfl) (by kernel_rfl) (memoO_ok phM84 (by kernel_rfl) (by kernel_rfl) (memoO_ok phM85 (by kernel_rfl) (by kernel_rfl) K66m3))))))))))))))))
def F66m5 : Gn 1 := cur 1 (memoO [] phA86 phV86 phO86 (memoO [] phA87 phV87 phO87 (memoO [] phA88 phV88 phO88 (memoO [] phA90 phV90 phO90 (memoO [] phA92 phV92 phO92 (memoO [] phA93 phV93 phO93 (memoO [] phA94 phV94 phO94 (memoO [] phA96 phV96 phO96 (memoO [] phA98 phV98 phO98 (memoO [] phA99 phV99 phO99 (memoO [] phA100 phV100 phO100 (memoO [] phA102 phV102 phO102 (memoO [] phA104 phV104 phO104 (memoO [] phA105 phV105 phO105 (memoO [] phA106 phV106 phO106 (memoO [] phA108 phV108 phO108 (un 1 F66m4)))))))))))))))))
theorem K66m5 : FOK Tryz.prog 66 (un 1 F66m5) := cur_ok 1 (memoO_ok phM86 (by kernel_rfl) (by kernel_rfl) (memoO_ok phM87 (by kernel_rfl) (by kernel_rfl) (memoO_ok phM88 (by kernel_rfl) (by kernel_rfl) (memoO_ok phM90 (by kernel_rfl) (by kernel_rfl) (memoO_ok phM92 (by kernel_rfl) (by kernel_rfl) (memoO_ok phM93 (by kernel_rfl) (by kernel_rfl) (memoO_ok phM94 (by kernel_rfl) (by kernel_rfl) (memoO_ok phM96 (by kernel_rfl) (by kernel_rfl) (memoO_ok phM98 (by kernel_rfl) (by kernel_rfl) (memoO_ok phM99 (by kernel_rfl) (by kernel_rfl) (memoO_ok phM100 (by kernel_rfl) (by kernel_rfl) (memoO_ok phM102 (by kernel_rfl) (by kernel_rfl) (memoO_ok phM104 (by kernel_rfl) (by kernel_rfl) (memoO_ok phM105 (by kernel_rfl) (by kernel_rfl) (memoO_ok phM106 (by kernel_rfl) (by kernel_rfl) (memoO_ok phM108 (by kernel_rfl) (by kernel_rfl) K66m4))))))))))))))))
def F66m6 : Gn 1 := cur 1 (memoO [] phA110 phV110 phO110 (memoO [] phA112 phV112 phO112 (memoO [] phA114 phV114 phO114 (memoO [] phA116 phV116 phO116 (memoO [] phA118 phV118 phO118 (memoO [] phA120 phV120 phO120 (memoO [] phA122 phV122 phO122 (memoO [] phA124 phV124 phO124 (memoO [] phA126 phV126 phO126 (memoO [] phA128 phV128 phO128 (memoO [] phA130 phV130 phO130 (memoO [] phA132 phV132 phO132 (memoO [] phA136 phV136 phO136 (memoO [] phA138 phV138 phO138 (memoO [] phA140 phV140 phO140 (memoO [] phA144 phV144 phO144 (un 1 F66m5)))))))))))))))))
theorem K66m6 : FOK Tryz.prog 66 (un 1 F66m6) := cur_ok 1 (memoO_ok phM110 (by kernel_rfl) (by kernel_rfl) (memoO_ok phM112 (by kernel_rfl) (by kernel_rfl) (memoO_ok phM114 (by kernel_rfl) (by kernel_rfl) (memoO_ok phM116 (by kernel_rfl) (by kernel_rfl) (memoO_ok phM118 (by kernel_rfl) (by kernel_rfl) (memoO_ok phM120 (by kernel_rfl) (by kernel_rfl) (memoO_ok phM122 (by kernel_rfl) (by kernel_rfl) (memoO_ok phM124 (by kernel_rfl) (by kernel_rfl) (memoO_ok phM126 (by kernel_rfl) (by kernel_rfl) (memoO_ok phM128 (by kernel_rfl) (by kernel_rfl) (memoO_ok phM130 (by kernel_rfl) (by kernel_rfl) (memoO_ok phM132 (by kernel_rfl) (by kernel_rfl) (memoO_ok phM136 (by kernel_rfl) (by kernel_rfl) (memoO_ok phM138 (by kernel_rfl) (by kernel_rfl) (memoO_ok phM140 (by kernel_rfl) (by kernel_rfl) (memoO_ok phM144 (by kernel_rfl) (by kernel_rfl) K66m5))))))))))))))))
def F66m7 : Gn 1 := cur 1 (memoO [] phA150 phV150 phO150 (memoO [] phA154 phV154 phO154 (memoO [] phA156 phV156 phO156 (memoO [] phA160 phV160 phO160 (memoO [] phA162 phV162 phO162 (memoO [] phA168 phV168 phO168 (memoO [] phA170 phV170 phO170 (memoO [] phA174 phV174 phO174 (memoO [] phA180 phV180 phO180 (memoO [] phA186 phV186 phO186 (memoO [] phA192 phV192 phO192 (memoO [] phA198 phV198 phO198 (memoO [] phA204 phV204 phO204 (memoO [] phA210 phV210 phO210 (memoO [] phA240 phV240 phO240 (un 1 F66m6))))))))))))))))
theorem K66m7 : FOK Tryz.prog 66 (un 1 F66m7) := cur_ok 1 (memoO_ok phM150 (by kernel_rfl) (by kernel_rfl) (memoO_ok phM154 (by kernel_rfl) (by kernel_rfl) (memoO_ok phM156 (by kernel_rfl) (by kernel_rfl) (memoO_ok phM160 (by kernel_rfl) (by kernel_rfl) (memoO_ok phM162 (by kernel_rfl) (by kernel_rfl) (memoO_ok phM168 (by kernel_rfl) (by kernel_rfl) (memoO_ok phM170 (by kernel_rfl) (by kernel_rfl) (memoO_ok phM174 (by kernel_rfl) (by kernel_rfl) (memoO_ok phM180 (by kernel_rfl) (by kernel_rfl) (memoO_ok phM186 (by kernel_rfl) (by kernel_rfl) (memoO_ok phM192 (by kernel_rfl) (by kernel_rfl) (memoO_ok phM198 (by kernel_rfl) (by kernel_rfl) (memoO_ok phM204 (by kernel_rfl) (by kernel_rfl) (memoO_ok phM210 (by kernel_rfl) (by kernel_rfl) (memoO_ok phM240 (by kernel_rfl) (by kernel_rfl) K66m6)))))))))))))))
def F66h : Gn 1 := F66m7
theorem K66h : FOK Tryz.prog 66 (un 1 F66h) := K66m7
end
end Go.AM
