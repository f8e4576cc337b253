/- The law over these. -/
import Derived.Test.YtpendgpnikmohaaGreatMUA
set_option maxRecDepth 1000000
set_option linter.unusedVariables false
namespace Go.AM
open Go.Proofs
noncomputable section
def fin : V → St → R := fun v S => some (v, S)
def F38h : Gn 1 := cur 1 (memoO uhb0 uha0 uhv0 uho0 (memoO uhb1 uha1 uhv1 uho1 (memoO uhb2 uha2 uhv2 uho2 (memoO uhb3 uha3 uhv3 uho3 (memoO uhb4 uha4 uhv4 uho4 (memoO uhb5 uha5 uhv5 uho5 (memoO uhb6 uha6 uhv6 uho6 (memoO uhb7 uha7 uhv7 uho7 (memoO uhb8 uha8 uhv8 uho8 (memoO uhb9 uha9 uhv9 uho9 (un 1 F38)))))))))))
theorem K38h : FOK Tryz.prog 38 (un 1 F38h) := cur_ok 1 (memoO_ok uhm0 (by kernel_rfl) (by kernel_rfl) (memoO_ok uhm1 (by kernel_rfl) (by kernel_rfl) (memoO_ok uhm2 (by kernel_rfl) (by kernel_rfl) (memoO_ok uhm3 (by kernel_rfl) (by kernel_rfl) (memoO_ok uhm4 (by kernel_rfl) (by kernel_rfl) (memoO_ok uhm5 (by kernel_rfl) (by kernel_rfl) (memoO_ok uhm6 (by kernel_rfl) (by kernel_rfl) (memoO_ok uhm7 (by kernel_rfl) (by kernel_rfl) (memoO_ok uhm8 (by kernel_rfl) (by kernel_rfl) (memoO_ok uhm9 (by kernel_rfl) (by kernel_rfl) K38))))))))))
def F12h : Gn 1 := G12 (C12 F38h)
theorem K12h : FOK Tryz.prog 12 (un 1 F12h) := fokP (.cons K38h .nil) .nil hm Tryz.func12 (by kernel_rfl) (D12 F38h) (H12 _)
def F11h : Gn 0 := G11 (C11 F12h F13 F17 F22 F29 F35 F37)
theorem K11h : FOK Tryz.prog 11 (un 0 F11h) := fokP (.cons K12h (.cons K13 (.cons K17 (.cons K22 (.cons K29 (.cons K35 (.cons K37 .nil))))))) .nil hm Tryz.func11 (by kernel_rfl) (D11 F12h F13 F17 F22 F29 F35 F37) (H11 _)
def F33h : Gn 2 := G33 (C33 F38h F43 F58 F59)
theorem K33h : FOK Tryz.prog 33 (un 2 F33h) := fokP (.cons K38h (.cons K43 (.cons K58 (.cons K59 .nil)))) .nil hm Tryz.func33 (by kernel_rfl) (D33 F38h F43 F58 F59) (H33 _)
def F9h : Gn 2 := G9 (C9 sayT F28 F33h F34)
theorem K9h : FOK Tryz.prog 9 (un 2 F9h) := fokP (.cons K11y (.cons K28 (.cons K33h (.cons K34 .nil)))) .nil hm Tryz.func9 (by kernel_rfl) (D9 sayT F28 F33h F34) (H9 _)
end
end Go.AM
