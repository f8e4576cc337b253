/- The law over these. -/
import Derived.Test.YtndgeimkifdifaaGreatMQA0
import Derived.Test.YtndgeimkifdifaaGreatMQA1
import Derived.Test.YtndgeimkifdifaaGreatXG
set_option maxRecDepth 1000000
set_option linter.unusedVariables false
namespace Go.AM
open Go.Proofs
noncomputable section
def fin : V → St → R := fun v S => some (v, S)
def F254q : Gn 3 := mulF
theorem K254q : FOK Tryz.prog 254 (un 3 F254q) := mulF_ok
def F146q : Gn 3 := divF
theorem K146q : FOK Tryz.prog 146 (un 3 F146q) := divF_ok
def F12h : Gn 1 := cur 1 (memoO qhb3 qha3 qhv3 qho3 (memoO qhb4 qha4 qhv4 qho4 (memoO qhb5 qha5 qhv5 qho5 (memoO qhb6 qha6 qhv6 qho6 (memoO qhb7 qha7 qhv7 qho7 (memoO qhb8 qha8 qhv8 qho8 (memoO qhb9 qha9 qhv9 qho9 (memoO qhb10 qha10 qhv10 qho10 (memoO qhb11 qha11 qhv11 qho11 (memoO qhb12 qha12 qhv12 qho12 (memoO qhb13 qha13 qhv13 qho13 (memoO qhb14 qha14 qhv14 qho14 (memoO qhb15 qha15 qhv15 qho15 (memoO qhb16 qha16 qhv16 qho16 (memoO qhb17 qha17 qhv17 qho17 (memoO qhb18 qha18 qhv18 qho18 (memoO qhb19 qha19 qhv19 qho19 (memoO qhb20 qha20 qhv20 qho20 (memoO qhb21 qha21 qhv21 qho21 (memoO qhb22 qha22 qhv22 qho22 (memoO qhb23 qha23 qhv23 qho23 (memoO qhb24 qha24 qhv24 qho24 (memoO qhb25 qha25 qhv25 qho25 (memoO qhb26 qha26 qhv26 qho26 (memoO qhb27 qha27 qhv27 qho27 (memoO qhb28 qha28 qhv28 qho28 (memoO qhb29 qha29 qhv29 qho29 (un 1 F12))))))))))))))))))))))))))))
theorem K12h : FOK Tryz.prog 12 (un 1 F12h) := cur_ok 1 (memoO_ok qhm3 (by kernel_rfl) (by kernel_rfl) (memoO_ok qhm4 (by kernel_rfl) (by kernel_rfl) (memoO_ok qhm5 (by kernel_rfl) (by kernel_rfl) (memoO_ok qhm6 (by kernel_rfl) (by kernel_rfl) (memoO_ok qhm7 (by kernel_rfl) (by kernel_rfl) (memoO_ok qhm8 (by kernel_rfl) (by kernel_rfl) (memoO_ok qhm9 (by kernel_rfl) (by kernel_rfl) (memoO_ok qhm10 (by kernel_rfl) (by kernel_rfl) (memoO_ok qhm11 (by kernel_rfl) (by kernel_rfl) (memoO_ok qhm12 (by kernel_rfl) (by kernel_rfl) (memoO_ok qhm13 (by kernel_rfl) (by kernel_rfl) (memoO_ok qhm14 (by kernel_rfl) (by kernel_rfl) (memoO_ok qhm15 (by kernel_rfl) (by kernel_rfl) (memoO_ok qhm16 (by kernel_rfl) (by kernel_rfl) (memoO_ok qhm17 (by kernel_rfl) (by kernel_rfl) (memoO_ok qhm18 (by kernel_rfl) (by kernel_rfl) (memoO_ok qhm19 (by kernel_rfl) (by kernel_rfl) (memoO_ok qhm20 (by kernel_rfl) (by kernel_rfl) (memoO_ok qhm21 (by kernel_rfl) (by kernel_rfl) (memoO_ok qhm22 (by kernel_rfl) (by kernel_rfl) (memoO_ok qhm23 (by kernel_rfl) (by kernel_rfl) (memoO_ok qhm24 (by kernel_rfl) (by kernel_rfl) (memoO_ok qhm25 (by kernel_rfl) (by kernel_rfl) (memoO_ok qhm26 (by kernel_rfl) (by kernel_rfl) (memoO_ok qhm27 (by kernel_rfl) (by kernel_rfl) (memoO_ok qhm28 (by kernel_rfl) (by kernel_rfl) (memoO_ok qhm29 (by kernel_rfl) (by kernel_rfl) K12)))))))))))))))))))))))))))
def F18h : Gn 0 := G18 (C18 F12h F13 F19 F21 F29 F32 F39 F46 F50 F53)
theorem K18h : FOK Tryz.prog 18 (un 0 F18h) := fokP (.cons K12h (.cons K13 (.cons K19 (.cons K21 (.cons K29 (.cons K32 (.cons K39 (.cons K46 (.cons K50 (.cons K53 .nil)))))))))) .nil hm Tryz.func18 (by kernel_rfl) (D18 F12h F13 F19 F21 F29 F32 F39 F46 F50 F53) (H18 _)
def F152h : Gn 3 := G152 (C152 F146q)
theorem K152h : FOK Tryz.prog 152 (un 3 F152h) := fokP (.cons K146q .nil) .nil hm Tryz.func152 (by kernel_rfl) (D152 F146q) (H152 _)
def F144h : Gn 3 := G144 (C144 F103 F152h)
theorem K144h : FOK Tryz.prog 144 (un 3 F144h) := fokP (.cons K103 (.cons K152h .nil)) .nil hm Tryz.func144 (by kernel_rfl) (D144 F103 F152h) (H144 _)
def F102h : Gn 2 := G102 (C102 F103 F144h F145 F146q F147 F148)
theorem K102h : FOK Tryz.prog 102 (un 2 F102h) := fokP (.cons K103 (.cons K144h (.cons K145 (.cons K146q (.cons K147 (.cons K148 .nil)))))) .nil hm Tryz.func102 (by kernel_rfl) (D102 F103 F144h F145 F146q F147 F148) (H102 _)
def F234h : Gn 4 := G234 (C234 F152h F254q)
theorem K234h : FOK Tryz.prog 234 (un 4 F234h) := fokP (.cons K152h (.cons K254q .nil)) .nil hm Tryz.func234 (by kernel_rfl) (D234 F152h F254q) (H234 _)
def F191h : Gn 4 := G191 (C191 F152h F234h)
theorem K191h : FOK Tryz.prog 191 (un 4 F191h) := fokP (.cons K152h (.cons K234h .nil)) .nil hm Tryz.func191 (by kernel_rfl) (D191 F152h F234h) (H191 _)
def F153h : Gn 3 := G153 (C153 F191h)
theorem K153h : FOK Tryz.prog 153 (un 3 F153h) := fokP (.cons K191h .nil) .nil hm Tryz.func153 (by kernel_rfl) (D153 F191h) (H153 _)
def F104h : Gn 2 := G104 (C104 F103 F144h F146q F152h F153h F154)
theorem K104h : FOK Tryz.prog 104 (un 2 F104h) := fokP (.cons K103 (.cons K144h (.cons K146q (.cons K152h (.cons K153h (.cons K154 .nil)))))) .nil hm Tryz.func104 (by kernel_rfl) (D104 F103 F144h F146q F152h F153h F154) (H104 _)
def F63h : Gn 2 := G63 (C63 F101 F102h F103 F104h F105)
theorem K63h : FOK Tryz.prog 63 (un 2 F63h) := fokP (.cons K101 (.cons K102h (.cons K103 (.cons K104h (.cons K105 .nil))))) .nil hm Tryz.func63 (by kernel_rfl) (D63 F101 F102h F103 F104h F105) (H63 _)
def F11h : Gn 2 := G11 (C11 F12h sayT F33 F53 F61 F62 F63h)
theorem K11h : FOK Tryz.prog 11 (un 2 F11h) := fokP (.cons K12h (.cons K18y (.cons K33 (.cons K53 (.cons K61 (.cons K62 (.cons K63h .nil))))))) .nil hm Tryz.func11 (by kernel_rfl) (D11 F12h sayT F33 F53 F61 F62 F63h) (H11 _)
end
end Go.AM
