/- The texts over the tables. -/
import Derived.Test.YtndgeimkifdifaaGreatXO
import Derived.Test.YtndgeimkifdifaaGreatXM
set_option maxRecDepth 1000000
set_option linter.unusedVariables false
namespace Go.AM
open Go.Proofs
noncomputable section
def fin : V → St → R := fun v S => some (v, S)
def F35t : Gn 2 := mulT
def F44t : Gn 2 := addT
def F87t : Gn 2 := scaleT
def F41t : Gn 2 := monoT
def F60t : Gn 1 := trimT
def F109t : Gn 2 := gcdT
def F67b : Gn 1 := G67 (C67 F109t)
theorem K67b : FOK Tryz.prog 67 (un 1 F67b) := fokP (.cons K109t .nil) .nil hm Tryz.func67 (by kernel_rfl) (D67 F109t) (H67 _)
def F64b : Gn 2 := G64 (C64 F67b)
theorem K64b : FOK Tryz.prog 64 (un 2 F64b) := fokP (.cons K67b .nil) .nil hm Tryz.func64 (by kernel_rfl) (D64 F67b) (H64 _)
def F65b : Gn 1 := G65 (C65 F106q F107)
theorem K65b : FOK Tryz.prog 65 (un 1 F65b) := fokP (.cons K106q (.cons K107 .nil)) .nil hm Tryz.func65 (by kernel_rfl) (D65 F106q F107) (H65 _)
def F32b : Gn 1 := G32 (C32 F38q F60t)
theorem K32b : FOK Tryz.prog 32 (un 1 F32b) := fokP (.cons K38q (.cons K60t .nil)) .nil hm Tryz.func32 (by kernel_rfl) (D32 F38q F60t) (H32 _)
def F89b : Gn 2 := G89 (C89 F38q)
theorem K89b : FOK Tryz.prog 89 (un 2 F89b) := fokP (.cons K38q .nil) .nil hm Tryz.func89 (by kernel_rfl) (D89 F38q) (H89 _)
def F40b : Gn 2 := G40 (C40 F38q F44t F87t)
theorem K40b : FOK Tryz.prog 40 (un 2 F40b) := fokP (.cons K38q (.cons K44t (.cons K87t .nil))) .nil hm Tryz.func40 (by kernel_rfl) (D40 F38q F44t F87t) (H40 _)
def F70b : Gn 1 := G70 (C70 F32b F38q F40b F41t)
theorem K70b : FOK Tryz.prog 70 (un 1 F70b) := fokP (.cons K32b (.cons K38q (.cons K40b (.cons K41t .nil)))) .nil hm Tryz.func70 (by kernel_rfl) (D70 F32b F38q F40b F41t) (H70 _)
def F119b : Gn 1 := G119 (C119 F38q)
theorem K119b : FOK Tryz.prog 119 (un 1 F119b) := fokP (.cons K38q .nil) .nil hm Tryz.func119 (by kernel_rfl) (D119 F38q) (H119 _)
def F161b : Gn 2 := G161 (C161 F85q F205)
theorem K161b : FOK Tryz.prog 161 (un 2 F161b) := fokP (.cons K85q (.cons K205 .nil)) .nil hm Tryz.func161 (by kernel_rfl) (D161 F85q F205) (H161 _)
def F111b : Gn 2 := G111 (C111 F35t F40b F41t F44t F60t F119b F161b)
theorem K111b : FOK Tryz.prog 111 (un 2 F111b) := fokP (.cons K35t (.cons K40b (.cons K41t (.cons K44t (.cons K60t (.cons K119b (.cons K161b .nil))))))) .nil hm Tryz.func111 (by kernel_rfl) (D111 F35t F40b F41t F44t F60t F119b F161b) (H111 _)
def F71b : Gn 2 := G71 (C71 F111b)
theorem K71b : FOK Tryz.prog 71 (un 2 F71b) := fokP (.cons K111b .nil) .nil hm Tryz.func71 (by kernel_rfl) (D71 F111b) (H71 _)
def F17b : Gn 1 := G17 (C17 F32b F35t F69 F70b F71b)
theorem K17b : FOK Tryz.prog 17 (un 1 F17b) := fokP (.cons K32b (.cons K35t (.cons K69 (.cons K70b (.cons K71b .nil))))) .nil hm Tryz.func17 (by kernel_rfl) (D17 F32b F35t F69 F70b F71b) (H17 _)
def F74b : Gn 1 := G74 (C74 F65b F66)
theorem K74b : FOK Tryz.prog 74 (un 1 F74b) := fokP (.cons K65b (.cons K66 .nil)) .nil hm Tryz.func74 (by kernel_rfl) (D74 F65b F66) (H74 _)
def F169b : Gn 2 := G169 (C169 F106q F107 F159 F183q F211 F212 F213q)
theorem K169b : FOK Tryz.prog 169 (un 2 F169b) := fokP (.cons K106q (.cons K107 (.cons K159 (.cons K183q (.cons K211 (.cons K212 (.cons K213q .nil))))))) .nil hm Tryz.func169 (by kernel_rfl) (D169 F106q F107 F159 F183q F211 F212 F213q) (H169 _)
def F118b : Gn 2 := G118 (C118 F169b)
theorem K118b : FOK Tryz.prog 118 (un 2 F118b) := fokP (.cons K169b .nil) .nil hm Tryz.func118 (by kernel_rfl) (D118 F169b) (H118 _)
def F78b : Gn 2 := G78 (C78 F74b F94 F106q F118b)
theorem K78b : FOK Tryz.prog 78 (un 2 F78b) := fokP (.cons K74b (.cons K94 (.cons K106q (.cons K118b .nil)))) .nil hm Tryz.func78 (by kernel_rfl) (D78 F74b F94 F106q F118b) (H78 _)
def F46b : Gn 2 := G46 (C46 F64b F78b)
theorem K46b : FOK Tryz.prog 46 (un 2 F46b) := fokP (.cons K64b (.cons K78b .nil)) .nil hm Tryz.func46 (by kernel_rfl) (D46 F64b F78b) (H46 _)
def F47b : Gn 1 := G47 (C47 F64b F74b)
theorem K47b : FOK Tryz.prog 47 (un 1 F47b) := fokP (.cons K64b (.cons K74b .nil)) .nil hm Tryz.func47 (by kernel_rfl) (D47 F64b F74b) (H47 _)
def F25b : Gn 1 := G25 (C25 F17b)
theorem K25b : FOK Tryz.prog 25 (un 1 F25b) := fokP (.cons K17b .nil) .nil hm Tryz.func25 (by kernel_rfl) (D25 F17b) (H25 _)
def F134b : Gn 2 := G134 (C134 F111b)
theorem K134b : FOK Tryz.prog 134 (un 2 F134b) := fokP (.cons K111b .nil) .nil hm Tryz.func134 (by kernel_rfl) (D134 F111b) (H134 _)
def F90b : Gn 2 := G90 (C90 F134b)
theorem K90b : FOK Tryz.prog 90 (un 2 F90b) := fokP (.cons K134b .nil) .nil hm Tryz.func90 (by kernel_rfl) (D90 F134b) (H90 _)
def F48b : Gn 2 := G48 (C48 F25b F38q F41t F57 F90b)
theorem K48b : FOK Tryz.prog 48 (un 2 F48b) := fokP (.cons K25b (.cons K38q (.cons K41t (.cons K57 (.cons K90b .nil))))) .nil hm Tryz.func48 (by kernel_rfl) (D48 F25b F38q F41t F57 F90b) (H48 _)
def F8b : Gn 2 := G8 (C8 F15 F17b sayT F39 F46b F47b F48b)
theorem K8b : FOK Tryz.prog 8 (un 2 F8b) := fokP (.cons K15 (.cons K17b (.cons K18y (.cons K39 (.cons K46b (.cons K47b (.cons K48b .nil))))))) .nil hm Tryz.func8 (by kernel_rfl) (D8 F15 F17b sayT F39 F46b F47b F48b) (H8 _)
end
end Go.AM
