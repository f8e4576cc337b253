/- The law over these. -/
import Derived.Test.YtndgeimkifdifaaGreatMFO
set_option maxRecDepth 1000000
set_option linter.unusedVariables false
namespace Go.AM
open Go.Proofs
noncomputable section
def F67h : Gn 1 := G67 (C67 F109t)
theorem K67h : FOK Tryz.prog 67 (un 1 F67h) := fokP (.cons K109t .nil) .nil hm Tryz.func67 (by kernel_rfl) (D67 F109t) (H67 _)
def F64h : Gn 2 := G64 (C64 F67h)
theorem K64h : FOK Tryz.prog 64 (un 2 F64h) := fokP (.cons K67h .nil) .nil hm Tryz.func64 (by kernel_rfl) (D64 F67h) (H64 _)
def F65h : Gn 1 := G65 (C65 F106q F107)
theorem K65h : FOK Tryz.prog 65 (un 1 F65h) := fokP (.cons K106q (.cons K107 .nil)) .nil hm Tryz.func65 (by kernel_rfl) (D65 F106q F107) (H65 _)
def F12h : Gn 1 := G12 (C12 F64h F65h F66h)
theorem K12h : FOK Tryz.prog 12 (un 1 F12h) := fokP (.cons K64h (.cons K65h (.cons K66h .nil))) .nil hm Tryz.func12 (by kernel_rfl) (D12 F64h F65h F66h) (H12 _)
def F13h : Gn 1 := G13 (C13 F64h F67h)
theorem K13h : FOK Tryz.prog 13 (un 1 F13h) := fokP (.cons K64h (.cons K67h .nil)) .nil hm Tryz.func13 (by kernel_rfl) (D13 F64h F67h) (H13 _)
def F110h : Gn 1 := G110 (C110 F82q)
theorem K110h : FOK Tryz.prog 110 (un 1 F110h) := fokP (.cons K82q .nil) .nil hm Tryz.func110 (by kernel_rfl) (D110 F82q) (H110 _)
def F68h : Gn 1 := G68 (C68 F110h)
theorem K68h : FOK Tryz.prog 68 (un 1 F68h) := fokP (.cons K110h .nil) .nil hm Tryz.func68 (by kernel_rfl) (D68 F110h) (H68 _)
def F32h : Gn 1 := G32 (C32 F38q F60t)
theorem K32h : FOK Tryz.prog 32 (un 1 F32h) := fokP (.cons K38q (.cons K60t .nil)) .nil hm Tryz.func32 (by kernel_rfl) (D32 F38q F60t) (H32 _)
def F89h : Gn 2 := G89 (C89 F38q)
theorem K89h : FOK Tryz.prog 89 (un 2 F89h) := fokP (.cons K38q .nil) .nil hm Tryz.func89 (by kernel_rfl) (D89 F38q) (H89 _)
def F40h : Gn 2 := G40 (C40 F38q F44t F87t)
theorem K40h : FOK Tryz.prog 40 (un 2 F40h) := fokP (.cons K38q (.cons K44t (.cons K87t .nil))) .nil hm Tryz.func40 (by kernel_rfl) (D40 F38q F44t F87t) (H40 _)
def F70h : Gn 1 := G70 (C70 F32h F38q F40h F41t)
theorem K70h : FOK Tryz.prog 70 (un 1 F70h) := fokP (.cons K32h (.cons K38q (.cons K40h (.cons K41t .nil)))) .nil hm Tryz.func70 (by kernel_rfl) (D70 F32h F38q F40h F41t) (H70 _)
def F119h : Gn 1 := G119 (C119 F38q)
theorem K119h : FOK Tryz.prog 119 (un 1 F119h) := fokP (.cons K38q .nil) .nil hm Tryz.func119 (by kernel_rfl) (D119 F38q) (H119 _)
def F161h : Gn 2 := G161 (C161 F85q F205)
theorem K161h : FOK Tryz.prog 161 (un 2 F161h) := fokP (.cons K85q (.cons K205 .nil)) .nil hm Tryz.func161 (by kernel_rfl) (D161 F85q F205) (H161 _)
def F111h : Gn 2 := G111 (C111 F35t F40h F41t F44t F60t F119h F161h)
theorem K111h : FOK Tryz.prog 111 (un 2 F111h) := fokP (.cons K35t (.cons K40h (.cons K41t (.cons K44t (.cons K60t (.cons K119h (.cons K161h .nil))))))) .nil hm Tryz.func111 (by kernel_rfl) (D111 F35t F40h F41t F44t F60t F119h F161h) (H111 _)
def F71h : Gn 2 := G71 (C71 F111h)
theorem K71h : FOK Tryz.prog 71 (un 2 F71h) := fokP (.cons K111h .nil) .nil hm Tryz.func71 (by kernel_rfl) (D71 F111h) (H71 _)
def F17h : Gn 1 := G17 (C17 F32h F35t F69 F70h F71h)
theorem K17h : FOK Tryz.prog 17 (un 1 F17h) := fokP (.cons K32h (.cons K35t (.cons K69 (.cons K70h (.cons K71h .nil))))) .nil hm Tryz.func17 (by kernel_rfl) (D17 F32h F35t F69 F70h F71h) (H17 _)
def F16h : Gn 1 := G16 (C16 F17h)
theorem K16h : FOK Tryz.prog 16 (un 1 F16h) := fokP (.cons K17h .nil) .nil hm Tryz.func16 (by kernel_rfl) (D16 F17h) (H16 _)
def F113h : Gn 2 := G113 (C113 F109t)
theorem K113h : FOK Tryz.prog 113 (un 2 F113h) := fokP (.cons K109t .nil) .nil hm Tryz.func113 (by kernel_rfl) (D113 F109t) (H113 _)
def T206h : List (Nat × Fun) := [(16, un 1 F16h), (113, un 2 F113h), (135, un 3 F135), (138, un 1 F138), (164, un 1 F164)]
def F206h : Gn 2 := G206 (C206 T206h)
theorem K206h : FOK Tryz.prog 206 (un 2 F206h) := fokP .nil (show LOK Tryz.prog T206h from (.cons K16h (.cons K113h (.cons K135 (.cons K138 (.cons K164 .nil)))))) hm Tryz.func206 (by kernel_rfl) (D206 T206h) (H206 _)
def F163h : Gn 2 := G163 (C163 F206h)
theorem K163h : FOK Tryz.prog 163 (un 2 F163h) := fokP (.cons K206h .nil) .nil hm Tryz.func163 (by kernel_rfl) (D163 F206h) (H163 _)
def F168h : Gn 1 := G168 (C168 F163h)
theorem K168h : FOK Tryz.prog 168 (un 1 F168h) := fokP (.cons K163h .nil) .nil hm Tryz.func168 (by kernel_rfl) (D168 F163h) (H168 _)
def T14h : List (Nat × Fun) := [(16, un 1 F16h), (113, un 2 F113h), (135, un 3 F135), (138, un 1 F138), (164, un 1 F164), (168, un 1 F168h)]
def F14h : Gn 4 := G14 (C14 F39 F68h T14h)
theorem K14h : FOK Tryz.prog 14 (un 4 F14h) := fokP (.cons K39 (.cons K68h .nil)) (show LOK Tryz.prog T14h from (.cons K16h (.cons K113h (.cons K135 (.cons K138 (.cons K164 (.cons K168h .nil))))))) hm Tryz.func14 (by kernel_rfl) (D14 F39 F68h T14h) (H14 _)
def F3h : Gn 1 := G3 (C3 F12h F13h F14h F15 sayT F19 F20)
theorem K3h : FOK Tryz.prog 3 (un 1 F3h) := fokP (.cons K12h (.cons K13h (.cons K14h (.cons K15 (.cons K18y (.cons K19 (.cons K20 .nil))))))) .nil hm Tryz.func3 (by kernel_rfl) (D3 F12h F13h F14h F15 sayT F19 F20) (H3 _)
def gR (r : Nat) : Gn 2 := fun _ _ S c => c (nn r) S
def F12e : Gn 1 := G12 (C12 (gR 3) F65h F66h)
def F13e : Gn 1 := G13 (C13 (gR 3) F67h)
end
end Go.AM
