/- Runs of the law at the primes up to 23. -/
import Derived.Test.YtpendgpnikmohaaGreatMSA0
import Derived.Test.YtpendgpnikmohaaGreatMSA1
import Derived.Test.YtpendgpnikmohaaGreatMSA2
set_option maxRecDepth 1000000
set_option linter.unusedVariables false
namespace Go.AM
open Go.Proofs
noncomputable section
def fin : V → St → R := fun v S => some (v, S)
theorem srun3 : yesB (F4 (.i .i64 3) S0 fin) = true := by kernel_rfl
theorem sfok3 : FOK Tryz.prog 4 (un 1 F4) := K4
theorem srun5 : yesB (F4 (.i .i64 5) S0 fin) = true := by kernel_rfl
theorem sfok5 : FOK Tryz.prog 4 (un 1 F4) := K4
theorem srun7 : yesB (F4 (.i .i64 7) S0 fin) = true := by kernel_rfl
theorem sfok7 : FOK Tryz.prog 4 (un 1 F4) := K4
def F20p11 : Gn 2 := cur 2 (memoO shb0 sha0 shv0 sho0 (memoO shb1 sha1 shv1 sho1 (memoO shb2 sha2 shv2 sho2 (memoO shb3 sha3 shv3 sho3 (memoO shb4 sha4 shv4 sho4 (un 2 F20))))))
theorem K20p11 : FOK Tryz.prog 20 (un 2 F20p11) := cur_ok 2 (memoO_ok shm0 (by kernel_rfl) (by kernel_rfl) (memoO_ok shm1 (by kernel_rfl) (by kernel_rfl) (memoO_ok shm2 (by kernel_rfl) (by kernel_rfl) (memoO_ok shm3 (by kernel_rfl) (by kernel_rfl) (memoO_ok shm4 (by kernel_rfl) (by kernel_rfl) K20)))))
def F48p11 : Gn 2 := G48 (C48 F20p11 F24 F39 F41 F42 F51 F80)
theorem K48p11 : FOK Tryz.prog 48 (un 2 F48p11) := fokP (.cons K20p11 (.cons K24 (.cons K39 (.cons K41 (.cons K42 (.cons K51 (.cons K80 .nil))))))) .nil hm Tryz.func48 (by kernel_rfl) (D48 F20p11 F24 F39 F41 F42 F51 F80) (H48 _)
def F19p11 : Gn 2 := G19 (C19 F48p11)
theorem K19p11 : FOK Tryz.prog 19 (un 2 F19p11) := fokP (.cons K48p11 .nil) .nil hm Tryz.func19 (by kernel_rfl) (D19 F48p11) (H19 _)
def F21p11 : Gn 1 := G21 (C21 F16 F19p11 F25 F28 F41 F42)
theorem K21p11 : FOK Tryz.prog 21 (un 1 F21p11) := fokP (.cons K16 (.cons K19p11 (.cons K25 (.cons K28 (.cons K41 (.cons K42 .nil)))))) .nil hm Tryz.func21 (by kernel_rfl) (D21 F16 F19p11 F25 F28 F41 F42) (H21 _)
def F4p11 : Gn 1 := G4 (C4 sayT F13 F16 F17 F18 F19p11 F20p11 F21p11 F22 F23)
theorem K4p11 : FOK Tryz.prog 4 (un 1 F4p11) := fokP (.cons K11y (.cons K13 (.cons K16 (.cons K17 (.cons K18 (.cons K19p11 (.cons K20p11 (.cons K21p11 (.cons K22 (.cons K23 .nil)))))))))) .nil hm Tryz.func4 (by kernel_rfl) (D4 sayT F13 F16 F17 F18 F19p11 F20p11 F21p11 F22 F23) (H4 _)
theorem srun11 : yesB (F4p11 (.i .i64 11) S0 fin) = true := by kernel_rfl
theorem sfok11 : FOK Tryz.prog 4 (un 1 F4p11) := K4p11
def F20p13 : Gn 2 := cur 2 (memoO shb5 sha5 shv5 sho5 (memoO shb6 sha6 shv6 sho6 (memoO shb8 sha8 shv8 sho8 (memoO shb10 sha10 shv10 sho10 (memoO shb12 sha12 shv12 sho12 (memoO shb13 sha13 shv13 sho13 (memoO shb14 sha14 shv14 sho14 (memoO shb15 sha15 shv15 sho15 (un 2 F20)))))))))
theorem K20p13 : FOK Tryz.prog 20 (un 2 F20p13) := cur_ok 2 (memoO_ok shm5 (by kernel_rfl) (by kernel_rfl) (memoO_ok shm6 (by kernel_rfl) (by kernel_rfl) (memoO_ok shm8 (by kernel_rfl) (by kernel_rfl) (memoO_ok shm10 (by kernel_rfl) (by kernel_rfl) (memoO_ok shm12 (by kernel_rfl) (by kernel_rfl) (memoO_ok shm13 (by kernel_rfl) (by kernel_rfl) (memoO_ok shm14 (by kernel_rfl) (by kernel_rfl) (memoO_ok shm15 (by kernel_rfl) (by kernel_rfl) K20))))))))
def F39p13 : Gn 2 := cur 2 (memoO shb7 sha7 shv7 sho7 (memoO shb9 sha9 shv9 sho9 (memoO shb11 sha11 shv11 sho11 (un 2 F39))))
theorem K39p13 : FOK Tryz.prog 39 (un 2 F39p13) := cur_ok 2 (memoO_ok shm7 (by kernel_rfl) (by kernel_rfl) (memoO_ok shm9 (by kernel_rfl) (by kernel_rfl) (memoO_ok shm11 (by kernel_rfl) (by kernel_rfl) K39)))
def F48p13 : Gn 2 := G48 (C48 F20p13 F24 F39p13 F41 F42 F51 F80)
theorem K48p13 : FOK Tryz.prog 48 (un 2 F48p13) := fokP (.cons K20p13 (.cons K24 (.cons K39p13 (.cons K41 (.cons K42 (.cons K51 (.cons K80 .nil))))))) .nil hm Tryz.func48 (by kernel_rfl) (D48 F20p13 F24 F39p13 F41 F42 F51 F80) (H48 _)
def F19p13 : Gn 2 := G19 (C19 F48p13)
theorem K19p13 : FOK Tryz.prog 19 (un 2 F19p13) := fokP (.cons K48p13 .nil) .nil hm Tryz.func19 (by kernel_rfl) (D19 F48p13) (H19 _)
def F21p13 : Gn 1 := G21 (C21 F16 F19p13 F25 F28 F41 F42)
theorem K21p13 : FOK Tryz.prog 21 (un 1 F21p13) := fokP (.cons K16 (.cons K19p13 (.cons K25 (.cons K28 (.cons K41 (.cons K42 .nil)))))) .nil hm Tryz.func21 (by kernel_rfl) (D21 F16 F19p13 F25 F28 F41 F42) (H21 _)
def F4p13 : Gn 1 := G4 (C4 sayT F13 F16 F17 F18 F19p13 F20p13 F21p13 F22 F23)
theorem K4p13 : FOK Tryz.prog 4 (un 1 F4p13) := fokP (.cons K11y (.cons K13 (.cons K16 (.cons K17 (.cons K18 (.cons K19p13 (.cons K20p13 (.cons K21p13 (.cons K22 (.cons K23 .nil)))))))))) .nil hm Tryz.func4 (by kernel_rfl) (D4 sayT F13 F16 F17 F18 F19p13 F20p13 F21p13 F22 F23) (H4 _)
theorem srun13 : yesB (F4p13 (.i .i64 13) S0 fin) = true := by kernel_rfl
theorem sfok13 : FOK Tryz.prog 4 (un 1 F4p13) := K4p13
def F20p17 : Gn 2 := cur 2 (memoO shb16 sha16 shv16 sho16 (memoO shb17 sha17 shv17 sho17 (memoO shb19 sha19 shv19 sho19 (memoO shb21 sha21 shv21 sho21 (memoO shb23 sha23 shv23 sho23 (memoO shb25 sha25 shv25 sho25 (memoO shb27 sha27 shv27 sho27 (memoO shb29 sha29 shv29 sho29 (memoO shb31 sha31 shv31 sho31 (memoO shb33 sha33 shv33 sho33 (memoO shb35 sha35 shv35 sho35 (memoO shb36 sha36 shv36 sho36 (memoO shb38 sha38 shv38 sho38 (un 2 F20))))))))))))))
theorem K20p17 : FOK Tryz.prog 20 (un 2 F20p17) := cur_ok 2 (memoO_ok shm16 (by kernel_rfl) (by kernel_rfl) (memoO_ok shm17 (by kernel_rfl) (by kernel_rfl) (memoO_ok shm19 (by kernel_rfl) (by kernel_rfl) (memoO_ok shm21 (by kernel_rfl) (by kernel_rfl) (memoO_ok shm23 (by kernel_rfl) (by kernel_rfl) (memoO_ok shm25 (by kernel_rfl) (by kernel_rfl) (memoO_ok shm27 (by kernel_rfl) (by kernel_rfl) (memoO_ok shm29 (by kernel_rfl) (by kernel_rfl) (memoO_ok shm31 (by kernel_rfl) (by kernel_rfl) (memoO_ok shm33 (by kernel_rfl) (by kernel_rfl) (memoO_ok shm35 (by kernel_rfl) (by kernel_rfl) (memoO_ok shm36 (by kernel_rfl) (by kernel_rfl) (memoO_ok shm38 (by kernel_rfl) (by kernel_rfl) K20)))))))))))))
def F39p17 : Gn 2 := cur 2 (memoO shb18 sha18 shv18 sho18 (memoO shb20 sha20 shv20 sho20 (memoO shb22 sha22 shv22 sho22 (memoO shb24 sha24 shv24 sho24 (memoO shb26 sha26 shv26 sho26 (memoO shb28 sha28 shv28 sho28 (memoO shb30 sha30 shv30 sho30 (memoO shb32 sha32 shv32 sho32 (memoO shb34 sha34 shv34 sho34 (memoO shb37 sha37 shv37 sho37 (un 2 F39)))))))))))
theorem K39p17 : FOK Tryz.prog 39 (un 2 F39p17) := cur_ok 2 (memoO_ok shm18 (by kernel_rfl) (by kernel_rfl) (memoO_ok shm20 (by kernel_rfl) (by kernel_rfl) (memoO_ok shm22 (by kernel_rfl) (by kernel_rfl) (memoO_ok shm24 (by kernel_rfl) (by kernel_rfl) (memoO_ok shm26 (by kernel_rfl) (by kernel_rfl) (memoO_ok shm28 (by kernel_rfl) (by kernel_rfl) (memoO_ok shm30 (by kernel_rfl) (by kernel_rfl) (memoO_ok shm32 (by kernel_rfl) (by kernel_rfl) (memoO_ok shm34 (by kernel_rfl) (by kernel_rfl) (memoO_ok shm37 (by kernel_rfl) (by kernel_rfl) K39))))))))))
def F48p17 : Gn 2 := G48 (C48 F20p17 F24 F39p17 F41 F42 F51 F80)
theorem K48p17 : FOK Tryz.prog 48 (un 2 F48p17) := fokP (.cons K20p17 (.cons K24 (.cons K39p17 (.cons K41 (.cons K42 (.cons K51 (.cons K80 .nil))))))) .nil hm Tryz.func48 (by kernel_rfl) (D48 F20p17 F24 F39p17 F41 F42 F51 F80) (H48 _)
def F19p17 : Gn 2 := G19 (C19 F48p17)
theorem K19p17 : FOK Tryz.prog 19 (un 2 F19p17) := fokP (.cons K48p17 .nil) .nil hm Tryz.func19 (by kernel_rfl) (D19 F48p17) (H19 _)
def F21p17 : Gn 1 := G21 (C21 F16 F19p17 F25 F28 F41 F42)
theorem K21p17 : FOK Tryz.prog 21 (un 1 F21p17) := fokP (.cons K16 (.cons K19p17 (.cons K25 (.cons K28 (.cons K41 (.cons K42 .nil)))))) .nil hm Tryz.func21 (by kernel_rfl) (D21 F16 F19p17 F25 F28 F41 F42) (H21 _)
def F4p17 : Gn 1 := G4 (C4 sayT F13 F16 F17 F18 F19p17 F20p17 F21p17 F22 F23)
theorem K4p17 : FOK Tryz.prog 4 (un 1 F4p17) := fokP (.cons K11y (.cons K13 (.cons K16 (.cons K17 (.cons K18 (.cons K19p17 (.cons K20p17 (.cons K21p17 (.cons K22 (.cons K23 .nil)))))))))) .nil hm Tryz.func4 (by kernel_rfl) (D4 sayT F13 F16 F17 F18 F19p17 F20p17 F21p17 F22 F23) (H4 _)
theorem srun17 : yesB (F4p17 (.i .i64 17) S0 fin) = true := by kernel_rfl
theorem sfok17 : FOK Tryz.prog 4 (un 1 F4p17) := K4p17
def F20p19 : Gn 2 := cur 2 (memoO shb39 sha39 shv39 sho39 (memoO shb40 sha40 shv40 sho40 (memoO shb42 sha42 shv42 sho42 (memoO shb44 sha44 shv44 sho44 (memoO shb46 sha46 shv46 sho46 (memoO shb48 sha48 shv48 sho48 (memoO shb50 sha50 shv50 sho50 (memoO shb52 sha52 shv52 sho52 (memoO shb54 sha54 shv54 sho54 (memoO shb56 sha56 shv56 sho56 (memoO shb58 sha58 shv58 sho58 (memoO shb60 sha60 shv60 sho60 (un 2 F20)))))))))))))
theorem K20p19 : FOK Tryz.prog 20 (un 2 F20p19) := cur_ok 2 (memoO_ok shm39 (by kernel_rfl) (by kernel_rfl) (memoO_ok shm40 (by kernel_rfl) (by kernel_rfl) (memoO_ok shm42 (by kernel_rfl) (by kernel_rfl) (memoO_ok shm44 (by kernel_rfl) (by kernel_rfl) (memoO_ok shm46 (by kernel_rfl) (by kernel_rfl) (memoO_ok shm48 (by kernel_rfl) (by kernel_rfl) (memoO_ok shm50 (by kernel_rfl) (by kernel_rfl) (memoO_ok shm52 (by kernel_rfl) (by kernel_rfl) (memoO_ok shm54 (by kernel_rfl) (by kernel_rfl) (memoO_ok shm56 (by kernel_rfl) (by kernel_rfl) (memoO_ok shm58 (by kernel_rfl) (by kernel_rfl) (memoO_ok shm60 (by kernel_rfl) (by kernel_rfl) K20))))))))))))
def F39p19 : Gn 2 := cur 2 (memoO shb41 sha41 shv41 sho41 (memoO shb43 sha43 shv43 sho43 (memoO shb45 sha45 shv45 sho45 (memoO shb47 sha47 shv47 sho47 (memoO shb49 sha49 shv49 sho49 (memoO shb51 sha51 shv51 sho51 (memoO shb53 sha53 shv53 sho53 (memoO shb55 sha55 shv55 sho55 (memoO shb57 sha57 shv57 sho57 (memoO shb59 sha59 shv59 sho59 (memoO shb61 sha61 shv61 sho61 (un 2 F39))))))))))))
theorem K39p19 : FOK Tryz.prog 39 (un 2 F39p19) := cur_ok 2 (memoO_ok shm41 (by kernel_rfl) (by kernel_rfl) (memoO_ok shm43 (by kernel_rfl) (by kernel_rfl) (memoO_ok shm45 (by kernel_rfl) (by kernel_rfl) (memoO_ok shm47 (by kernel_rfl) (by kernel_rfl) (memoO_ok shm49 (by kernel_rfl) (by kernel_rfl) (memoO_ok shm51 (by kernel_rfl) (by kernel_rfl) (memoO_ok shm53 (by kernel_rfl) (by kernel_rfl) (memoO_ok shm55 (by kernel_rfl) (by kernel_rfl) (memoO_ok shm57 (by kernel_rfl) (by kernel_rfl) (memoO_ok shm59 (by kernel_rfl) (by kernel_rfl) (memoO_ok shm61 (by kernel_rfl) (by kernel_rfl) K39)))))))))))
def F48p19 : Gn 2 := G48 (C48 F20p19 F24 F39p19 F41 F42 F51 F80)
theorem K48p19 : FOK Tryz.prog 48 (un 2 F48p19) := fokP (.cons K20p19 (.cons K24 (.cons K39p19 (.cons K41 (.cons K42 (.cons K51 (.cons K80 .nil))))))) .nil hm Tryz.func48 (by kernel_rfl) (D48 F20p19 F24 F39p19 F41 F42 F51 F80) (H48 _)
def F19p19 : Gn 2 := G19 (C19 F48p19)
theorem K19p19 : FOK Tryz.prog 19 (un 2 F19p19) := fokP (.cons K48p19 .nil) .nil hm Tryz.func19 (by kernel_rfl) (D19 F48p19) (H19 _)
def F21p19 : Gn 1 := G21 (C21 F16 F19p19 F25 F28 F41 F42)
theorem K21p19 : FOK Tryz.prog 21 (un 1 F21p19) := fokP (.cons K16 (.cons K19p19 (.cons K25 (.cons K28 (.cons K41 (.cons K42 .nil)))))) .nil hm Tryz.func21 (by kernel_rfl) (D21 F16 F19p19 F25 F28 F41 F42) (H21 _)
def F4p19 : Gn 1 := G4 (C4 sayT F13 F16 F17 F18 F19p19 F20p19 F21p19 F22 F23)
theorem K4p19 : FOK Tryz.prog 4 (un 1 F4p19) := fokP (.cons K11y (.cons K13 (.cons K16 (.cons K17 (.cons K18 (.cons K19p19 (.cons K20p19 (.cons K21p19 (.cons K22 (.cons K23 .nil)))))))))) .nil hm Tryz.func4 (by kernel_rfl) (D4 sayT F13 F16 F17 F18 F19p19 F20p19 F21p19 F22 F23) (H4 _)
theorem srun19 : yesB (F4p19 (.i .i64 19) S0 fin) = true := by kernel_rfl
theorem sfok19 : FOK Tryz.prog 4 (un 1 F4p19) := K4p19
def F20p23 : Gn 2 := cur 2 (memoO shb62 sha62 shv62 sho62 (memoO shb63 sha63 shv63 sho63 (memoO shb65 sha65 shv65 sho65 (memoO shb67 sha67 shv67 sho67 (memoO shb69 sha69 shv69 sho69 (memoO shb71 sha71 shv71 sho71 (memoO shb73 sha73 shv73 sho73 (memoO shb75 sha75 shv75 sho75 (memoO shb77 sha77 shv77 sho77 (memoO shb79 sha79 shv79 sho79 (memoO shb81 sha81 shv81 sho81 (memoO shb83 sha83 shv83 sho83 (memoO shb85 sha85 shv85 sho85 (un 2 F20))))))))))))))
theorem K20p23 : FOK Tryz.prog 20 (un 2 F20p23) := cur_ok 2 (memoO_ok shm62 (by kernel_rfl) (by kernel_rfl) (memoO_ok shm63 (by kernel_rfl) (by kernel_rfl) (memoO_ok shm65 (by kernel_rfl) (by kernel_rfl) (memoO_ok shm67 (by kernel_rfl) (by kernel_rfl) (memoO_ok shm69 (by kernel_rfl) (by kernel_rfl) (memoO_ok shm71 (by kernel_rfl) (by kernel_rfl) (memoO_ok shm73 (by kernel_rfl) (by kernel_rfl) (memoO_ok shm75 (by kernel_rfl) (by kernel_rfl) (memoO_ok shm77 (by kernel_rfl) (by kernel_rfl) (memoO_ok shm79 (by kernel_rfl) (by kernel_rfl) (memoO_ok shm81 (by kernel_rfl) (by kernel_rfl) (memoO_ok shm83 (by kernel_rfl) (by kernel_rfl) (memoO_ok shm85 (by kernel_rfl) (by kernel_rfl) K20)))))))))))))
def F39p23 : Gn 2 := cur 2 (memoO shb64 sha64 shv64 sho64 (memoO shb66 sha66 shv66 sho66 (memoO shb68 sha68 shv68 sho68 (memoO shb70 sha70 shv70 sho70 (memoO shb72 sha72 shv72 sho72 (memoO shb74 sha74 shv74 sho74 (memoO shb76 sha76 shv76 sho76 (memoO shb78 sha78 shv78 sho78 (memoO shb80 sha80 shv80 sho80 (memoO shb82 sha82 shv82 sho82 (memoO shb84 sha84 shv84 sho84 (memoO shb86 sha86 shv86 sho86 (un 2 F39)))))))))))))
theorem K39p23 : FOK Tryz.prog 39 (un 2 F39p23) := cur_ok 2 (memoO_ok shm64 (by kernel_rfl) (by kernel_rfl) (memoO_ok shm66 (by kernel_rfl) (by kernel_rfl) (memoO_ok shm68 (by kernel_rfl) (by kernel_rfl) (memoO_ok shm70 (by kernel_rfl) (by kernel_rfl) (memoO_ok shm72 (by kernel_rfl) (by kernel_rfl) (memoO_ok shm74 (by kernel_rfl) (by kernel_rfl) (memoO_ok shm76 (by kernel_rfl) (by kernel_rfl) (memoO_ok shm78 (by kernel_rfl) (by kernel_rfl) (memoO_ok shm80 (by kernel_rfl) (by kernel_rfl) (memoO_ok shm82 (by kernel_rfl) (by kernel_rfl) (memoO_ok shm84 (by kernel_rfl) (by kernel_rfl) (memoO_ok shm86 (by kernel_rfl) (by kernel_rfl) K39))))))))))))
def F48p23 : Gn 2 := G48 (C48 F20p23 F24 F39p23 F41 F42 F51 F80)
theorem K48p23 : FOK Tryz.prog 48 (un 2 F48p23) := fokP (.cons K20p23 (.cons K24 (.cons K39p23 (.cons K41 (.cons K42 (.cons K51 (.cons K80 .nil))))))) .nil hm Tryz.func48 (by kernel_rfl) (D48 F20p23 F24 F39p23 F41 F42 F51 F80) (H48 _)
def F19p23 : Gn 2 := G19 (C19 F48p23)
theorem K19p23 : FOK Tryz.prog 19 (un 2 F19p23) := fokP (.cons K48p23 .nil) .nil hm Tryz.func19 (by kernel_rfl) (D19 F48p23) (H19 _)
def F21p23 : Gn 1 := G21 (C21 F16 F19p23 F25 F28 F41 F42)
theorem K21p23 : FOK Tryz.prog 21 (un 1 F21p23) := fokP (.cons K16 (.cons K19p23 (.cons K25 (.cons K28 (.cons K41 (.cons K42 .nil)))))) .nil hm Tryz.func21 (by kernel_rfl) (D21 F16 F19p23 F25 F28 F41 F42) (H21 _)
def F4p23 : Gn 1 := G4 (C4 sayT F13 F16 F17 F18 F19p23 F20p23 F21p23 F22 F23)
theorem K4p23 : FOK Tryz.prog 4 (un 1 F4p23) := fokP (.cons K11y (.cons K13 (.cons K16 (.cons K17 (.cons K18 (.cons K19p23 (.cons K20p23 (.cons K21p23 (.cons K22 (.cons K23 .nil)))))))))) .nil hm Tryz.func4 (by kernel_rfl) (D4 sayT F13 F16 F17 F18 F19p23 F20p23 F21p23 F22 F23) (H4 _)
theorem srun23 : yesB (F4p23 (.i .i64 23) S0 fin) = true := by kernel_rfl
theorem sfok23 : FOK Tryz.prog 4 (un 1 F4p23) := K4p23
end
end Go.AM
