/- Irreducible, by runs. -/
import Derived.Test.YtpendgpnikmohaaGreatMGB
set_option maxRecDepth 1000000
set_option linter.unusedVariables false
namespace Go.AM
open Go.Proofs
noncomputable section
def iy43 : List V := [(.i .i64 1), (.i .i64 0), (.i .i64 0), (.i .i64 0), (.i .i64 0), (.i .i64 0), (.i .i64 0), (.i .i64 0), (.i .i64 0), (.i .i64 0), (.i .i64 0), (.i .i64 0), (.i .i64 0), (.i .i64 0), (.i .i64 1), (.i .i64 15), (.i .i64 1)]
def iy44 : List V := [(.i .i64 1), (.i .i64 0), (.i .i64 0), (.i .i64 0), (.i .i64 0), (.i .i64 0), (.i .i64 0), (.i .i64 0), (.i .i64 0), (.i .i64 0), (.i .i64 0), (.i .i64 0), (.i .i64 0), (.i .i64 0), (.i .i64 1), (.i .i64 16), (.i .i64 1)]
def iy45 : List V := [(.i .i64 1), (.i .i64 0), (.i .i64 0), (.i .i64 0), (.i .i64 0), (.i .i64 0), (.i .i64 0), (.i .i64 0), (.i .i64 0), (.i .i64 0), (.i .i64 0), (.i .i64 0), (.i .i64 0), (.i .i64 0), (.i .i64 1), (.i .i64 17), (.i .i64 1)]
def iy46 : List V := [(.i .i64 1), (.i .i64 0), (.i .i64 0), (.i .i64 0), (.i .i64 0), (.i .i64 0), (.i .i64 0), (.i .i64 0), (.i .i64 0), (.i .i64 0), (.i .i64 0), (.i .i64 0), (.i .i64 0), (.i .i64 0), (.i .i64 1), (.i .i64 18), (.i .i64 1)]
def iy47 : List V := [(.i .i64 1), (.i .i64 0), (.i .i64 0), (.i .i64 0), (.i .i64 0), (.i .i64 0), (.i .i64 0), (.i .i64 0), (.i .i64 0), (.i .i64 0), (.i .i64 0), (.i .i64 0), (.i .i64 0), (.i .i64 0), (.i .i64 1), (.i .i64 19), (.i .i64 1)]
def iy48 : List V := [(.i .i64 1), (.i .i64 0), (.i .i64 0), (.i .i64 0), (.i .i64 0), (.i .i64 0), (.i .i64 0), (.i .i64 0), (.i .i64 0), (.i .i64 0), (.i .i64 0), (.i .i64 0), (.i .i64 0), (.i .i64 0), (.i .i64 1), (.i .i64 20), (.i .i64 1)]
def iy49 : List V := [(.i .i64 1), (.i .i64 0), (.i .i64 0), (.i .i64 0), (.i .i64 0), (.i .i64 0), (.i .i64 0), (.i .i64 0), (.i .i64 0), (.i .i64 0), (.i .i64 0), (.i .i64 0), (.i .i64 0), (.i .i64 0), (.i .i64 1), (.i .i64 21), (.i .i64 1)]
def iy50 : List V := [(.i .i64 1), (.i .i64 0), (.i .i64 0), (.i .i64 0), (.i .i64 0), (.i .i64 0), (.i .i64 0), (.i .i64 0), (.i .i64 0), (.i .i64 0), (.i .i64 0), (.i .i64 0), (.i .i64 0), (.i .i64 0), (.i .i64 1), (.i .i64 22), (.i .i64 1)]
def iy51 : List V := [(.i .i64 1), (.i .i64 0), (.i .i64 0), (.i .i64 0), (.i .i64 0), (.i .i64 0), (.i .i64 0), (.i .i64 0), (.i .i64 0), (.i .i64 0), (.i .i64 0), (.i .i64 0), (.i .i64 0), (.i .i64 0), (.i .i64 2), (.i .i64 0), (.i .i64 1)]
def iy52 : List V := [(.i .i64 1), (.i .i64 0), (.i .i64 0), (.i .i64 0), (.i .i64 0), (.i .i64 0), (.i .i64 0), (.i .i64 0), (.i .i64 0), (.i .i64 0), (.i .i64 0), (.i .i64 0), (.i .i64 0), (.i .i64 0), (.i .i64 2), (.i .i64 1), (.i .i64 1)]
def iy53 : List V := [(.i .i64 1), (.i .i64 0), (.i .i64 0), (.i .i64 0), (.i .i64 0), (.i .i64 0), (.i .i64 0), (.i .i64 0), (.i .i64 0), (.i .i64 0), (.i .i64 0), (.i .i64 0), (.i .i64 0), (.i .i64 0), (.i .i64 2), (.i .i64 2), (.i .i64 1)]
def iy54 : List V := [(.i .i64 1), (.i .i64 0), (.i .i64 0), (.i .i64 0), (.i .i64 0), (.i .i64 0), (.i .i64 0), (.i .i64 0), (.i .i64 0), (.i .i64 0), (.i .i64 0), (.i .i64 0), (.i .i64 0), (.i .i64 0), (.i .i64 2), (.i .i64 3), (.i .i64 1)]
def iy55 : List V := [(.i .i64 1), (.i .i64 0), (.i .i64 0), (.i .i64 0), (.i .i64 0), (.i .i64 0), (.i .i64 0), (.i .i64 0), (.i .i64 0), (.i .i64 0), (.i .i64 0), (.i .i64 0), (.i .i64 0), (.i .i64 0), (.i .i64 2), (.i .i64 4), (.i .i64 1)]
def iy56 : List V := [(.i .i64 1), (.i .i64 0), (.i .i64 0), (.i .i64 0), (.i .i64 0), (.i .i64 0), (.i .i64 0), (.i .i64 0), (.i .i64 0), (.i .i64 0), (.i .i64 0), (.i .i64 0), (.i .i64 0), (.i .i64 0), (.i .i64 2), (.i .i64 5), (.i .i64 1)]
def iy57 : List V := [(.i .i64 1), (.i .i64 0), (.i .i64 0), (.i .i64 0), (.i .i64 0), (.i .i64 0), (.i .i64 0), (.i .i64 0), (.i .i64 0), (.i .i64 0), (.i .i64 0), (.i .i64 0), (.i .i64 0), (.i .i64 0), (.i .i64 2), (.i .i64 6), (.i .i64 1)]
def iy58 : List V := [(.i .i64 1), (.i .i64 0), (.i .i64 0), (.i .i64 0), (.i .i64 0), (.i .i64 0), (.i .i64 0), (.i .i64 0), (.i .i64 0), (.i .i64 0), (.i .i64 0), (.i .i64 0), (.i .i64 0), (.i .i64 0), (.i .i64 2), (.i .i64 7), (.i .i64 1)]
def iy59 : List V := [(.i .i64 1), (.i .i64 0), (.i .i64 0), (.i .i64 0), (.i .i64 0), (.i .i64 0), (.i .i64 0), (.i .i64 0), (.i .i64 0), (.i .i64 0), (.i .i64 0), (.i .i64 0), (.i .i64 0), (.i .i64 0), (.i .i64 2), (.i .i64 8), (.i .i64 1)]
def iy60 : List V := [(.i .i64 1), (.i .i64 0), (.i .i64 0), (.i .i64 0), (.i .i64 0), (.i .i64 0), (.i .i64 0), (.i .i64 0), (.i .i64 0), (.i .i64 0), (.i .i64 0), (.i .i64 0), (.i .i64 0), (.i .i64 0), (.i .i64 2), (.i .i64 9), (.i .i64 1)]
def iy61 : List V := [(.i .i64 1), (.i .i64 0), (.i .i64 0), (.i .i64 0), (.i .i64 0), (.i .i64 0), (.i .i64 0), (.i .i64 0), (.i .i64 0), (.i .i64 0), (.i .i64 0), (.i .i64 0), (.i .i64 0), (.i .i64 0), (.i .i64 2), (.i .i64 10), (.i .i64 1)]
def iy62 : List V := [(.i .i64 1), (.i .i64 0), (.i .i64 0), (.i .i64 0), (.i .i64 0), (.i .i64 0), (.i .i64 0), (.i .i64 0), (.i .i64 0), (.i .i64 0), (.i .i64 0), (.i .i64 0), (.i .i64 0), (.i .i64 0), (.i .i64 2), (.i .i64 11), (.i .i64 1)]
def iy63 : List V := [(.i .i64 1), (.i .i64 0), (.i .i64 0), (.i .i64 0), (.i .i64 0), (.i .i64 0), (.i .i64 0), (.i .i64 0), (.i .i64 0), (.i .i64 0), (.i .i64 0), (.i .i64 0), (.i .i64 0), (.i .i64 0), (.i .i64 2), (.i .i64 12), (.i .i64 1)]
def iy64 : List V := [(.i .i64 1), (.i .i64 0), (.i .i64 0), (.i .i64 0), (.i .i64 0), (.i .i64 0), (.i .i64 0), (.i .i64 0), (.i .i64 0), (.i .i64 0), (.i .i64 0), (.i .i64 0), (.i .i64 0), (.i .i64 0), (.i .i64 2), (.i .i64 13), (.i .i64 1)]
def iy65 : List V := [(.i .i64 1), (.i .i64 0), (.i .i64 0), (.i .i64 0), (.i .i64 0), (.i .i64 0), (.i .i64 0), (.i .i64 0), (.i .i64 0), (.i .i64 0), (.i .i64 0), (.i .i64 0), (.i .i64 0), (.i .i64 0), (.i .i64 2), (.i .i64 14), (.i .i64 1)]
def iy66 : List V := [(.i .i64 1), (.i .i64 0), (.i .i64 0), (.i .i64 0), (.i .i64 0), (.i .i64 0), (.i .i64 0), (.i .i64 0), (.i .i64 0), (.i .i64 0), (.i .i64 0), (.i .i64 0), (.i .i64 0), (.i .i64 0), (.i .i64 2), (.i .i64 15), (.i .i64 1)]
def iy67 : List V := [(.i .i64 1), (.i .i64 0), (.i .i64 0), (.i .i64 0), (.i .i64 0), (.i .i64 0), (.i .i64 0), (.i .i64 0), (.i .i64 0), (.i .i64 0), (.i .i64 0), (.i .i64 0), (.i .i64 0), (.i .i64 0), (.i .i64 2), (.i .i64 16), (.i .i64 1)]
def iy68 : List V := [(.i .i64 1), (.i .i64 0), (.i .i64 0), (.i .i64 0), (.i .i64 0), (.i .i64 0), (.i .i64 0), (.i .i64 0), (.i .i64 0), (.i .i64 0), (.i .i64 0), (.i .i64 0), (.i .i64 0), (.i .i64 0), (.i .i64 2), (.i .i64 17), (.i .i64 1)]
def iy69 : List V := [(.i .i64 1), (.i .i64 0), (.i .i64 0), (.i .i64 0), (.i .i64 0), (.i .i64 0), (.i .i64 0), (.i .i64 0), (.i .i64 0), (.i .i64 0), (.i .i64 0), (.i .i64 0), (.i .i64 0), (.i .i64 0), (.i .i64 2), (.i .i64 18), (.i .i64 1)]
def iy70 : List V := [(.i .i64 1), (.i .i64 0), (.i .i64 0), (.i .i64 0), (.i .i64 0), (.i .i64 0), (.i .i64 0), (.i .i64 0), (.i .i64 0), (.i .i64 0), (.i .i64 0), (.i .i64 0), (.i .i64 0), (.i .i64 0), (.i .i64 2), (.i .i64 19), (.i .i64 1)]
def iy71 : List V := [(.i .i64 1), (.i .i64 0), (.i .i64 0), (.i .i64 0), (.i .i64 0), (.i .i64 0), (.i .i64 0), (.i .i64 0), (.i .i64 0), (.i .i64 0), (.i .i64 0), (.i .i64 0), (.i .i64 0), (.i .i64 0), (.i .i64 2), (.i .i64 20), (.i .i64 1)]
def iy72 : List V := [(.i .i64 1), (.i .i64 0), (.i .i64 0), (.i .i64 0), (.i .i64 0), (.i .i64 0), (.i .i64 0), (.i .i64 0), (.i .i64 0), (.i .i64 0), (.i .i64 0), (.i .i64 0), (.i .i64 0), (.i .i64 0), (.i .i64 2), (.i .i64 21), (.i .i64 1)]
def iy73 : List V := [(.i .i64 1), (.i .i64 0), (.i .i64 0), (.i .i64 0), (.i .i64 0), (.i .i64 0), (.i .i64 0), (.i .i64 0), (.i .i64 0), (.i .i64 0), (.i .i64 0), (.i .i64 0), (.i .i64 0), (.i .i64 0), (.i .i64 2), (.i .i64 22), (.i .i64 1)]
def iy74 : List V := [(.i .i64 1), (.i .i64 0), (.i .i64 0), (.i .i64 0), (.i .i64 0), (.i .i64 0), (.i .i64 0), (.i .i64 0), (.i .i64 0), (.i .i64 0), (.i .i64 0), (.i .i64 0), (.i .i64 0), (.i .i64 0), (.i .i64 3), (.i .i64 0), (.i .i64 1)]
def iy75 : List V := [(.i .i64 1), (.i .i64 0), (.i .i64 0), (.i .i64 0), (.i .i64 0), (.i .i64 0), (.i .i64 0), (.i .i64 0), (.i .i64 0), (.i .i64 0), (.i .i64 0), (.i .i64 0), (.i .i64 0), (.i .i64 0), (.i .i64 3), (.i .i64 1), (.i .i64 1)]
def iy76 : List V := [(.i .i64 1), (.i .i64 0), (.i .i64 0), (.i .i64 0), (.i .i64 0), (.i .i64 0), (.i .i64 0), (.i .i64 0), (.i .i64 0), (.i .i64 0), (.i .i64 0), (.i .i64 0), (.i .i64 0), (.i .i64 0), (.i .i64 3), (.i .i64 2), (.i .i64 1)]
def iy77 : List V := [(.i .i64 1), (.i .i64 0), (.i .i64 0), (.i .i64 0), (.i .i64 0), (.i .i64 0), (.i .i64 0), (.i .i64 0), (.i .i64 0), (.i .i64 0), (.i .i64 0), (.i .i64 0), (.i .i64 0), (.i .i64 0), (.i .i64 3), (.i .i64 3), (.i .i64 1)]
def ihb43 : List (List V) := [iy43]
def iha43 : List V := [(.i .i64 23), (.sl .h 0 17 17)]
def ihv43 : V := (.b false)
def iho43 : List (Pos × List V) := []
theorem ihs43 : stat ihb43 iha43 ihv43 iho43 = true := by kernel_rfl
theorem ihr43 : runOk (un 2 F100h iha43 (mkS ihb43) fun v S => some (v, S)) ihv43 iho43 = true := by kernel_rfl
theorem ihm43 : FOK Tryz.prog 100 (memoF ihb43 iha43 ihv43 iho43) := memo_ok K100h ihs43 ihr43
def ihb44 : List (List V) := [iy44]
def iha44 : List V := [(.i .i64 23), (.sl .h 0 17 17)]
def ihv44 : V := (.b false)
def iho44 : List (Pos × List V) := []
theorem ihs44 : stat ihb44 iha44 ihv44 iho44 = true := by kernel_rfl
theorem ihr44 : runOk (un 2 F100h iha44 (mkS ihb44) fun v S => some (v, S)) ihv44 iho44 = true := by kernel_rfl
theorem ihm44 : FOK Tryz.prog 100 (memoF ihb44 iha44 ihv44 iho44) := memo_ok K100h ihs44 ihr44
def ihb45 : List (List V) := [iy45]
def iha45 : List V := [(.i .i64 23), (.sl .h 0 17 17)]
def ihv45 : V := (.b false)
def iho45 : List (Pos × List V) := []
theorem ihs45 : stat ihb45 iha45 ihv45 iho45 = true := by kernel_rfl
theorem ihr45 : runOk (un 2 F100h iha45 (mkS ihb45) fun v S => some (v, S)) ihv45 iho45 = true := by kernel_rfl
theorem ihm45 : FOK Tryz.prog 100 (memoF ihb45 iha45 ihv45 iho45) := memo_ok K100h ihs45 ihr45
def ihb46 : List (List V) := [iy46]
def iha46 : List V := [(.i .i64 23), (.sl .h 0 17 17)]
def ihv46 : V := (.b false)
def iho46 : List (Pos × List V) := []
theorem ihs46 : stat ihb46 iha46 ihv46 iho46 = true := by kernel_rfl
theorem ihr46 : runOk (un 2 F100h iha46 (mkS ihb46) fun v S => some (v, S)) ihv46 iho46 = true := by kernel_rfl
theorem ihm46 : FOK Tryz.prog 100 (memoF ihb46 iha46 ihv46 iho46) := memo_ok K100h ihs46 ihr46
def ihb47 : List (List V) := [iy47]
def iha47 : List V := [(.i .i64 23), (.sl .h 0 17 17)]
def ihv47 : V := (.b false)
def iho47 : List (Pos × List V) := []
theorem ihs47 : stat ihb47 iha47 ihv47 iho47 = true := by kernel_rfl
theorem ihr47 : runOk (un 2 F100h iha47 (mkS ihb47) fun v S => some (v, S)) ihv47 iho47 = true := by kernel_rfl
theorem ihm47 : FOK Tryz.prog 100 (memoF ihb47 iha47 ihv47 iho47) := memo_ok K100h ihs47 ihr47
def ihb48 : List (List V) := [iy48]
def iha48 : List V := [(.i .i64 23), (.sl .h 0 17 17)]
def ihv48 : V := (.b false)
def iho48 : List (Pos × List V) := []
theorem ihs48 : stat ihb48 iha48 ihv48 iho48 = true := by kernel_rfl
theorem ihr48 : runOk (un 2 F100h iha48 (mkS ihb48) fun v S => some (v, S)) ihv48 iho48 = true := by kernel_rfl
theorem ihm48 : FOK Tryz.prog 100 (memoF ihb48 iha48 ihv48 iho48) := memo_ok K100h ihs48 ihr48
def ihb49 : List (List V) := [iy49]
def iha49 : List V := [(.i .i64 23), (.sl .h 0 17 17)]
def ihv49 : V := (.b false)
def iho49 : List (Pos × List V) := []
theorem ihs49 : stat ihb49 iha49 ihv49 iho49 = true := by kernel_rfl
theorem ihr49 : runOk (un 2 F100h iha49 (mkS ihb49) fun v S => some (v, S)) ihv49 iho49 = true := by kernel_rfl
theorem ihm49 : FOK Tryz.prog 100 (memoF ihb49 iha49 ihv49 iho49) := memo_ok K100h ihs49 ihr49
def ihb50 : List (List V) := [iy50]
def iha50 : List V := [(.i .i64 23), (.sl .h 0 17 17)]
def ihv50 : V := (.b false)
def iho50 : List (Pos × List V) := []
theorem ihs50 : stat ihb50 iha50 ihv50 iho50 = true := by kernel_rfl
theorem ihr50 : runOk (un 2 F100h iha50 (mkS ihb50) fun v S => some (v, S)) ihv50 iho50 = true := by kernel_rfl
theorem ihm50 : FOK Tryz.prog 100 (memoF ihb50 iha50 ihv50 iho50) := memo_ok K100h ihs50 ihr50
def ihb51 : List (List V) := [iy51]
def iha51 : List V := [(.i .i64 23), (.sl .h 0 17 17)]
def ihv51 : V := (.b false)
def iho51 : List (Pos × List V) := []
theorem ihs51 : stat ihb51 iha51 ihv51 iho51 = true := by kernel_rfl
theorem ihr51 : runOk (un 2 F100h iha51 (mkS ihb51) fun v S => some (v, S)) ihv51 iho51 = true := by kernel_rfl
theorem ihm51 : FOK Tryz.prog 100 (memoF ihb51 iha51 ihv51 iho51) := memo_ok K100h ihs51 ihr51
def ihb52 : List (List V) := [iy52]
def iha52 : List V := [(.i .i64 23), (.sl .h 0 17 17)]
def ihv52 : V := (.b false)
def iho52 : List (Pos × List V) := []
theorem ihs52 : stat ihb52 iha52 ihv52 iho52 = true := by kernel_rfl
theorem ihr52 : runOk (un 2 F100h iha52 (mkS ihb52) fun v S => some (v, S)) ihv52 iho52 = true := by kernel_rfl
theorem ihm52 : FOK Tryz.prog 100 (memoF ihb52 iha52 ihv52 iho52) := memo_ok K100h ihs52 ihr52
def ihb53 : List (List V) := [iy53]
def iha53 : List V := [(.i .i64 23), (.sl .h 0 17 17)]
def ihv53 : V := (.b false)
def iho53 : List (Pos × List V) := []
theorem ihs53 : stat ihb53 iha53 ihv53 iho53 = true := by kernel_rfl
theorem ihr53 : runOk (un 2 F100h iha53 (mkS ihb53) fun v S => some (v, S)) ihv53 iho53 = true := by kernel_rfl
theorem ihm53 : FOK Tryz.prog 100 (memoF ihb53 iha53 ihv53 iho53) := memo_ok K100h ihs53 ihr53
def ihb54 : List (List V) := [iy54]
def iha54 : List V := [(.i .i64 23), (.sl .h 0 17 17)]
def ihv54 : V := (.b false)
def iho54 : List (Pos × List V) := []
theorem ihs54 : stat ihb54 iha54 ihv54 iho54 = true := by kernel_rfl
theorem ihr54 : runOk (un 2 F100h iha54 (mkS ihb54) fun v S => some (v, S)) ihv54 iho54 = true := by kernel_rfl
theorem ihm54 : FOK Tryz.prog 100 (memoF ihb54 iha54 ihv54 iho54) := memo_ok K100h ihs54 ihr54
def ihb55 : List (List V) := [iy55]
def iha55 : List V := [(.i .i64 23), (.sl .h 0 17 17)]
def ihv55 : V := (.b false)
def iho55 : List (Pos × List V) := []
theorem ihs55 : stat ihb55 iha55 ihv55 iho55 = true := by kernel_rfl
theorem ihr55 : runOk (un 2 F100h iha55 (mkS ihb55) fun v S => some (v, S)) ihv55 iho55 = true := by kernel_rfl
theorem ihm55 : FOK Tryz.prog 100 (memoF ihb55 iha55 ihv55 iho55) := memo_ok K100h ihs55 ihr55
def ihb56 : List (List V) := [iy56]
def iha56 : List V := [(.i .i64 23), (.sl .h 0 17 17)]
def ihv56 : V := (.b false)
def iho56 : List (Pos × List V) := []
theorem ihs56 : stat ihb56 iha56 ihv56 iho56 = true := by kernel_rfl
theorem ihr56 : runOk (un 2 F100h iha56 (mkS ihb56) fun v S => some (v, S)) ihv56 iho56 = true := by kernel_rfl
theorem ihm56 : FOK Tryz.prog 100 (memoF ihb56 iha56 ihv56 iho56) := memo_ok K100h ihs56 ihr56
def ihb57 : List (List V) := [iy57]
def iha57 : List V := [(.i .i64 23), (.sl .h 0 17 17)]
def ihv57 : V := (.b false)
def iho57 : List (Pos × List V) := []
theorem ihs57 : stat ihb57 iha57 ihv57 iho57 = true := by kernel_rfl
theorem ihr57 : runOk (un 2 F100h iha57 (mkS ihb57) fun v S => some (v, S)) ihv57 iho57 = true := by kernel_rfl
theorem ihm57 : FOK Tryz.prog 100 (memoF ihb57 iha57 ihv57 iho57) := memo_ok K100h ihs57 ihr57
def ihb58 : List (List V) := [iy58]
def iha58 : List V := [(.i .i64 23), (.sl .h 0 17 17)]
def ihv58 : V := (.b false)
def iho58 : List (Pos × List V) := []
theorem ihs58 : stat ihb58 iha58 ihv58 iho58 = true := by kernel_rfl
theorem ihr58 : runOk (un 2 F100h iha58 (mkS ihb58) fun v S => some (v, S)) ihv58 iho58 = true := by kernel_rfl
theorem ihm58 : FOK Tryz.prog 100 (memoF ihb58 iha58 ihv58 iho58) := memo_ok K100h ihs58 ihr58
def ihb59 : List (List V) := [iy59]
def iha59 : List V := [(.i .i64 23), (.sl .h 0 17 17)]
def ihv59 : V := (.b false)
def iho59 : List (Pos × List V) := []
theorem ihs59 : stat ihb59 iha59 ihv59 iho59 = true := by kernel_rfl
theorem ihr59 : runOk (un 2 F100h iha59 (mkS ihb59) fun v S => some (v, S)) ihv59 iho59 = true := by kernel_rfl
theorem ihm59 : FOK Tryz.prog 100 (memoF ihb59 iha59 ihv59 iho59) := memo_ok K100h ihs59 ihr59
def ihb60 : List (List V) := [iy60]
def iha60 : List V := [(.i .i64 23), (.sl .h 0 17 17)]
def ihv60 : V := (.b false)
def iho60 : List (Pos × List V) := []
theorem ihs60 : stat ihb60 iha60 ihv60 iho60 = true := by kernel_rfl
theorem ihr60 : runOk (un 2 F100h iha60 (mkS ihb60) fun v S => some (v, S)) ihv60 iho60 = true := by kernel_rfl
theorem ihm60 : FOK Tryz.prog 100 (memoF ihb60 iha60 ihv60 iho60) := memo_ok K100h ihs60 ihr60
def ihb61 : List (List V) := [iy61]
def iha61 : List V := [(.i .i64 23), (.sl .h 0 17 17)]
def ihv61 : V := (.b false)
def iho61 : List (Pos × List V) := []
theorem ihs61 : stat ihb61 iha61 ihv61 iho61 = true := by kernel_rfl
theorem ihr61 : runOk (un 2 F100h iha61 (mkS ihb61) fun v S => some (v, S)) ihv61 iho61 = true := by kernel_rfl
theorem ihm61 : FOK Tryz.prog 100 (memoF ihb61 iha61 ihv61 iho61) := memo_ok K100h ihs61 ihr61
def ihb62 : List (List V) := [iy62]
def iha62 : List V := [(.i .i64 23), (.sl .h 0 17 17)]
def ihv62 : V := (.b false)
def iho62 : List (Pos × List V) := []
theorem ihs62 : stat ihb62 iha62 ihv62 iho62 = true := by kernel_rfl
theorem ihr62 : runOk (un 2 F100h iha62 (mkS ihb62) fun v S => some (v, S)) ihv62 iho62 = true := by kernel_rfl
theorem ihm62 : FOK Tryz.prog 100 (memoF ihb62 iha62 ihv62 iho62) := memo_ok K100h ihs62 ihr62
def ihb63 : List (List V) := [iy63]
def iha63 : List V := [(.i .i64 23), (.sl .h 0 17 17)]
def ihv63 : V := (.b false)
def iho63 : List (Pos × List V) := []
theorem ihs63 : stat ihb63 iha63 ihv63 iho63 = true := by kernel_rfl
theorem ihr63 : runOk (un 2 F100h iha63 (mkS ihb63) fun v S => some (v, S)) ihv63 iho63 = true := by kernel_rfl
theorem ihm63 : FOK Tryz.prog 100 (memoF ihb63 iha63 ihv63 iho63) := memo_ok K100h ihs63 ihr63
def ihb64 : List (List V) := [iy64]
def iha64 : List V := [(.i .i64 23), (.sl .h 0 17 17)]
def ihv64 : V := (.b false)
def iho64 : List (Pos × List V) := []
theorem ihs64 : stat ihb64 iha64 ihv64 iho64 = true := by kernel_rfl
theorem ihr64 : runOk (un 2 F100h iha64 (mkS ihb64) fun v S => some (v, S)) ihv64 iho64 = true := by kernel_rfl
theorem ihm64 : FOK Tryz.prog 100 (memoF ihb64 iha64 ihv64 iho64) := memo_ok K100h ihs64 ihr64
def ihb65 : List (List V) := [iy65]
def iha65 : List V := [(.i .i64 23), (.sl .h 0 17 17)]
def ihv65 : V := (.b false)
def iho65 : List (Pos × List V) := []
theorem ihs65 : stat ihb65 iha65 ihv65 iho65 = true := by kernel_rfl
theorem ihr65 : runOk (un 2 F100h iha65 (mkS ihb65) fun v S => some (v, S)) ihv65 iho65 = true := by kernel_rfl
theorem ihm65 : FOK Tryz.prog 100 (memoF ihb65 iha65 ihv65 iho65) := memo_ok K100h ihs65 ihr65
def ihb66 : List (List V) := [iy66]
def iha66 : List V := [(.i .i64 23), (.sl .h 0 17 17)]
def ihv66 : V := (.b false)
def iho66 : List (Pos × List V) := []
theorem ihs66 : stat ihb66 iha66 ihv66 iho66 = true := by kernel_rfl
theorem ihr66 : runOk (un 2 F100h iha66 (mkS ihb66) fun v S => some (v, S)) ihv66 iho66 = true := by kernel_rfl
theorem ihm66 : FOK Tryz.prog 100 (memoF ihb66 iha66 ihv66 iho66) := memo_ok K100h ihs66 ihr66
def ihb67 : List (List V) := [iy67]
def iha67 : List V := [(.i .i64 23), (.sl .h 0 17 17)]
def ihv67 : V := (.b false)
def iho67 : List (Pos × List V) := []
theorem ihs67 : stat ihb67 iha67 ihv67 iho67 = true := by kernel_rfl
theorem ihr67 : runOk (un 2 F100h iha67 (mkS ihb67) fun v S => some (v, S)) ihv67 iho67 = true := by kernel_rfl
theorem ihm67 : FOK Tryz.prog 100 (memoF ihb67 iha67 ihv67 iho67) := memo_ok K100h ihs67 ihr67
def ihb68 : List (List V) := [iy68]
def iha68 : List V := [(.i .i64 23), (.sl .h 0 17 17)]
def ihv68 : V := (.b false)
def iho68 : List (Pos × List V) := []
theorem ihs68 : stat ihb68 iha68 ihv68 iho68 = true := by kernel_rfl
theorem ihr68 : runOk (un 2 F100h iha68 (mkS ihb68) fun v S => some (v, S)) ihv68 iho68 = true := by kernel_rfl
theorem ihm68 : FOK Tryz.prog 100 (memoF ihb68 iha68 ihv68 iho68) := memo_ok K100h ihs68 ihr68
def ihb69 : List (List V) := [iy69]
def iha69 : List V := [(.i .i64 23), (.sl .h 0 17 17)]
def ihv69 : V := (.b false)
def iho69 : List (Pos × List V) := []
theorem ihs69 : stat ihb69 iha69 ihv69 iho69 = true := by kernel_rfl
theorem ihr69 : runOk (un 2 F100h iha69 (mkS ihb69) fun v S => some (v, S)) ihv69 iho69 = true := by kernel_rfl
theorem ihm69 : FOK Tryz.prog 100 (memoF ihb69 iha69 ihv69 iho69) := memo_ok K100h ihs69 ihr69
def ihb70 : List (List V) := [iy70]
def iha70 : List V := [(.i .i64 23), (.sl .h 0 17 17)]
def ihv70 : V := (.b false)
def iho70 : List (Pos × List V) := []
theorem ihs70 : stat ihb70 iha70 ihv70 iho70 = true := by kernel_rfl
theorem ihr70 : runOk (un 2 F100h iha70 (mkS ihb70) fun v S => some (v, S)) ihv70 iho70 = true := by kernel_rfl
theorem ihm70 : FOK Tryz.prog 100 (memoF ihb70 iha70 ihv70 iho70) := memo_ok K100h ihs70 ihr70
def ihb71 : List (List V) := [iy71]
def iha71 : List V := [(.i .i64 23), (.sl .h 0 17 17)]
def ihv71 : V := (.b false)
def iho71 : List (Pos × List V) := []
theorem ihs71 : stat ihb71 iha71 ihv71 iho71 = true := by kernel_rfl
theorem ihr71 : runOk (un 2 F100h iha71 (mkS ihb71) fun v S => some (v, S)) ihv71 iho71 = true := by kernel_rfl
theorem ihm71 : FOK Tryz.prog 100 (memoF ihb71 iha71 ihv71 iho71) := memo_ok K100h ihs71 ihr71
def ihb72 : List (List V) := [iy72]
def iha72 : List V := [(.i .i64 23), (.sl .h 0 17 17)]
def ihv72 : V := (.b false)
def iho72 : List (Pos × List V) := []
theorem ihs72 : stat ihb72 iha72 ihv72 iho72 = true := by kernel_rfl
theorem ihr72 : runOk (un 2 F100h iha72 (mkS ihb72) fun v S => some (v, S)) ihv72 iho72 = true := by kernel_rfl
theorem ihm72 : FOK Tryz.prog 100 (memoF ihb72 iha72 ihv72 iho72) := memo_ok K100h ihs72 ihr72
def ihb73 : List (List V) := [iy73]
def iha73 : List V := [(.i .i64 23), (.sl .h 0 17 17)]
def ihv73 : V := (.b false)
def iho73 : List (Pos × List V) := []
theorem ihs73 : stat ihb73 iha73 ihv73 iho73 = true := by kernel_rfl
theorem ihr73 : runOk (un 2 F100h iha73 (mkS ihb73) fun v S => some (v, S)) ihv73 iho73 = true := by kernel_rfl
theorem ihm73 : FOK Tryz.prog 100 (memoF ihb73 iha73 ihv73 iho73) := memo_ok K100h ihs73 ihr73
def ihb74 : List (List V) := [iy74]
def iha74 : List V := [(.i .i64 23), (.sl .h 0 17 17)]
def ihv74 : V := (.b false)
def iho74 : List (Pos × List V) := []
theorem ihs74 : stat ihb74 iha74 ihv74 iho74 = true := by kernel_rfl
theorem ihr74 : runOk (un 2 F100h iha74 (mkS ihb74) fun v S => some (v, S)) ihv74 iho74 = true := by kernel_rfl
theorem ihm74 : FOK Tryz.prog 100 (memoF ihb74 iha74 ihv74 iho74) := memo_ok K100h ihs74 ihr74
def ihb75 : List (List V) := [iy75]
def iha75 : List V := [(.i .i64 23), (.sl .h 0 17 17)]
def ihv75 : V := (.b false)
def iho75 : List (Pos × List V) := []
theorem ihs75 : stat ihb75 iha75 ihv75 iho75 = true := by kernel_rfl
theorem ihr75 : runOk (un 2 F100h iha75 (mkS ihb75) fun v S => some (v, S)) ihv75 iho75 = true := by kernel_rfl
theorem ihm75 : FOK Tryz.prog 100 (memoF ihb75 iha75 ihv75 iho75) := memo_ok K100h ihs75 ihr75
def ihb76 : List (List V) := [iy76]
def iha76 : List V := [(.i .i64 23), (.sl .h 0 17 17)]
def ihv76 : V := (.b false)
def iho76 : List (Pos × List V) := []
theorem ihs76 : stat ihb76 iha76 ihv76 iho76 = true := by kernel_rfl
theorem ihr76 : runOk (un 2 F100h iha76 (mkS ihb76) fun v S => some (v, S)) ihv76 iho76 = true := by kernel_rfl
theorem ihm76 : FOK Tryz.prog 100 (memoF ihb76 iha76 ihv76 iho76) := memo_ok K100h ihs76 ihr76
def ihb77 : List (List V) := [iy77]
def iha77 : List V := [(.i .i64 23), (.sl .h 0 17 17)]
def ihv77 : V := (.b false)
def iho77 : List (Pos × List V) := []
theorem ihs77 : stat ihb77 iha77 ihv77 iho77 = true := by kernel_rfl
theorem ihr77 : runOk (un 2 F100h iha77 (mkS ihb77) fun v S => some (v, S)) ihv77 iho77 = true := by kernel_rfl
theorem ihm77 : FOK Tryz.prog 100 (memoF ihb77 iha77 ihv77 iho77) := memo_ok K100h ihs77 ihr77
end
end Go.AM
