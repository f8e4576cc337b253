/- Irreducible, by runs. -/
import Derived.Test.YtpendgpnikmohaaGreatMGB
set_option maxRecDepth 1000000
set_option linter.unusedVariables false
namespace Go.AM
open Go.Proofs
noncomputable section
def iy78 : List V := [(.i .i64 1), (.i .i64 0), (.i .i64 0), (.i .i64 0), (.i .i64 0), (.i .i64 0), (.i .i64 0), (.i .i64 0), (.i .i64 0), (.i .i64 0), (.i .i64 0), (.i .i64 0), (.i .i64 0), (.i .i64 0), (.i .i64 3), (.i .i64 4), (.i .i64 1)]
def iy79 : List V := [(.i .i64 1), (.i .i64 0), (.i .i64 0), (.i .i64 0), (.i .i64 0), (.i .i64 0), (.i .i64 0), (.i .i64 0), (.i .i64 0), (.i .i64 0), (.i .i64 0), (.i .i64 0), (.i .i64 0), (.i .i64 0), (.i .i64 3), (.i .i64 5), (.i .i64 1)]
def iy80 : List V := [(.i .i64 1), (.i .i64 0), (.i .i64 0), (.i .i64 0), (.i .i64 0), (.i .i64 0), (.i .i64 0), (.i .i64 0), (.i .i64 0), (.i .i64 0), (.i .i64 0), (.i .i64 0), (.i .i64 0), (.i .i64 0), (.i .i64 3), (.i .i64 6), (.i .i64 1)]
def iy81 : List V := [(.i .i64 1), (.i .i64 0), (.i .i64 0), (.i .i64 0), (.i .i64 0), (.i .i64 0), (.i .i64 0), (.i .i64 0), (.i .i64 0), (.i .i64 0), (.i .i64 0), (.i .i64 0), (.i .i64 0), (.i .i64 0), (.i .i64 3), (.i .i64 7), (.i .i64 1)]
def iy82 : List V := [(.i .i64 1), (.i .i64 0), (.i .i64 0), (.i .i64 0), (.i .i64 0), (.i .i64 0), (.i .i64 0), (.i .i64 0), (.i .i64 0), (.i .i64 0), (.i .i64 0), (.i .i64 0), (.i .i64 0), (.i .i64 0), (.i .i64 3), (.i .i64 8), (.i .i64 1)]
def iy83 : List V := [(.i .i64 1), (.i .i64 0), (.i .i64 0), (.i .i64 0), (.i .i64 0), (.i .i64 0), (.i .i64 0), (.i .i64 0), (.i .i64 0), (.i .i64 0), (.i .i64 0), (.i .i64 0), (.i .i64 0), (.i .i64 0), (.i .i64 3), (.i .i64 9), (.i .i64 1)]
def iy84 : List V := [(.i .i64 1), (.i .i64 0), (.i .i64 0), (.i .i64 0), (.i .i64 0), (.i .i64 0), (.i .i64 0), (.i .i64 0), (.i .i64 0), (.i .i64 0), (.i .i64 0), (.i .i64 0), (.i .i64 0), (.i .i64 0), (.i .i64 3), (.i .i64 10), (.i .i64 1)]
def iy85 : List V := [(.i .i64 1), (.i .i64 0), (.i .i64 0), (.i .i64 0), (.i .i64 0), (.i .i64 0), (.i .i64 0), (.i .i64 0), (.i .i64 0), (.i .i64 0), (.i .i64 0), (.i .i64 0), (.i .i64 0), (.i .i64 0), (.i .i64 3), (.i .i64 11), (.i .i64 1)]
def iy86 : List V := [(.i .i64 1), (.i .i64 0), (.i .i64 0), (.i .i64 0), (.i .i64 0), (.i .i64 0), (.i .i64 0), (.i .i64 0), (.i .i64 0), (.i .i64 0), (.i .i64 0), (.i .i64 0), (.i .i64 0), (.i .i64 0), (.i .i64 3), (.i .i64 12), (.i .i64 1)]
def iy87 : List V := [(.i .i64 1), (.i .i64 0), (.i .i64 0), (.i .i64 0), (.i .i64 0), (.i .i64 0), (.i .i64 0), (.i .i64 0), (.i .i64 0), (.i .i64 0), (.i .i64 0), (.i .i64 0), (.i .i64 0), (.i .i64 0), (.i .i64 3), (.i .i64 13), (.i .i64 1)]
def iy88 : List V := [(.i .i64 1), (.i .i64 0), (.i .i64 0), (.i .i64 0), (.i .i64 0), (.i .i64 0), (.i .i64 0), (.i .i64 0), (.i .i64 0), (.i .i64 0), (.i .i64 0), (.i .i64 0), (.i .i64 0), (.i .i64 0), (.i .i64 3), (.i .i64 14), (.i .i64 1)]
def iy89 : List V := [(.i .i64 1), (.i .i64 0), (.i .i64 0), (.i .i64 0), (.i .i64 0), (.i .i64 0), (.i .i64 0), (.i .i64 0), (.i .i64 0), (.i .i64 0), (.i .i64 0), (.i .i64 0), (.i .i64 0), (.i .i64 0), (.i .i64 3), (.i .i64 15), (.i .i64 1)]
def iy90 : List V := [(.i .i64 1), (.i .i64 0), (.i .i64 0), (.i .i64 0), (.i .i64 0), (.i .i64 0), (.i .i64 0), (.i .i64 0), (.i .i64 0), (.i .i64 0), (.i .i64 0), (.i .i64 0), (.i .i64 0), (.i .i64 0), (.i .i64 3), (.i .i64 16), (.i .i64 1)]
def iy91 : List V := [(.i .i64 1), (.i .i64 0), (.i .i64 0), (.i .i64 0), (.i .i64 0), (.i .i64 0), (.i .i64 0), (.i .i64 0), (.i .i64 0), (.i .i64 0), (.i .i64 0), (.i .i64 0), (.i .i64 0), (.i .i64 0), (.i .i64 3), (.i .i64 17), (.i .i64 1)]
def iy92 : List V := [(.i .i64 1), (.i .i64 0), (.i .i64 0), (.i .i64 0), (.i .i64 0), (.i .i64 0), (.i .i64 0), (.i .i64 0), (.i .i64 0), (.i .i64 0), (.i .i64 0), (.i .i64 0), (.i .i64 0), (.i .i64 0), (.i .i64 3), (.i .i64 18), (.i .i64 1)]
def iy93 : List V := [(.i .i64 1), (.i .i64 0), (.i .i64 0), (.i .i64 0), (.i .i64 0), (.i .i64 0), (.i .i64 0), (.i .i64 0), (.i .i64 0), (.i .i64 0), (.i .i64 0), (.i .i64 0), (.i .i64 0), (.i .i64 0), (.i .i64 3), (.i .i64 19), (.i .i64 1)]
def iy94 : List V := [(.i .i64 1), (.i .i64 0), (.i .i64 0), (.i .i64 0), (.i .i64 0), (.i .i64 0), (.i .i64 0), (.i .i64 0), (.i .i64 0), (.i .i64 0), (.i .i64 0), (.i .i64 0), (.i .i64 0), (.i .i64 0), (.i .i64 3), (.i .i64 20), (.i .i64 1)]
def iy95 : List V := [(.i .i64 1), (.i .i64 0), (.i .i64 0), (.i .i64 0), (.i .i64 0), (.i .i64 0), (.i .i64 0), (.i .i64 0), (.i .i64 0), (.i .i64 0), (.i .i64 0), (.i .i64 0), (.i .i64 0), (.i .i64 0), (.i .i64 3), (.i .i64 21), (.i .i64 1)]
def iy96 : List V := [(.i .i64 1), (.i .i64 0), (.i .i64 0), (.i .i64 0), (.i .i64 0), (.i .i64 0), (.i .i64 0), (.i .i64 0), (.i .i64 0), (.i .i64 0), (.i .i64 0), (.i .i64 0), (.i .i64 0), (.i .i64 0), (.i .i64 3), (.i .i64 22), (.i .i64 1)]
def iy97 : List V := [(.i .i64 1), (.i .i64 0), (.i .i64 0), (.i .i64 0), (.i .i64 0), (.i .i64 0), (.i .i64 0), (.i .i64 0), (.i .i64 0), (.i .i64 0), (.i .i64 0), (.i .i64 0), (.i .i64 0), (.i .i64 0), (.i .i64 4), (.i .i64 0), (.i .i64 1)]
def iy98 : List V := [(.i .i64 1), (.i .i64 0), (.i .i64 0), (.i .i64 0), (.i .i64 0), (.i .i64 0), (.i .i64 0), (.i .i64 0), (.i .i64 0), (.i .i64 0), (.i .i64 0), (.i .i64 0), (.i .i64 0), (.i .i64 0), (.i .i64 4), (.i .i64 1), (.i .i64 1)]
def ihb78 : List (List V) := [iy78]
def iha78 : List V := [(.i .i64 23), (.sl .h 0 17 17)]
def ihv78 : V := (.b false)
def iho78 : List (Pos × List V) := []
theorem ihs78 : stat ihb78 iha78 ihv78 iho78 = true := by kernel_rfl
theorem ihr78 : runOk (un 2 F100h iha78 (mkS ihb78) fun v S => some (v, S)) ihv78 iho78 = true := by kernel_rfl
theorem ihm78 : FOK Tryz.prog 100 (memoF ihb78 iha78 ihv78 iho78) := memo_ok K100h ihs78 ihr78
def ihb79 : List (List V) := [iy79]
def iha79 : List V := [(.i .i64 23), (.sl .h 0 17 17)]
def ihv79 : V := (.b false)
def iho79 : List (Pos × List V) := []
theorem ihs79 : stat ihb79 iha79 ihv79 iho79 = true := by kernel_rfl
theorem ihr79 : runOk (un 2 F100h iha79 (mkS ihb79) fun v S => some (v, S)) ihv79 iho79 = true := by kernel_rfl
theorem ihm79 : FOK Tryz.prog 100 (memoF ihb79 iha79 ihv79 iho79) := memo_ok K100h ihs79 ihr79
def ihb80 : List (List V) := [iy80]
def iha80 : List V := [(.i .i64 23), (.sl .h 0 17 17)]
def ihv80 : V := (.b false)
def iho80 : List (Pos × List V) := []
theorem ihs80 : stat ihb80 iha80 ihv80 iho80 = true := by kernel_rfl
theorem ihr80 : runOk (un 2 F100h iha80 (mkS ihb80) fun v S => some (v, S)) ihv80 iho80 = true := by kernel_rfl
theorem ihm80 : FOK Tryz.prog 100 (memoF ihb80 iha80 ihv80 iho80) := memo_ok K100h ihs80 ihr80
def ihb81 : List (List V) := [iy81]
def iha81 : List V := [(.i .i64 23), (.sl .h 0 17 17)]
def ihv81 : V := (.b false)
def iho81 : List (Pos × List V) := []
theorem ihs81 : stat ihb81 iha81 ihv81 iho81 = true := by kernel_rfl
theorem ihr81 : runOk (un 2 F100h iha81 (mkS ihb81) fun v S => some (v, S)) ihv81 iho81 = true := by kernel_rfl
theorem ihm81 : FOK Tryz.prog 100 (memoF ihb81 iha81 ihv81 iho81) := memo_ok K100h ihs81 ihr81
def ihb82 : List (List V) := [iy82]
def iha82 : List V := [(.i .i64 23), (.sl .h 0 17 17)]
def ihv82 : V := (.b false)
def iho82 : List (Pos × List V) := []
theorem ihs82 : stat ihb82 iha82 ihv82 iho82 = true := by kernel_rfl
theorem ihr82 : runOk (un 2 F100h iha82 (mkS ihb82) fun v S => some (v, S)) ihv82 iho82 = true := by kernel_rfl
theorem ihm82 : FOK Tryz.prog 100 (memoF ihb82 iha82 ihv82 iho82) := memo_ok K100h ihs82 ihr82
def ihb83 : List (List V) := [iy83]
def iha83 : List V := [(.i .i64 23), (.sl .h 0 17 17)]
def ihv83 : V := (.b false)
def iho83 : List (Pos × List V) := []
theorem ihs83 : stat ihb83 iha83 ihv83 iho83 = true := by kernel_rfl
theorem ihr83 : runOk (un 2 F100h iha83 (mkS ihb83) fun v S => some (v, S)) ihv83 iho83 = true := by kernel_rfl
theorem ihm83 : FOK Tryz.prog 100 (memoF ihb83 iha83 ihv83 iho83) := memo_ok K100h ihs83 ihr83
def ihb84 : List (List V) := [iy84]
def iha84 : List V := [(.i .i64 23), (.sl .h 0 17 17)]
def ihv84 : V := (.b false)
def iho84 : List (Pos × List V) := []
theorem ihs84 : stat ihb84 iha84 ihv84 iho84 = true := by kernel_rfl
theorem ihr84 : runOk (un 2 F100h iha84 (mkS ihb84) fun v S => some (v, S)) ihv84 iho84 = true := by kernel_rfl
theorem ihm84 : FOK Tryz.prog 100 (memoF ihb84 iha84 ihv84 iho84) := memo_ok K100h ihs84 ihr84
def ihb85 : List (List V) := [iy85]
def iha85 : List V := [(.i .i64 23), (.sl .h 0 17 17)]
def ihv85 : V := (.b false)
def iho85 : List (Pos × List V) := []
theorem ihs85 : stat ihb85 iha85 ihv85 iho85 = true := by kernel_rfl
theorem ihr85 : runOk (un 2 F100h iha85 (mkS ihb85) fun v S => some (v, S)) ihv85 iho85 = true := by kernel_rfl
theorem ihm85 : FOK Tryz.prog 100 (memoF ihb85 iha85 ihv85 iho85) := memo_ok K100h ihs85 ihr85
def ihb86 : List (List V) := [iy86]
def iha86 : List V := [(.i .i64 23), (.sl .h 0 17 17)]
def ihv86 : V := (.b false)
def iho86 : List (Pos × List V) := []
theorem ihs86 : stat ihb86 iha86 ihv86 iho86 = true := by kernel_rfl
theorem ihr86 : runOk (un 2 F100h iha86 (mkS ihb86) fun v S => some (v, S)) ihv86 iho86 = true := by kernel_rfl
theorem ihm86 : FOK Tryz.prog 100 (memoF ihb86 iha86 ihv86 iho86) := memo_ok K100h ihs86 ihr86
def ihb87 : List (List V) := [iy87]
def iha87 : List V := [(.i .i64 23), (.sl .h 0 17 17)]
def ihv87 : V := (.b false)
def iho87 : List (Pos × List V) := []
theorem ihs87 : stat ihb87 iha87 ihv87 iho87 = true := by kernel_rfl
theorem ihr87 : runOk (un 2 F100h iha87 (mkS ihb87) fun v S => some (v, S)) ihv87 iho87 = true := by kernel_rfl
theorem ihm87 : FOK Tryz.prog 100 (memoF ihb87 iha87 ihv87 iho87) := memo_ok K100h ihs87 ihr87
def ihb88 : List (List V) := [iy88]
def iha88 : List V := [(.i .i64 23), (.sl .h 0 17 17)]
def ihv88 : V := (.b false)
def iho88 : List (Pos × List V) := []
theorem ihs88 : stat ihb88 iha88 ihv88 iho88 = true := by kernel_rfl
theorem ihr88 : runOk (un 2 F100h iha88 (mkS ihb88) fun v S => some (v, S)) ihv88 iho88 = true := by kernel_rfl
theorem ihm88 : FOK Tryz.prog 100 (memoF ihb88 iha88 ihv88 iho88) := memo_ok K100h ihs88 ihr88
def ihb89 : List (List V) := [iy89]
def iha89 : List V := [(.i .i64 23), (.sl .h 0 17 17)]
def ihv89 : V := (.b false)
def iho89 : List (Pos × List V) := []
theorem ihs89 : stat ihb89 iha89 ihv89 iho89 = true := by kernel_rfl
theorem ihr89 : runOk (un 2 F100h iha89 (mkS ihb89) fun v S => some (v, S)) ihv89 iho89 = true := by kernel_rfl
theorem ihm89 : FOK Tryz.prog 100 (memoF ihb89 iha89 ihv89 iho89) := memo_ok K100h ihs89 ihr89
def ihb90 : List (List V) := [iy90]
def iha90 : List V := [(.i .i64 23), (.sl .h 0 17 17)]
def ihv90 : V := (.b false)
def iho90 : List (Pos × List V) := []
theorem ihs90 : stat ihb90 iha90 ihv90 iho90 = true := by kernel_rfl
theorem ihr90 : runOk (un 2 F100h iha90 (mkS ihb90) fun v S => some (v, S)) ihv90 iho90 = true := by kernel_rfl
theorem ihm90 : FOK Tryz.prog 100 (memoF ihb90 iha90 ihv90 iho90) := memo_ok K100h ihs90 ihr90
def ihb91 : List (List V) := [iy91]
def iha91 : List V := [(.i .i64 23), (.sl .h 0 17 17)]
def ihv91 : V := (.b false)
def iho91 : List (Pos × List V) := []
theorem ihs91 : stat ihb91 iha91 ihv91 iho91 = true := by kernel_rfl
theorem ihr91 : runOk (un 2 F100h iha91 (mkS ihb91) fun v S => some (v, S)) ihv91 iho91 = true := by kernel_rfl
theorem ihm91 : FOK Tryz.prog 100 (memoF ihb91 iha91 ihv91 iho91) := memo_ok K100h ihs91 ihr91
def ihb92 : List (List V) := [iy92]
def iha92 : List V := [(.i .i64 23), (.sl .h 0 17 17)]
def ihv92 : V := (.b false)
def iho92 : List (Pos × List V) := []
theorem ihs92 : stat ihb92 iha92 ihv92 iho92 = true := by kernel_rfl
theorem ihr92 : runOk (un 2 F100h iha92 (mkS ihb92) fun v S => some (v, S)) ihv92 iho92 = true := by kernel_rfl
theorem ihm92 : FOK Tryz.prog 100 (memoF ihb92 iha92 ihv92 iho92) := memo_ok K100h ihs92 ihr92
def ihb93 : List (List V) := [iy93]
def iha93 : List V := [(.i .i64 23), (.sl .h 0 17 17)]
def ihv93 : V := (.b false)
def iho93 : List (Pos × List V) := []
theorem ihs93 : stat ihb93 iha93 ihv93 iho93 = true := by kernel_rfl
theorem ihr93 : runOk (un 2 F100h iha93 (mkS ihb93) fun v S => some (v, S)) ihv93 iho93 = true := by kernel_rfl
theorem ihm93 : FOK Tryz.prog 100 (memoF ihb93 iha93 ihv93 iho93) := memo_ok K100h ihs93 ihr93
def ihb94 : List (List V) := [iy94]
def iha94 : List V := [(.i .i64 23), (.sl .h 0 17 17)]
def ihv94 : V := (.b false)
def iho94 : List (Pos × List V) := []
theorem ihs94 : stat ihb94 iha94 ihv94 iho94 = true := by kernel_rfl
theorem ihr94 : runOk (un 2 F100h iha94 (mkS ihb94) fun v S => some (v, S)) ihv94 iho94 = true := by kernel_rfl
theorem ihm94 : FOK Tryz.prog 100 (memoF ihb94 iha94 ihv94 iho94) := memo_ok K100h ihs94 ihr94
def ihb95 : List (List V) := [iy95]
def iha95 : List V := [(.i .i64 23), (.sl .h 0 17 17)]
def ihv95 : V := (.b false)
def iho95 : List (Pos × List V) := []
theorem ihs95 : stat ihb95 iha95 ihv95 iho95 = true := by kernel_rfl
theorem ihr95 : runOk (un 2 F100h iha95 (mkS ihb95) fun v S => some (v, S)) ihv95 iho95 = true := by kernel_rfl
theorem ihm95 : FOK Tryz.prog 100 (memoF ihb95 iha95 ihv95 iho95) := memo_ok K100h ihs95 ihr95
def ihb96 : List (List V) := [iy96]
def iha96 : List V := [(.i .i64 23), (.sl .h 0 17 17)]
def ihv96 : V := (.b false)
def iho96 : List (Pos × List V) := []
theorem ihs96 : stat ihb96 iha96 ihv96 iho96 = true := by kernel_rfl
theorem ihr96 : runOk (un 2 F100h iha96 (mkS ihb96) fun v S => some (v, S)) ihv96 iho96 = true := by kernel_rfl
theorem ihm96 : FOK Tryz.prog 100 (memoF ihb96 iha96 ihv96 iho96) := memo_ok K100h ihs96 ihr96
def ihb97 : List (List V) := [iy97]
def iha97 : List V := [(.i .i64 23), (.sl .h 0 17 17)]
def ihv97 : V := (.b false)
def iho97 : List (Pos × List V) := []
theorem ihs97 : stat ihb97 iha97 ihv97 iho97 = true := by kernel_rfl
theorem ihr97 : runOk (un 2 F100h iha97 (mkS ihb97) fun v S => some (v, S)) ihv97 iho97 = true := by kernel_rfl
theorem ihm97 : FOK Tryz.prog 100 (memoF ihb97 iha97 ihv97 iho97) := memo_ok K100h ihs97 ihr97
def ihb98 : List (List V) := [iy98]
def iha98 : List V := [(.i .i64 23), (.sl .h 0 17 17)]
def ihv98 : V := (.b true)
def iho98 : List (Pos × List V) := []
theorem ihs98 : stat ihb98 iha98 ihv98 iho98 = true := by kernel_rfl
theorem ihr98 : runOk (un 2 F100h iha98 (mkS ihb98) fun v S => some (v, S)) ihv98 iho98 = true := by kernel_rfl
theorem ihm98 : FOK Tryz.prog 100 (memoF ihb98 iha98 ihv98 iho98) := memo_ok K100h ihs98 ihr98
end
end Go.AM
