/- Irreducible, by runs. -/
import Derived.Test.YtpendgpnikmohaaGreatMGB
set_option maxRecDepth 1000000
set_option linter.unusedVariables false
namespace Go.AM
open Go.Proofs
noncomputable section
def iy0 : List V := [(.i .i64 1), (.i .i64 0), (.i .i64 0), (.i .i64 0), (.i .i64 1)]
def iy1 : List V := [(.i .i64 1), (.i .i64 0), (.i .i64 0), (.i .i64 1), (.i .i64 1)]
def iy2 : List V := [(.i .i64 1), (.i .i64 0), (.i .i64 0), (.i .i64 2), (.i .i64 1)]
def iy3 : List V := [(.i .i64 1), (.i .i64 0), (.i .i64 1), (.i .i64 0), (.i .i64 1)]
def iy4 : List V := [(.i .i64 1), (.i .i64 0), (.i .i64 1), (.i .i64 1), (.i .i64 1)]
def iy5 : List V := [(.i .i64 1), (.i .i64 0), (.i .i64 0), (.i .i64 0), (.i .i64 0), (.i .i64 0), (.i .i64 0), (.i .i64 0), (.i .i64 0), (.i .i64 0), (.i .i64 0), (.i .i64 0), (.i .i64 0), (.i .i64 0), (.i .i64 0), (.i .i64 0), (.i .i64 1)]
def iy6 : List V := [(.i .i64 1), (.i .i64 0), (.i .i64 0), (.i .i64 0), (.i .i64 0), (.i .i64 0), (.i .i64 0), (.i .i64 0), (.i .i64 0), (.i .i64 0), (.i .i64 0), (.i .i64 0), (.i .i64 0), (.i .i64 0), (.i .i64 0), (.i .i64 1), (.i .i64 1)]
def iy7 : List V := [(.i .i64 1), (.i .i64 0), (.i .i64 0), (.i .i64 0), (.i .i64 0), (.i .i64 0), (.i .i64 0), (.i .i64 0), (.i .i64 0), (.i .i64 0), (.i .i64 0), (.i .i64 0), (.i .i64 0), (.i .i64 0), (.i .i64 0), (.i .i64 2), (.i .i64 1)]
def iy8 : List V := [(.i .i64 1), (.i .i64 0), (.i .i64 0), (.i .i64 0), (.i .i64 0), (.i .i64 0), (.i .i64 0), (.i .i64 0), (.i .i64 0), (.i .i64 0), (.i .i64 0), (.i .i64 0), (.i .i64 0), (.i .i64 0), (.i .i64 0), (.i .i64 3), (.i .i64 1)]
def iy9 : List V := [(.i .i64 1), (.i .i64 0), (.i .i64 0), (.i .i64 0), (.i .i64 0), (.i .i64 0), (.i .i64 0), (.i .i64 0), (.i .i64 0), (.i .i64 0), (.i .i64 0), (.i .i64 0), (.i .i64 0), (.i .i64 0), (.i .i64 0), (.i .i64 4), (.i .i64 1)]
def iy10 : List V := [(.i .i64 1), (.i .i64 0), (.i .i64 0), (.i .i64 0), (.i .i64 0), (.i .i64 0), (.i .i64 0), (.i .i64 0), (.i .i64 0), (.i .i64 0), (.i .i64 0), (.i .i64 0), (.i .i64 0), (.i .i64 0), (.i .i64 0), (.i .i64 5), (.i .i64 1)]
def iy11 : List V := [(.i .i64 1), (.i .i64 0), (.i .i64 0), (.i .i64 0), (.i .i64 0), (.i .i64 0), (.i .i64 0), (.i .i64 0), (.i .i64 0), (.i .i64 0), (.i .i64 0), (.i .i64 0), (.i .i64 0), (.i .i64 0), (.i .i64 0), (.i .i64 6), (.i .i64 1)]
def iy12 : List V := [(.i .i64 1), (.i .i64 0), (.i .i64 0), (.i .i64 0), (.i .i64 0), (.i .i64 0), (.i .i64 0), (.i .i64 0), (.i .i64 0), (.i .i64 0), (.i .i64 0), (.i .i64 0), (.i .i64 0), (.i .i64 0), (.i .i64 0), (.i .i64 7), (.i .i64 1)]
def iy13 : List V := [(.i .i64 1), (.i .i64 0), (.i .i64 0), (.i .i64 0), (.i .i64 0), (.i .i64 0), (.i .i64 0), (.i .i64 0), (.i .i64 0), (.i .i64 0), (.i .i64 0), (.i .i64 0), (.i .i64 0), (.i .i64 0), (.i .i64 0), (.i .i64 8), (.i .i64 1)]
def iy14 : List V := [(.i .i64 1), (.i .i64 0), (.i .i64 0), (.i .i64 0), (.i .i64 0), (.i .i64 0), (.i .i64 0), (.i .i64 0), (.i .i64 0), (.i .i64 0), (.i .i64 0), (.i .i64 0), (.i .i64 0), (.i .i64 0), (.i .i64 0), (.i .i64 9), (.i .i64 1)]
def iy15 : List V := [(.i .i64 1), (.i .i64 0), (.i .i64 0), (.i .i64 0), (.i .i64 0), (.i .i64 0), (.i .i64 0), (.i .i64 0), (.i .i64 0), (.i .i64 0), (.i .i64 0), (.i .i64 0), (.i .i64 0), (.i .i64 0), (.i .i64 0), (.i .i64 10), (.i .i64 1)]
def iy16 : List V := [(.i .i64 1), (.i .i64 0), (.i .i64 0), (.i .i64 0), (.i .i64 0), (.i .i64 0), (.i .i64 0), (.i .i64 0), (.i .i64 0), (.i .i64 0), (.i .i64 0), (.i .i64 0), (.i .i64 0), (.i .i64 0), (.i .i64 0), (.i .i64 11), (.i .i64 1)]
def iy17 : List V := [(.i .i64 1), (.i .i64 0), (.i .i64 0), (.i .i64 0), (.i .i64 0), (.i .i64 0), (.i .i64 0), (.i .i64 0), (.i .i64 0), (.i .i64 0), (.i .i64 0), (.i .i64 0), (.i .i64 0), (.i .i64 0), (.i .i64 0), (.i .i64 12), (.i .i64 1)]
def iy18 : List V := [(.i .i64 1), (.i .i64 0), (.i .i64 0), (.i .i64 0), (.i .i64 0), (.i .i64 0), (.i .i64 0), (.i .i64 0), (.i .i64 0), (.i .i64 0), (.i .i64 0), (.i .i64 0), (.i .i64 0), (.i .i64 0), (.i .i64 0), (.i .i64 13), (.i .i64 1)]
def iy19 : List V := [(.i .i64 1), (.i .i64 0), (.i .i64 0), (.i .i64 0), (.i .i64 0), (.i .i64 0), (.i .i64 0), (.i .i64 0), (.i .i64 0), (.i .i64 0), (.i .i64 0), (.i .i64 0), (.i .i64 0), (.i .i64 0), (.i .i64 0), (.i .i64 14), (.i .i64 1)]
def iy20 : List V := [(.i .i64 1), (.i .i64 0), (.i .i64 0), (.i .i64 0), (.i .i64 0), (.i .i64 0), (.i .i64 0), (.i .i64 0), (.i .i64 0), (.i .i64 0), (.i .i64 0), (.i .i64 0), (.i .i64 0), (.i .i64 0), (.i .i64 0), (.i .i64 15), (.i .i64 1)]
def iy21 : List V := [(.i .i64 1), (.i .i64 0), (.i .i64 0), (.i .i64 0), (.i .i64 0), (.i .i64 0), (.i .i64 0), (.i .i64 0), (.i .i64 0), (.i .i64 0), (.i .i64 0), (.i .i64 0), (.i .i64 0), (.i .i64 0), (.i .i64 0), (.i .i64 16), (.i .i64 1)]
def iy22 : List V := [(.i .i64 1), (.i .i64 0), (.i .i64 0), (.i .i64 0), (.i .i64 0), (.i .i64 0), (.i .i64 0), (.i .i64 0), (.i .i64 0), (.i .i64 0), (.i .i64 0), (.i .i64 0), (.i .i64 0), (.i .i64 0), (.i .i64 0), (.i .i64 17), (.i .i64 1)]
def iy23 : List V := [(.i .i64 1), (.i .i64 0), (.i .i64 0), (.i .i64 0), (.i .i64 0), (.i .i64 0), (.i .i64 0), (.i .i64 0), (.i .i64 0), (.i .i64 0), (.i .i64 0), (.i .i64 0), (.i .i64 0), (.i .i64 0), (.i .i64 0), (.i .i64 18), (.i .i64 1)]
def iy24 : List V := [(.i .i64 1), (.i .i64 0), (.i .i64 0), (.i .i64 0), (.i .i64 0), (.i .i64 0), (.i .i64 0), (.i .i64 0), (.i .i64 0), (.i .i64 0), (.i .i64 0), (.i .i64 0), (.i .i64 0), (.i .i64 0), (.i .i64 0), (.i .i64 19), (.i .i64 1)]
def iy25 : List V := [(.i .i64 1), (.i .i64 0), (.i .i64 0), (.i .i64 0), (.i .i64 0), (.i .i64 0), (.i .i64 0), (.i .i64 0), (.i .i64 0), (.i .i64 0), (.i .i64 0), (.i .i64 0), (.i .i64 0), (.i .i64 0), (.i .i64 0), (.i .i64 20), (.i .i64 1)]
def iy26 : List V := [(.i .i64 1), (.i .i64 0), (.i .i64 0), (.i .i64 0), (.i .i64 0), (.i .i64 0), (.i .i64 0), (.i .i64 0), (.i .i64 0), (.i .i64 0), (.i .i64 0), (.i .i64 0), (.i .i64 0), (.i .i64 0), (.i .i64 0), (.i .i64 21), (.i .i64 1)]
def iy27 : List V := [(.i .i64 1), (.i .i64 0), (.i .i64 0), (.i .i64 0), (.i .i64 0), (.i .i64 0), (.i .i64 0), (.i .i64 0), (.i .i64 0), (.i .i64 0), (.i .i64 0), (.i .i64 0), (.i .i64 0), (.i .i64 0), (.i .i64 0), (.i .i64 22), (.i .i64 1)]
def iy28 : List V := [(.i .i64 1), (.i .i64 0), (.i .i64 0), (.i .i64 0), (.i .i64 0), (.i .i64 0), (.i .i64 0), (.i .i64 0), (.i .i64 0), (.i .i64 0), (.i .i64 0), (.i .i64 0), (.i .i64 0), (.i .i64 0), (.i .i64 1), (.i .i64 0), (.i .i64 1)]
def iy29 : List V := [(.i .i64 1), (.i .i64 0), (.i .i64 0), (.i .i64 0), (.i .i64 0), (.i .i64 0), (.i .i64 0), (.i .i64 0), (.i .i64 0), (.i .i64 0), (.i .i64 0), (.i .i64 0), (.i .i64 0), (.i .i64 0), (.i .i64 1), (.i .i64 1), (.i .i64 1)]
def iy30 : List V := [(.i .i64 1), (.i .i64 0), (.i .i64 0), (.i .i64 0), (.i .i64 0), (.i .i64 0), (.i .i64 0), (.i .i64 0), (.i .i64 0), (.i .i64 0), (.i .i64 0), (.i .i64 0), (.i .i64 0), (.i .i64 0), (.i .i64 1), (.i .i64 2), (.i .i64 1)]
def iy31 : List V := [(.i .i64 1), (.i .i64 0), (.i .i64 0), (.i .i64 0), (.i .i64 0), (.i .i64 0), (.i .i64 0), (.i .i64 0), (.i .i64 0), (.i .i64 0), (.i .i64 0), (.i .i64 0), (.i .i64 0), (.i .i64 0), (.i .i64 1), (.i .i64 3), (.i .i64 1)]
def iy32 : List V := [(.i .i64 1), (.i .i64 0), (.i .i64 0), (.i .i64 0), (.i .i64 0), (.i .i64 0), (.i .i64 0), (.i .i64 0), (.i .i64 0), (.i .i64 0), (.i .i64 0), (.i .i64 0), (.i .i64 0), (.i .i64 0), (.i .i64 1), (.i .i64 4), (.i .i64 1)]
def iy33 : List V := [(.i .i64 1), (.i .i64 0), (.i .i64 0), (.i .i64 0), (.i .i64 0), (.i .i64 0), (.i .i64 0), (.i .i64 0), (.i .i64 0), (.i .i64 0), (.i .i64 0), (.i .i64 0), (.i .i64 0), (.i .i64 0), (.i .i64 1), (.i .i64 5), (.i .i64 1)]
def iy34 : List V := [(.i .i64 1), (.i .i64 0), (.i .i64 0), (.i .i64 0), (.i .i64 0), (.i .i64 0), (.i .i64 0), (.i .i64 0), (.i .i64 0), (.i .i64 0), (.i .i64 0), (.i .i64 0), (.i .i64 0), (.i .i64 0), (.i .i64 1), (.i .i64 6), (.i .i64 1)]
def iy35 : List V := [(.i .i64 1), (.i .i64 0), (.i .i64 0), (.i .i64 0), (.i .i64 0), (.i .i64 0), (.i .i64 0), (.i .i64 0), (.i .i64 0), (.i .i64 0), (.i .i64 0), (.i .i64 0), (.i .i64 0), (.i .i64 0), (.i .i64 1), (.i .i64 7), (.i .i64 1)]
def iy36 : List V := [(.i .i64 1), (.i .i64 0), (.i .i64 0), (.i .i64 0), (.i .i64 0), (.i .i64 0), (.i .i64 0), (.i .i64 0), (.i .i64 0), (.i .i64 0), (.i .i64 0), (.i .i64 0), (.i .i64 0), (.i .i64 0), (.i .i64 1), (.i .i64 8), (.i .i64 1)]
def iy37 : List V := [(.i .i64 1), (.i .i64 0), (.i .i64 0), (.i .i64 0), (.i .i64 0), (.i .i64 0), (.i .i64 0), (.i .i64 0), (.i .i64 0), (.i .i64 0), (.i .i64 0), (.i .i64 0), (.i .i64 0), (.i .i64 0), (.i .i64 1), (.i .i64 9), (.i .i64 1)]
def iy38 : List V := [(.i .i64 1), (.i .i64 0), (.i .i64 0), (.i .i64 0), (.i .i64 0), (.i .i64 0), (.i .i64 0), (.i .i64 0), (.i .i64 0), (.i .i64 0), (.i .i64 0), (.i .i64 0), (.i .i64 0), (.i .i64 0), (.i .i64 1), (.i .i64 10), (.i .i64 1)]
def iy39 : List V := [(.i .i64 1), (.i .i64 0), (.i .i64 0), (.i .i64 0), (.i .i64 0), (.i .i64 0), (.i .i64 0), (.i .i64 0), (.i .i64 0), (.i .i64 0), (.i .i64 0), (.i .i64 0), (.i .i64 0), (.i .i64 0), (.i .i64 1), (.i .i64 11), (.i .i64 1)]
def iy40 : List V := [(.i .i64 1), (.i .i64 0), (.i .i64 0), (.i .i64 0), (.i .i64 0), (.i .i64 0), (.i .i64 0), (.i .i64 0), (.i .i64 0), (.i .i64 0), (.i .i64 0), (.i .i64 0), (.i .i64 0), (.i .i64 0), (.i .i64 1), (.i .i64 12), (.i .i64 1)]
def iy41 : List V := [(.i .i64 1), (.i .i64 0), (.i .i64 0), (.i .i64 0), (.i .i64 0), (.i .i64 0), (.i .i64 0), (.i .i64 0), (.i .i64 0), (.i .i64 0), (.i .i64 0), (.i .i64 0), (.i .i64 0), (.i .i64 0), (.i .i64 1), (.i .i64 13), (.i .i64 1)]
def iy42 : List V := [(.i .i64 1), (.i .i64 0), (.i .i64 0), (.i .i64 0), (.i .i64 0), (.i .i64 0), (.i .i64 0), (.i .i64 0), (.i .i64 0), (.i .i64 0), (.i .i64 0), (.i .i64 0), (.i .i64 0), (.i .i64 0), (.i .i64 1), (.i .i64 14), (.i .i64 1)]
def ihb0 : List (List V) := [iy0]
def iha0 : List V := [(.i .i64 3), (.sl .h 0 5 5)]
def ihv0 : V := (.b false)
def iho0 : List (Pos × List V) := []
theorem ihs0 : stat ihb0 iha0 ihv0 iho0 = true := by kernel_rfl
theorem ihr0 : runOk (un 2 F100h iha0 (mkS ihb0) fun v S => some (v, S)) ihv0 iho0 = true := by kernel_rfl
theorem ihm0 : FOK Tryz.prog 100 (memoF ihb0 iha0 ihv0 iho0) := memo_ok K100h ihs0 ihr0
def ihb1 : List (List V) := [iy1]
def iha1 : List V := [(.i .i64 3), (.sl .h 0 5 5)]
def ihv1 : V := (.b false)
def iho1 : List (Pos × List V) := []
theorem ihs1 : stat ihb1 iha1 ihv1 iho1 = true := by kernel_rfl
theorem ihr1 : runOk (un 2 F100h iha1 (mkS ihb1) fun v S => some (v, S)) ihv1 iho1 = true := by kernel_rfl
theorem ihm1 : FOK Tryz.prog 100 (memoF ihb1 iha1 ihv1 iho1) := memo_ok K100h ihs1 ihr1
def ihb2 : List (List V) := [iy2]
def iha2 : List V := [(.i .i64 3), (.sl .h 0 5 5)]
def ihv2 : V := (.b false)
def iho2 : List (Pos × List V) := []
theorem ihs2 : stat ihb2 iha2 ihv2 iho2 = true := by kernel_rfl
theorem ihr2 : runOk (un 2 F100h iha2 (mkS ihb2) fun v S => some (v, S)) ihv2 iho2 = true := by kernel_rfl
theorem ihm2 : FOK Tryz.prog 100 (memoF ihb2 iha2 ihv2 iho2) := memo_ok K100h ihs2 ihr2
def ihb3 : List (List V) := [iy3]
def iha3 : List V := [(.i .i64 3), (.sl .h 0 5 5)]
def ihv3 : V := (.b false)
def iho3 : List (Pos × List V) := []
theorem ihs3 : stat ihb3 iha3 ihv3 iho3 = true := by kernel_rfl
theorem ihr3 : runOk (un 2 F100h iha3 (mkS ihb3) fun v S => some (v, S)) ihv3 iho3 = true := by kernel_rfl
theorem ihm3 : FOK Tryz.prog 100 (memoF ihb3 iha3 ihv3 iho3) := memo_ok K100h ihs3 ihr3
def ihb4 : List (List V) := [iy4]
def iha4 : List V := [(.i .i64 3), (.sl .h 0 5 5)]
def ihv4 : V := (.b true)
def iho4 : List (Pos × List V) := []
theorem ihs4 : stat ihb4 iha4 ihv4 iho4 = true := by kernel_rfl
theorem ihr4 : runOk (un 2 F100h iha4 (mkS ihb4) fun v S => some (v, S)) ihv4 iho4 = true := by kernel_rfl
theorem ihm4 : FOK Tryz.prog 100 (memoF ihb4 iha4 ihv4 iho4) := memo_ok K100h ihs4 ihr4
def ihb5 : List (List V) := [iy5]
def iha5 : List V := [(.i .i64 23), (.sl .h 0 17 17)]
def ihv5 : V := (.b false)
def iho5 : List (Pos × List V) := []
theorem ihs5 : stat ihb5 iha5 ihv5 iho5 = true := by kernel_rfl
theorem ihr5 : runOk (un 2 F100h iha5 (mkS ihb5) fun v S => some (v, S)) ihv5 iho5 = true := by kernel_rfl
theorem ihm5 : FOK Tryz.prog 100 (memoF ihb5 iha5 ihv5 iho5) := memo_ok K100h ihs5 ihr5
def ihb6 : List (List V) := [iy6]
def iha6 : List V := [(.i .i64 23), (.sl .h 0 17 17)]
def ihv6 : V := (.b false)
def iho6 : List (Pos × List V) := []
theorem ihs6 : stat ihb6 iha6 ihv6 iho6 = true := by kernel_rfl
theorem ihr6 : runOk (un 2 F100h iha6 (mkS ihb6) fun v S => some (v, S)) ihv6 iho6 = true := by kernel_rfl
theorem ihm6 : FOK Tryz.prog 100 (memoF ihb6 iha6 ihv6 iho6) := memo_ok K100h ihs6 ihr6
def ihb7 : List (List V) := [iy7]
def iha7 : List V := [(.i .i64 23), (.sl .h 0 17 17)]
def ihv7 : V := (.b false)
def iho7 : List (Pos × List V) := []
theorem ihs7 : stat ihb7 iha7 ihv7 iho7 = true := by kernel_rfl
theorem ihr7 : runOk (un 2 F100h iha7 (mkS ihb7) fun v S => some (v, S)) ihv7 iho7 = true := by kernel_rfl
theorem ihm7 : FOK Tryz.prog 100 (memoF ihb7 iha7 ihv7 iho7) := memo_ok K100h ihs7 ihr7
def ihb8 : List (List V) := [iy8]
def iha8 : List V := [(.i .i64 23), (.sl .h 0 17 17)]
def ihv8 : V := (.b false)
def iho8 : List (Pos × List V) := []
theorem ihs8 : stat ihb8 iha8 ihv8 iho8 = true := by kernel_rfl
theorem ihr8 : runOk (un 2 F100h iha8 (mkS ihb8) fun v S => some (v, S)) ihv8 iho8 = true := by kernel_rfl
theorem ihm8 : FOK Tryz.prog 100 (memoF ihb8 iha8 ihv8 iho8) := memo_ok K100h ihs8 ihr8
def ihb9 : List (List V) := [iy9]
def iha9 : List V := [(.i .i64 23), (.sl .h 0 17 17)]
def ihv9 : V := (.b false)
def iho9 : List (Pos × List V) := []
theorem ihs9 : stat ihb9 iha9 ihv9 iho9 = true := by kernel_rfl
theorem ihr9 : runOk (un 2 F100h iha9 (mkS ihb9) fun v S => some (v, S)) ihv9 iho9 = true := by kernel_rfl
theorem ihm9 : FOK Tryz.prog 100 (memoF ihb9 iha9 ihv9 iho9) := memo_ok K100h ihs9 ihr9
def ihb10 : List (List V) := [iy10]
def iha10 : List V := [(.i .i64 23), (.sl .h 0 17 17)]
def ihv10 : V := (.b false)
def iho10 : List (Pos × List V) := []
theorem ihs10 : stat ihb10 iha10 ihv10 iho10 = true := by kernel_rfl
theorem ihr10 : runOk (un 2 F100h iha10 (mkS ihb10) fun v S => some (v, S)) ihv10 iho10 = true := by kernel_rfl
theorem ihm10 : FOK Tryz.prog 100 (memoF ihb10 iha10 ihv10 iho10) := memo_ok K100h ihs10 ihr10
def ihb11 : List (List V) := [iy11]
def iha11 : List V := [(.i .i64 23), (.sl .h 0 17 17)]
def ihv11 : V := (.b false)
def iho11 : List (Pos × List V) := []
theorem ihs11 : stat ihb11 iha11 ihv11 iho11 = true := by kernel_rfl
theorem ihr11 : runOk (un 2 F100h iha11 (mkS ihb11) fun v S => some (v, S)) ihv11 iho11 = true := by kernel_rfl
theorem ihm11 : FOK Tryz.prog 100 (memoF ihb11 iha11 ihv11 iho11) := memo_ok K100h ihs11 ihr11
def ihb12 : List (List V) := [iy12]
def iha12 : List V := [(.i .i64 23), (.sl .h 0 17 17)]
def ihv12 : V := (.b false)
def iho12 : List (Pos × List V) := []
theorem ihs12 : stat ihb12 iha12 ihv12 iho12 = true := by kernel_rfl
theorem ihr12 : runOk (un 2 F100h iha12 (mkS ihb12) fun v S => some (v, S)) ihv12 iho12 = true := by kernel_rfl
theorem ihm12 : FOK Tryz.prog 100 (memoF ihb12 iha12 ihv12 iho12) := memo_ok K100h ihs12 ihr12
def ihb13 : List (List V) := [iy13]
def iha13 : List V := [(.i .i64 23), (.sl .h 0 17 17)]
def ihv13 : V := (.b false)
def iho13 : List (Pos × List V) := []
theorem ihs13 : stat ihb13 iha13 ihv13 iho13 = true := by kernel_rfl
theorem ihr13 : runOk (un 2 F100h iha13 (mkS ihb13) fun v S => some (v, S)) ihv13 iho13 = true := by kernel_rfl
theorem ihm13 : FOK Tryz.prog 100 (memoF ihb13 iha13 ihv13 iho13) := memo_ok K100h ihs13 ihr13
def ihb14 : List (List V) := [iy14]
def iha14 : List V := [(.i .i64 23), (.sl .h 0 17 17)]
def ihv14 : V := (.b false)
def iho14 : List (Pos × List V) := []
theorem ihs14 : stat ihb14 iha14 ihv14 iho14 = true := by kernel_rfl
theorem ihr14 : runOk (un 2 F100h iha14 (mkS ihb14) fun v S => some (v, S)) ihv14 iho14 = true := by kernel_rfl
theorem ihm14 : FOK Tryz.prog 100 (memoF ihb14 iha14 ihv14 iho14) := memo_ok K100h ihs14 ihr14
def ihb15 : List (List V) := [iy15]
def iha15 : List V := [(.i .i64 23), (.sl .h 0 17 17)]
def ihv15 : V := (.b false)
def iho15 : List (Pos × List V) := []
theorem ihs15 : stat ihb15 iha15 ihv15 iho15 = true := by kernel_rfl
theorem ihr15 : runOk (un 2 F100h iha15 (mkS ihb15) fun v S => some (v, S)) ihv15 iho15 = true := by kernel_rfl
theorem ihm15 : FOK Tryz.prog 100 (memoF ihb15 iha15 ihv15 iho15) := memo_ok K100h ihs15 ihr15
def ihb16 : List (List V) := [iy16]
def iha16 : List V := [(.i .i64 23), (.sl .h 0 17 17)]
def ihv16 : V := (.b false)
def iho16 : List (Pos × List V) := []
theorem ihs16 : stat ihb16 iha16 ihv16 iho16 = true := by kernel_rfl
theorem ihr16 : runOk (un 2 F100h iha16 (mkS ihb16) fun v S => some (v, S)) ihv16 iho16 = true := by kernel_rfl
theorem ihm16 : FOK Tryz.prog 100 (memoF ihb16 iha16 ihv16 iho16) := memo_ok K100h ihs16 ihr16
def ihb17 : List (List V) := [iy17]
def iha17 : List V := [(.i .i64 23), (.sl .h 0 17 17)]
def ihv17 : V := (.b false)
def iho17 : List (Pos × List V) := []
theorem ihs17 : stat ihb17 iha17 ihv17 iho17 = true := by kernel_rfl
theorem ihr17 : runOk (un 2 F100h iha17 (mkS ihb17) fun v S => some (v, S)) ihv17 iho17 = true := by kernel_rfl
theorem ihm17 : FOK Tryz.prog 100 (memoF ihb17 iha17 ihv17 iho17) := memo_ok K100h ihs17 ihr17
def ihb18 : List (List V) := [iy18]
def iha18 : List V := [(.i .i64 23), (.sl .h 0 17 17)]
def ihv18 : V := (.b false)
def iho18 : List (Pos × List V) := []
theorem ihs18 : stat ihb18 iha18 ihv18 iho18 = true := by kernel_rfl
theorem ihr18 : runOk (un 2 F100h iha18 (mkS ihb18) fun v S => some (v, S)) ihv18 iho18 = true := by kernel_rfl
theorem ihm18 : FOK Tryz.prog 100 (memoF ihb18 iha18 ihv18 iho18) := memo_ok K100h ihs18 ihr18
def ihb19 : List (List V) := [iy19]
def iha19 : List V := [(.i .i64 23), (.sl .h 0 17 17)]
def ihv19 : V := (.b false)
def iho19 : List (Pos × List V) := []
theorem ihs19 : stat ihb19 iha19 ihv19 iho19 = true := by kernel_rfl
theorem ihr19 : runOk (un 2 F100h iha19 (mkS ihb19) fun v S => some (v, S)) ihv19 iho19 = true := by kernel_rfl
theorem ihm19 : FOK Tryz.prog 100 (memoF ihb19 iha19 ihv19 iho19) := memo_ok K100h ihs19 ihr19
def ihb20 : List (List V) := [iy20]
def iha20 : List V := [(.i .i64 23), (.sl .h 0 17 17)]
def ihv20 : V := (.b false)
def iho20 : List (Pos × List V) := []
theorem ihs20 : stat ihb20 iha20 ihv20 iho20 = true := by kernel_rfl
theorem ihr20 : runOk (un 2 F100h iha20 (mkS ihb20) fun v S => some (v, S)) ihv20 iho20 = true := by kernel_rfl
theorem ihm20 : FOK Tryz.prog 100 (memoF ihb20 iha20 ihv20 iho20) := memo_ok K100h ihs20 ihr20
def ihb21 : List (List V) := [iy21]
def iha21 : List V := [(.i .i64 23), (.sl .h 0 17 17)]
def ihv21 : V := (.b false)
def iho21 : List (Pos × List V) := []
theorem ihs21 : stat ihb21 iha21 ihv21 iho21 = true := by kernel_rfl
theorem ihr21 : runOk (un 2 F100h iha21 (mkS ihb21) fun v S => some (v, S)) ihv21 iho21 = true := by kernel_rfl
theorem ihm21 : FOK Tryz.prog 100 (memoF ihb21 iha21 ihv21 iho21) := memo_ok K100h ihs21 ihr21
def ihb22 : List (List V) := [iy22]
def iha22 : List V := [(.i .i64 23), (.sl .h 0 17 17)]
def ihv22 : V := (.b false)
def iho22 : List (Pos × List V) := []
theorem ihs22 : stat ihb22 iha22 ihv22 iho22 = true := by kernel_rfl
theorem ihr22 : runOk (un 2 F100h iha22 (mkS ihb22) fun v S => some (v, S)) ihv22 iho22 = true := by kernel_rfl
theorem ihm22 : FOK Tryz.prog 100 (memoF ihb22 iha22 ihv22 iho22) := memo_ok K100h ihs22 ihr22
def ihb23 : List (List V) := [iy23]
def iha23 : List V := [(.i .i64 23), (.sl .h 0 17 17)]
def ihv23 : V := (.b false)
def iho23 : List (Pos × List V) := []
theorem ihs23 : stat ihb23 iha23 ihv23 iho23 = true := by kernel_rfl
theorem ihr23 : runOk (un 2 F100h iha23 (mkS ihb23) fun v S => some (v, S)) ihv23 iho23 = true := by kernel_rfl
theorem ihm23 : FOK Tryz.prog 100 (memoF ihb23 iha23 ihv23 iho23) := memo_ok K100h ihs23 ihr23
def ihb24 : List (List V) := [iy24]
def iha24 : List V := [(.i .i64 23), (.sl .h 0 17 17)]
def ihv24 : V := (.b false)
def iho24 : List (Pos × List V) := []
theorem ihs24 : stat ihb24 iha24 ihv24 iho24 = true := by kernel_rfl
theorem ihr24 : runOk (un 2 F100h iha24 (mkS ihb24) fun v S => some (v, S)) ihv24 iho24 = true := by kernel_rfl
theorem ihm24 : FOK Tryz.prog 100 (memoF ihb24 iha24 ihv24 iho24) := memo_ok K100h ihs24 ihr24
def ihb25 : List (List V) := [iy25]
def iha25 : List V := [(.i .i64 23), (.sl .h 0 17 17)]
def ihv25 : V := (.b false)
def iho25 : List (Pos × List V) := []
theorem ihs25 : stat ihb25 iha25 ihv25 iho25 = true := by kernel_rfl
theorem ihr25 : runOk (un 2 F100h iha25 (mkS ihb25) fun v S => some (v, S)) ihv25 iho25 = true := by kernel_rfl
theorem ihm25 : FOK Tryz.prog 100 (memoF ihb25 iha25 ihv25 iho25) := memo_ok K100h ihs25 ihr25
def ihb26 : List (List V) := [iy26]
def iha26 : List V := [(.i .i64 23), (.sl .h 0 17 17)]
def ihv26 : V := (.b false)
def iho26 : List (Pos × List V) := []
theorem ihs26 : stat ihb26 iha26 ihv26 iho26 = true := by kernel_rfl
theorem ihr26 : runOk (un 2 F100h iha26 (mkS ihb26) fun v S => some (v, S)) ihv26 iho26 = true := by kernel_rfl
theorem ihm26 : FOK Tryz.prog 100 (memoF ihb26 iha26 ihv26 iho26) := memo_ok K100h ihs26 ihr26
def ihb27 : List (List V) := [iy27]
def iha27 : List V := [(.i .i64 23), (.sl .h 0 17 17)]
def ihv27 : V := (.b false)
def iho27 : List (Pos × List V) := []
theorem ihs27 : stat ihb27 iha27 ihv27 iho27 = true := by kernel_rfl
theorem ihr27 : runOk (un 2 F100h iha27 (mkS ihb27) fun v S => some (v, S)) ihv27 iho27 = true := by kernel_rfl
theorem ihm27 : FOK Tryz.prog 100 (memoF ihb27 iha27 ihv27 iho27) := memo_ok K100h ihs27 ihr27
def ihb28 : List (List V) := [iy28]
def iha28 : List V := [(.i .i64 23), (.sl .h 0 17 17)]
def ihv28 : V := (.b false)
def iho28 : List (Pos × List V) := []
theorem ihs28 : stat ihb28 iha28 ihv28 iho28 = true := by kernel_rfl
theorem ihr28 : runOk (un 2 F100h iha28 (mkS ihb28) fun v S => some (v, S)) ihv28 iho28 = true := by kernel_rfl
theorem ihm28 : FOK Tryz.prog 100 (memoF ihb28 iha28 ihv28 iho28) := memo_ok K100h ihs28 ihr28
def ihb29 : List (List V) := [iy29]
def iha29 : List V := [(.i .i64 23), (.sl .h 0 17 17)]
def ihv29 : V := (.b false)
def iho29 : List (Pos × List V) := []
theorem ihs29 : stat ihb29 iha29 ihv29 iho29 = true := by kernel_rfl
theorem ihr29 : runOk (un 2 F100h iha29 (mkS ihb29) fun v S => some (v, S)) ihv29 iho29 = true := by kernel_rfl
theorem ihm29 : FOK Tryz.prog 100 (memoF ihb29 iha29 ihv29 iho29) := memo_ok K100h ihs29 ihr29
def ihb30 : List (List V) := [iy30]
def iha30 : List V := [(.i .i64 23), (.sl .h 0 17 17)]
def ihv30 : V := (.b false)
def iho30 : List (Pos × List V) := []
theorem ihs30 : stat ihb30 iha30 ihv30 iho30 = true := by kernel_rfl
theorem ihr30 : runOk (un 2 F100h iha30 (mkS ihb30) fun v S => some (v, S)) ihv30 iho30 = true := by kernel_rfl
theorem ihm30 : FOK Tryz.prog 100 (memoF ihb30 iha30 ihv30 iho30) := memo_ok K100h ihs30 ihr30
def ihb31 : List (List V) := [iy31]
def iha31 : List V := [(.i .i64 23), (.sl .h 0 17 17)]
def ihv31 : V := (.b false)
def iho31 : List (Pos × List V) := []
theorem ihs31 : stat ihb31 iha31 ihv31 iho31 = true := by kernel_rfl
theorem ihr31 : runOk (un 2 F100h iha31 (mkS ihb31) fun v S => some (v, S)) ihv31 iho31 = true := by kernel_rfl
theorem ihm31 : FOK Tryz.prog 100 (memoF ihb31 iha31 ihv31 iho31) := memo_ok K100h ihs31 ihr31
def ihb32 : List (List V) := [iy32]
def iha32 : List V := [(.i .i64 23), (.sl .h 0 17 17)]
def ihv32 : V := (.b false)
def iho32 : List (Pos × List V) := []
theorem ihs32 : stat ihb32 iha32 ihv32 iho32 = true := by kernel_rfl
theorem ihr32 : runOk (un 2 F100h iha32 (mkS ihb32) fun v S => some (v, S)) ihv32 iho32 = true := by kernel_rfl
theorem ihm32 : FOK Tryz.prog 100 (memoF ihb32 iha32 ihv32 iho32) := memo_ok K100h ihs32 ihr32
def ihb33 : List (List V) := [iy33]
def iha33 : List V := [(.i .i64 23), (.sl .h 0 17 17)]
def ihv33 : V := (.b false)
def iho33 : List (Pos × List V) := []
theorem ihs33 : stat ihb33 iha33 ihv33 iho33 = true := by kernel_rfl
theorem ihr33 : runOk (un 2 F100h iha33 (mkS ihb33) fun v S => some (v, S)) ihv33 iho33 = true := by kernel_rfl
theorem ihm33 : FOK Tryz.prog 100 (memoF ihb33 iha33 ihv33 iho33) := memo_ok K100h ihs33 ihr33
def ihb34 : List (List V) := [iy34]
def iha34 : List V := [(.i .i64 23), (.sl .h 0 17 17)]
def ihv34 : V := (.b false)
def iho34 : List (Pos × List V) := []
theorem ihs34 : stat ihb34 iha34 ihv34 iho34 = true := by kernel_rfl
theorem ihr34 : runOk (un 2 F100h iha34 (mkS ihb34) fun v S => some (v, S)) ihv34 iho34 = true := by kernel_rfl
theorem ihm34 : FOK Tryz.prog 100 (memoF ihb34 iha34 ihv34 iho34) := memo_ok K100h ihs34 ihr34
def ihb35 : List (List V) := [iy35]
def iha35 : List V := [(.i .i64 23), (.sl .h 0 17 17)]
def ihv35 : V := (.b false)
def iho35 : List (Pos × List V) := []
theorem ihs35 : stat ihb35 iha35 ihv35 iho35 = true := by kernel_rfl
theorem ihr35 : runOk (un 2 F100h iha35 (mkS ihb35) fun v S => some (v, S)) ihv35 iho35 = true := by kernel_rfl
theorem ihm35 : FOK Tryz.prog 100 (memoF ihb35 iha35 ihv35 iho35) := memo_ok K100h ihs35 ihr35
def ihb36 : List (List V) := [iy36]
def iha36 : List V := [(.i .i64 23), (.sl .h 0 17 17)]
def ihv36 : V := (.b false)
def iho36 : List (Pos × List V) := []
theorem ihs36 : stat ihb36 iha36 ihv36 iho36 = true := by kernel_rfl
theorem ihr36 : runOk (un 2 F100h iha36 (mkS ihb36) fun v S => some (v, S)) ihv36 iho36 = true := by kernel_rfl
theorem ihm36 : FOK Tryz.prog 100 (memoF ihb36 iha36 ihv36 iho36) := memo_ok K100h ihs36 ihr36
def ihb37 : List (List V) := [iy37]
def iha37 : List V := [(.i .i64 23), (.sl .h 0 17 17)]
def ihv37 : V := (.b false)
def iho37 : List (Pos × List V) := []
theorem ihs37 : stat ihb37 iha37 ihv37 iho37 = true := by kernel_rfl
theorem ihr37 : runOk (un 2 F100h iha37 (mkS ihb37) fun v S => some (v, S)) ihv37 iho37 = true := by kernel_rfl
theorem ihm37 : FOK Tryz.prog 100 (memoF ihb37 iha37 ihv37 iho37) := memo_ok K100h ihs37 ihr37
def ihb38 : List (List V) := [iy38]
def iha38 : List V := [(.i .i64 23), (.sl .h 0 17 17)]
def ihv38 : V := (.b false)
def iho38 : List (Pos × List V) := []
theorem ihs38 : stat ihb38 iha38 ihv38 iho38 = true := by kernel_rfl
theorem ihr38 : runOk (un 2 F100h iha38 (mkS ihb38) fun v S => some (v, S)) ihv38 iho38 = true := by kernel_rfl
theorem ihm38 : FOK Tryz.prog 100 (memoF ihb38 iha38 ihv38 iho38) := memo_ok K100h ihs38 ihr38
def ihb39 : List (List V) := [iy39]
def iha39 : List V := [(.i .i64 23), (.sl .h 0 17 17)]
def ihv39 : V := (.b false)
def iho39 : List (Pos × List V) := []
theorem ihs39 : stat ihb39 iha39 ihv39 iho39 = true := by kernel_rfl
theorem ihr39 : runOk (un 2 F100h iha39 (mkS ihb39) fun v S => some (v, S)) ihv39 iho39 = true := by kernel_rfl
theorem ihm39 : FOK Tryz.prog 100 (memoF ihb39 iha39 ihv39 iho39) := memo_ok K100h ihs39 ihr39
def ihb40 : List (List V) := [iy40]
def iha40 : List V := [(.i .i64 23), (.sl .h 0 17 17)]
def ihv40 : V := (.b false)
def iho40 : List (Pos × List V) := []
theorem ihs40 : stat ihb40 iha40 ihv40 iho40 = true := by kernel_rfl
theorem ihr40 : runOk (un 2 F100h iha40 (mkS ihb40) fun v S => some (v, S)) ihv40 iho40 = true := by kernel_rfl
theorem ihm40 : FOK Tryz.prog 100 (memoF ihb40 iha40 ihv40 iho40) := memo_ok K100h ihs40 ihr40
def ihb41 : List (List V) := [iy41]
def iha41 : List V := [(.i .i64 23), (.sl .h 0 17 17)]
def ihv41 : V := (.b false)
def iho41 : List (Pos × List V) := []
theorem ihs41 : stat ihb41 iha41 ihv41 iho41 = true := by kernel_rfl
theorem ihr41 : runOk (un 2 F100h iha41 (mkS ihb41) fun v S => some (v, S)) ihv41 iho41 = true := by kernel_rfl
theorem ihm41 : FOK Tryz.prog 100 (memoF ihb41 iha41 ihv41 iho41) := memo_ok K100h ihs41 ihr41
def ihb42 : List (List V) := [iy42]
def iha42 : List V := [(.i .i64 23), (.sl .h 0 17 17)]
def ihv42 : V := (.b false)
def iho42 : List (Pos × List V) := []
theorem ihs42 : stat ihb42 iha42 ihv42 iho42 = true := by kernel_rfl
theorem ihr42 : runOk (un 2 F100h iha42 (mkS ihb42) fun v S => some (v, S)) ihv42 iho42 = true := by kernel_rfl
theorem ihm42 : FOK Tryz.prog 100 (memoF ihb42 iha42 ihv42 iho42) := memo_ok K100h ihs42 ihr42
end
end Go.AM
