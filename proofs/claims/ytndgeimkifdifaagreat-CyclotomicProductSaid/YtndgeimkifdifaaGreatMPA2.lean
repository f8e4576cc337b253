/- Cyclotomic polynomials, by their runs. -/
import Derived.Test.YtndgeimkifdifaaGreatMPA0
set_option maxRecDepth 1000000
set_option linter.unusedVariables false
namespace Go.AM
open Go.Proofs
noncomputable section
def phb48 : List (List V) := []
def pha48 : List V := [(.i .i64 53)]
def phv48 : V := (.tu [(.sl (.i (.o (.o (.o (.i (.i .h)))))) 0 53 53), (.i .i64 0)])
def pho48 : List (Pos × List V) := [((.i (.o (.o (.o (.i (.i .h)))))), py48)]
theorem phs48 : stat phb48 pha48 phv48 pho48 = true := by kernel_rfl
theorem phr48 : runOk (un 1 F12 pha48 (mkS phb48) fun v S => some (v, S)) phv48 pho48 = true := by kernel_rfl
theorem phm48 : FOK Tryz.prog 12 (memoF phb48 pha48 phv48 pho48) := memo_ok K12 phs48 phr48
def phb49 : List (List V) := []
def pha49 : List V := [(.i .i64 54)]
def phv49 : V := (.tu [(.sl (.i (.o (.o (.o (.i (.o (.o (.o .h)))))))) 0 19 19), (.i .i64 0)])
def pho49 : List (Pos × List V) := [((.i (.o (.o (.o (.i (.o (.o (.o .h)))))))), py49)]
theorem phs49 : stat phb49 pha49 phv49 pho49 = true := by kernel_rfl
theorem phr49 : runOk (un 1 F12 pha49 (mkS phb49) fun v S => some (v, S)) phv49 pho49 = true := by kernel_rfl
theorem phm49 : FOK Tryz.prog 12 (memoF phb49 pha49 phv49 pho49) := memo_ok K12 phs49 phr49
def phb50 : List (List V) := []
def pha50 : List V := [(.i .i64 55)]
def phv50 : V := (.tu [(.sl (.i (.o (.o (.o (.i (.i .h)))))) 0 41 41), (.i .i64 0)])
def pho50 : List (Pos × List V) := [((.i (.o (.o (.o (.i (.i .h)))))), py50)]
theorem phs50 : stat phb50 pha50 phv50 pho50 = true := by kernel_rfl
theorem phr50 : runOk (un 1 F12 pha50 (mkS phb50) fun v S => some (v, S)) phv50 pho50 = true := by kernel_rfl
theorem phm50 : FOK Tryz.prog 12 (memoF phb50 pha50 phv50 pho50) := memo_ok K12 phs50 phr50
def phb51 : List (List V) := []
def pha51 : List V := [(.i .i64 56)]
def phv51 : V := (.tu [(.sl (.i (.o (.i (.i (.i (.o (.o (.o .h)))))))) 0 25 25), (.i .i64 0)])
def pho51 : List (Pos × List V) := [((.i (.o (.i (.i (.i (.o (.o (.o .h)))))))), py51)]
theorem phs51 : stat phb51 pha51 phv51 pho51 = true := by kernel_rfl
theorem phr51 : runOk (un 1 F12 pha51 (mkS phb51) fun v S => some (v, S)) phv51 pho51 = true := by kernel_rfl
theorem phm51 : FOK Tryz.prog 12 (memoF phb51 pha51 phv51 pho51) := memo_ok K12 phs51 phr51
def phb52 : List (List V) := []
def pha52 : List V := [(.i .i64 57)]
def phv52 : V := (.tu [(.sl (.i (.o (.o (.i (.o (.i .h)))))) 0 37 37), (.i .i64 0)])
def pho52 : List (Pos × List V) := [((.i (.o (.o (.i (.o (.i .h)))))), py52)]
theorem phs52 : stat phb52 pha52 phv52 pho52 = true := by kernel_rfl
theorem phr52 : runOk (un 1 F12 pha52 (mkS phb52) fun v S => some (v, S)) phv52 pho52 = true := by kernel_rfl
theorem phm52 : FOK Tryz.prog 12 (memoF phb52 pha52 phv52 pho52) := memo_ok K12 phs52 phr52
def phb53 : List (List V) := []
def pha53 : List V := [(.i .i64 58)]
def phv53 : V := (.tu [(.sl (.i (.o (.o (.i (.i (.o .h)))))) 0 29 29), (.i .i64 0)])
def pho53 : List (Pos × List V) := [((.i (.o (.o (.i (.i (.o .h)))))), py53)]
theorem phs53 : stat phb53 pha53 phv53 pho53 = true := by kernel_rfl
theorem phr53 : runOk (un 1 F12 pha53 (mkS phb53) fun v S => some (v, S)) phv53 pho53 = true := by kernel_rfl
theorem phm53 : FOK Tryz.prog 12 (memoF phb53 pha53 phv53 pho53) := memo_ok K12 phs53 phr53
def phb54 : List (List V) := []
def pha54 : List V := [(.i .i64 59)]
def phv54 : V := (.tu [(.sl (.i (.o (.i (.i (.i (.i .h)))))) 0 59 59), (.i .i64 0)])
def pho54 : List (Pos × List V) := [((.i (.o (.i (.i (.i (.i .h)))))), py54)]
theorem phs54 : stat phb54 pha54 phv54 pho54 = true := by kernel_rfl
theorem phr54 : runOk (un 1 F12 pha54 (mkS phb54) fun v S => some (v, S)) phv54 pho54 = true := by kernel_rfl
theorem phm54 : FOK Tryz.prog 12 (memoF phb54 pha54 phv54 pho54) := memo_ok K12 phs54 phr54
def phb55 : List (List V) := []
def pha55 : List V := [(.i .i64 60)]
def phv55 : V := (.tu [(.sl (.i (.o (.i (.i (.o (.i (.o (.o (.o .h))))))))) 0 17 17), (.i .i64 0)])
def pho55 : List (Pos × List V) := [((.i (.o (.i (.i (.o (.i (.o (.o (.o .h))))))))), py55)]
theorem phs55 : stat phb55 pha55 phv55 pho55 = true := by kernel_rfl
theorem phr55 : runOk (un 1 F12 pha55 (mkS phb55) fun v S => some (v, S)) phv55 pho55 = true := by kernel_rfl
theorem phm55 : FOK Tryz.prog 12 (memoF phb55 pha55 phv55 pho55) := memo_ok K12 phs55 phr55
end
end Go.AM
