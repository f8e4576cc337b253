/- Cyclotomic polynomials, by their runs. -/
import Derived.Test.YtndgeimkifdifaaGreatMQA0
set_option maxRecDepth 1000000
set_option linter.unusedVariables false
namespace Go.AM
open Go.Proofs
noncomputable section
def qhb23 : List (List V) := []
def qha23 : List V := [(.i .i64 24)]
def qhv23 : V := (.tu [(.sl (.i (.o (.i (.i (.i (.i (.i .h))))))) 0 9 9), (.i .i64 0)])
def qho23 : List (Pos × List V) := [((.i (.o (.i (.i (.i (.i (.i .h))))))), qy23)]
theorem qhs23 : stat qhb23 qha23 qhv23 qho23 = true := by kernel_rfl
theorem qhr23 : runOk (un 1 F12 qha23 (mkS qhb23) fun v S => some (v, S)) qhv23 qho23 = true := by kernel_rfl
theorem qhm23 : FOK Tryz.prog 12 (memoF qhb23 qha23 qhv23 qho23) := memo_ok K12 qhs23 qhr23
def qhb24 : List (List V) := []
def qha24 : List V := [(.i .i64 25)]
def qhv24 : V := (.tu [(.sl (.i (.o (.i (.i (.i .h))))) 0 21 21), (.i .i64 0)])
def qho24 : List (Pos × List V) := [((.i (.o (.i (.i (.i .h))))), qy24)]
theorem qhs24 : stat qhb24 qha24 qhv24 qho24 = true := by kernel_rfl
theorem qhr24 : runOk (un 1 F12 qha24 (mkS qhb24) fun v S => some (v, S)) qhv24 qho24 = true := by kernel_rfl
theorem qhm24 : FOK Tryz.prog 12 (memoF qhb24 qha24 qhv24 qho24) := memo_ok K12 qhs24 qhr24
def qhb25 : List (List V) := []
def qha25 : List V := [(.i .i64 26)]
def qhv25 : V := (.tu [(.sl (.i (.o (.o (.i (.i .h))))) 0 13 13), (.i .i64 0)])
def qho25 : List (Pos × List V) := [((.i (.o (.o (.i (.i .h))))), qy25)]
theorem qhs25 : stat qhb25 qha25 qhv25 qho25 = true := by kernel_rfl
theorem qhr25 : runOk (un 1 F12 qha25 (mkS qhb25) fun v S => some (v, S)) qhv25 qho25 = true := by kernel_rfl
theorem qhm25 : FOK Tryz.prog 12 (memoF qhb25 qha25 qhv25 qho25) := memo_ok K12 qhs25 qhr25
def qhb26 : List (List V) := []
def qha26 : List V := [(.i .i64 27)]
def qhv26 : V := (.tu [(.sl (.i (.o (.o (.o (.i (.o .h)))))) 0 19 19), (.i .i64 0)])
def qho26 : List (Pos × List V) := [((.i (.o (.o (.o (.i (.o .h)))))), qy26)]
theorem qhs26 : stat qhb26 qha26 qhv26 qho26 = true := by kernel_rfl
theorem qhr26 : runOk (un 1 F12 qha26 (mkS qhb26) fun v S => some (v, S)) qhv26 qho26 = true := by kernel_rfl
theorem qhm26 : FOK Tryz.prog 12 (memoF qhb26 qha26 qhv26 qho26) := memo_ok K12 qhs26 qhr26
def qhb27 : List (List V) := []
def qha27 : List V := [(.i .i64 28)]
def qhv27 : V := (.tu [(.sl (.i (.o (.i (.o (.i (.i .h)))))) 0 13 13), (.i .i64 0)])
def qho27 : List (Pos × List V) := [((.i (.o (.i (.o (.i (.i .h)))))), qy27)]
theorem qhs27 : stat qhb27 qha27 qhv27 qho27 = true := by kernel_rfl
theorem qhr27 : runOk (un 1 F12 qha27 (mkS qhb27) fun v S => some (v, S)) qhv27 qho27 = true := by kernel_rfl
theorem qhm27 : FOK Tryz.prog 12 (memoF qhb27 qha27 qhv27 qho27) := memo_ok K12 qhs27 qhr27
def qhb28 : List (List V) := []
def qha28 : List V := [(.i .i64 29)]
def qhv28 : V := (.tu [(.sl (.i (.o (.o (.o (.o (.o .h)))))) 0 29 29), (.i .i64 0)])
def qho28 : List (Pos × List V) := [((.i (.o (.o (.o (.o (.o .h)))))), qy28)]
theorem qhs28 : stat qhb28 qha28 qhv28 qho28 = true := by kernel_rfl
theorem qhr28 : runOk (un 1 F12 qha28 (mkS qhb28) fun v S => some (v, S)) qhv28 qho28 = true := by kernel_rfl
theorem qhm28 : FOK Tryz.prog 12 (memoF qhb28 qha28 qhv28 qho28) := memo_ok K12 qhs28 qhr28
def qhb29 : List (List V) := []
def qha29 : List V := [(.i .i64 30)]
def qhv29 : V := (.tu [(.sl (.i (.o (.o (.i (.o (.i (.o .h))))))) 0 9 9), (.i .i64 0)])
def qho29 : List (Pos × List V) := [((.i (.o (.o (.i (.o (.i (.o .h))))))), qy29)]
theorem qhs29 : stat qhb29 qha29 qhv29 qho29 = true := by kernel_rfl
theorem qhr29 : runOk (un 1 F12 qha29 (mkS qhb29) fun v S => some (v, S)) qhv29 qho29 = true := by kernel_rfl
theorem qhm29 : FOK Tryz.prog 12 (memoF qhb29 qha29 qhv29 qho29) := memo_ok K12 qhs29 qhr29
end
end Go.AM
