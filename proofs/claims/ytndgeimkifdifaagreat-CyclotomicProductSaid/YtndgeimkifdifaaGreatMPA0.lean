/- Cyclotomic polynomials, by their runs. -/
import Derived.Test.YtndgeimkifdifaaGreatR47
import Derived.Test.YtndgeimkifdifaaGreatXM
set_option maxRecDepth 1000000
set_option linter.unusedVariables false
namespace Go.AM
open Go.Proofs
noncomputable section
def Qp (l : List Nat) (r : List V) : List V := .b false :: .s l :: .s [1] :: r
def Qm (l : List Nat) (r : List V) : List V := .b true :: .s l :: .s [1] :: r
def Qz (r : List V) : List V := .b false :: .s [] :: .s [1] :: r
def Q1 (r : List V) : List V := .b false :: .s [1] :: .s [1] :: r
def py0 : List V := (Q1 (Qz (Qm [1] (Qz (Q1 [])))))
def py1 : List V := (Q1 (Q1 (Q1 (Q1 (Q1 [])))))
def py2 : List V := (Q1 (Qm [1] (Q1 [])))
def py3 : List V := (Q1 (Q1 (Q1 (Q1 (Q1 (Q1 (Q1 [])))))))
def py4 : List V := (Q1 (Qz (Qz (Qz (Q1 [])))))
def py5 : List V := (Q1 (Qz (Qz (Q1 (Qz (Qz (Q1 [])))))))
def py6 : List V := (Q1 (Qm [1] (Q1 (Qm [1] (Q1 [])))))
def py7 : List V := (Q1 (Q1 (Q1 (Q1 (Q1 (Q1 (Q1 (Q1 (Q1 (Q1 (Q1 [])))))))))))
def py8 : List V := (Q1 (Q1 (Q1 (Q1 (Q1 (Q1 (Q1 (Q1 (Q1 (Q1 (Q1 (Q1 (Q1 [])))))))))))))
def py9 : List V := (Q1 (Qm [1] (Q1 (Qm [1] (Q1 (Qm [1] (Q1 [])))))))
def py10 : List V := (Q1 (Qm [1] (Qz (Q1 (Qm [1] (Q1 (Qz (Qm [1] (Q1 [])))))))))
def py11 : List V := (Q1 (Qz (Qz (Qz (Qz (Qz (Qz (Qz (Q1 [])))))))))
def py12 : List V := (Q1 (Q1 (Q1 (Q1 (Q1 (Q1 (Q1 (Q1 (Q1 (Q1 (Q1 (Q1 (Q1 (Q1 (Q1 (Q1 (Q1 [])))))))))))))))))
def py13 : List V := (Q1 (Qz (Qz (Qm [1] (Qz (Qz (Q1 [])))))))
def py14 : List V := (Q1 (Q1 (Q1 (Q1 (Q1 (Q1 (Q1 (Q1 (Q1 (Q1 (Q1 (Q1 (Q1 (Q1 (Q1 (Q1 (Q1 (Q1 (Q1 [])))))))))))))))))))
def py15 : List V := (Q1 (Qz (Qm [1] (Qz (Q1 (Qz (Qm [1] (Qz (Q1 [])))))))))
def py16 : List V := (Q1 (Qm [1] (Qz (Q1 (Qm [1] (Qz (Q1 (Qz (Qm [1] (Q1 (Qz (Qm [1] (Q1 [])))))))))))))
def py17 : List V := (Q1 (Qm [1] (Q1 (Qm [1] (Q1 (Qm [1] (Q1 (Qm [1] (Q1 (Qm [1] (Q1 [])))))))))))
def py18 : List V := (Q1 (Q1 (Q1 (Q1 (Q1 (Q1 (Q1 (Q1 (Q1 (Q1 (Q1 (Q1 (Q1 (Q1 (Q1 (Q1 (Q1 (Q1 (Q1 (Q1 (Q1 (Q1 (Q1 [])))))))))))))))))))))))
def py19 : List V := (Q1 (Qz (Qz (Qz (Qm [1] (Qz (Qz (Qz (Q1 [])))))))))
def py20 : List V := (Q1 (Qz (Qz (Qz (Qz (Q1 (Qz (Qz (Qz (Qz (Q1 (Qz (Qz (Qz (Qz (Q1 (Qz (Qz (Qz (Qz (Q1 [])))))))))))))))))))))
def py21 : List V := (Q1 (Qm [1] (Q1 (Qm [1] (Q1 (Qm [1] (Q1 (Qm [1] (Q1 (Qm [1] (Q1 (Qm [1] (Q1 [])))))))))))))
def py22 : List V := (Q1 (Qz (Qz (Qz (Qz (Qz (Qz (Qz (Qz (Q1 (Qz (Qz (Qz (Qz (Qz (Qz (Qz (Qz (Q1 [])))))))))))))))))))
def py23 : List V := (Q1 (Qz (Qm [1] (Qz (Q1 (Qz (Qm [1] (Qz (Q1 (Qz (Qm [1] (Qz (Q1 [])))))))))))))
def py24 : List V := (Q1 (Q1 (Q1 (Q1 (Q1 (Q1 (Q1 (Q1 (Q1 (Q1 (Q1 (Q1 (Q1 (Q1 (Q1 (Q1 (Q1 (Q1 (Q1 (Q1 (Q1 (Q1 (Q1 (Q1 (Q1 (Q1 (Q1 (Q1 (Q1 [])))))))))))))))))))))))))))))
def py25 : List V := (Q1 (Q1 (Qz (Qm [1] (Qm [1] (Qm [1] (Qz (Q1 (Q1 [])))))))))
def py26 : List V := (Q1 (Q1 (Q1 (Q1 (Q1 (Q1 (Q1 (Q1 (Q1 (Q1 (Q1 (Q1 (Q1 (Q1 (Q1 (Q1 (Q1 (Q1 (Q1 (Q1 (Q1 (Q1 (Q1 (Q1 (Q1 (Q1 (Q1 (Q1 (Q1 (Q1 (Q1 [])))))))))))))))))))))))))))))))
def py27 : List V := (Q1 (Qz (Qz (Qz (Qz (Qz (Qz (Qz (Qz (Qz (Qz (Qz (Qz (Qz (Qz (Qz (Q1 [])))))))))))))))))
def py28 : List V := (Q1 (Qm [1] (Qz (Q1 (Qm [1] (Qz (Q1 (Qm [1] (Qz (Q1 (Qm [1] (Q1 (Qz (Qm [1] (Q1 (Qz (Qm [1] (Q1 (Qz (Qm [1] (Q1 [])))))))))))))))))))))
def py29 : List V := (Q1 (Qm [1] (Q1 (Qm [1] (Q1 (Qm [1] (Q1 (Qm [1] (Q1 (Qm [1] (Q1 (Qm [1] (Q1 (Qm [1] (Q1 (Qm [1] (Q1 [])))))))))))))))))
def py30 : List V := (Q1 (Qm [1] (Qz (Qz (Qz (Q1 (Qm [1] (Q1 (Qm [1] (Qz (Q1 (Qm [1] (Q1 (Qm [1] (Q1 (Qz (Qm [1] (Q1 (Qm [1] (Q1 (Qz (Qz (Qz (Qm [1] (Q1 [])))))))))))))))))))))))))
def py31 : List V := (Q1 (Qz (Qz (Qz (Qz (Qz (Qm [1] (Qz (Qz (Qz (Qz (Qz (Q1 [])))))))))))))
def py32 : List V := (Q1 (Q1 (Q1 (Q1 (Q1 (Q1 (Q1 (Q1 (Q1 (Q1 (Q1 (Q1 (Q1 (Q1 (Q1 (Q1 (Q1 (Q1 (Q1 (Q1 (Q1 (Q1 (Q1 (Q1 (Q1 (Q1 (Q1 (Q1 (Q1 (Q1 (Q1 (Q1 (Q1 (Q1 (Q1 (Q1 (Q1 [])))))))))))))))))))))))))))))))))))))
def py33 : List V := (Q1 (Qm [1] (Q1 (Qm [1] (Q1 (Qm [1] (Q1 (Qm [1] (Q1 (Qm [1] (Q1 (Qm [1] (Q1 (Qm [1] (Q1 (Qm [1] (Q1 (Qm [1] (Q1 [])))))))))))))))))))
def py34 : List V := (Q1 (Qm [1] (Qz (Q1 (Qm [1] (Qz (Q1 (Qm [1] (Qz (Q1 (Qm [1] (Qz (Q1 (Qz (Qm [1] (Q1 (Qz (Qm [1] (Q1 (Qz (Qm [1] (Q1 (Qz (Qm [1] (Q1 [])))))))))))))))))))))))))
def py35 : List V := (Q1 (Qz (Qz (Qz (Qm [1] (Qz (Qz (Qz (Q1 (Qz (Qz (Qz (Qm [1] (Qz (Qz (Qz (Q1 [])))))))))))))))))
def py36 : List V := (Q1 (Q1 (Q1 (Q1 (Q1 (Q1 (Q1 (Q1 (Q1 (Q1 (Q1 (Q1 (Q1 (Q1 (Q1 (Q1 (Q1 (Q1 (Q1 (Q1 (Q1 (Q1 (Q1 (Q1 (Q1 (Q1 (Q1 (Q1 (Q1 (Q1 (Q1 (Q1 (Q1 (Q1 (Q1 (Q1 (Q1 (Q1 (Q1 (Q1 (Q1 [])))))))))))))))))))))))))))))))))))))))))
def py37 : List V := (Q1 (Q1 (Qz (Qm [1] (Qm [1] (Qz (Q1 (Qz (Qm [1] (Qm [1] (Qz (Q1 (Q1 [])))))))))))))
def py38 : List V := (Q1 (Q1 (Q1 (Q1 (Q1 (Q1 (Q1 (Q1 (Q1 (Q1 (Q1 (Q1 (Q1 (Q1 (Q1 (Q1 (Q1 (Q1 (Q1 (Q1 (Q1 (Q1 (Q1 (Q1 (Q1 (Q1 (Q1 (Q1 (Q1 (Q1 (Q1 (Q1 (Q1 (Q1 (Q1 (Q1 (Q1 (Q1 (Q1 (Q1 (Q1 (Q1 (Q1 [])))))))))))))))))))))))))))))))))))))))))))
def py39 : List V := (Q1 (Qz (Qm [1] (Qz (Q1 (Qz (Qm [1] (Qz (Q1 (Qz (Qm [1] (Qz (Q1 (Qz (Qm [1] (Qz (Q1 (Qz (Qm [1] (Qz (Q1 [])))))))))))))))))))))
def py40 : List V := (Q1 (Qz (Qz (Qm [1] (Qz (Qz (Qz (Qz (Qz (Q1 (Qz (Qz (Qm [1] (Qz (Qz (Q1 (Qz (Qz (Qz (Qz (Qz (Qm [1] (Qz (Qz (Q1 [])))))))))))))))))))))))))
def py41 : List V := (Q1 (Qm [1] (Q1 (Qm [1] (Q1 (Qm [1] (Q1 (Qm [1] (Q1 (Qm [1] (Q1 (Qm [1] (Q1 (Qm [1] (Q1 (Qm [1] (Q1 (Qm [1] (Q1 (Qm [1] (Q1 (Qm [1] (Q1 [])))))))))))))))))))))))
def py42 : List V := (Q1 (Q1 (Q1 (Q1 (Q1 (Q1 (Q1 (Q1 (Q1 (Q1 (Q1 (Q1 (Q1 (Q1 (Q1 (Q1 (Q1 (Q1 (Q1 (Q1 (Q1 (Q1 (Q1 (Q1 (Q1 (Q1 (Q1 (Q1 (Q1 (Q1 (Q1 (Q1 (Q1 (Q1 (Q1 (Q1 (Q1 (Q1 (Q1 (Q1 (Q1 (Q1 (Q1 (Q1 (Q1 (Q1 (Q1 [])))))))))))))))))))))))))))))))))))))))))))))))
def py43 : List V := (Q1 (Qz (Qz (Qz (Qz (Qz (Qz (Qz (Qm [1] (Qz (Qz (Qz (Qz (Qz (Qz (Qz (Q1 [])))))))))))))))))
def py44 : List V := (Q1 (Qz (Qz (Qz (Qz (Qz (Qz (Q1 (Qz (Qz (Qz (Qz (Qz (Qz (Q1 (Qz (Qz (Qz (Qz (Qz (Qz (Q1 (Qz (Qz (Qz (Qz (Qz (Qz (Q1 (Qz (Qz (Qz (Qz (Qz (Qz (Q1 (Qz (Qz (Qz (Qz (Qz (Qz (Q1 [])))))))))))))))))))))))))))))))))))))))))))
def py45 : List V := (Q1 (Qz (Qz (Qz (Qz (Qm [1] (Qz (Qz (Qz (Qz (Q1 (Qz (Qz (Qz (Qz (Qm [1] (Qz (Qz (Qz (Qz (Q1 [])))))))))))))))))))))
def py46 : List V := (Q1 (Qm [1] (Qz (Q1 (Qm [1] (Qz (Q1 (Qm [1] (Qz (Q1 (Qm [1] (Qz (Q1 (Qm [1] (Qz (Q1 (Qm [1] (Q1 (Qz (Qm [1] (Q1 (Qz (Qm [1] (Q1 (Qz (Qm [1] (Q1 (Qz (Qm [1] (Q1 (Qz (Qm [1] (Q1 [])))))))))))))))))))))))))))))))))
def py47 : List V := (Q1 (Qz (Qm [1] (Qz (Q1 (Qz (Qm [1] (Qz (Q1 (Qz (Qm [1] (Qz (Q1 (Qz (Qm [1] (Qz (Q1 (Qz (Qm [1] (Qz (Q1 (Qz (Qm [1] (Qz (Q1 [])))))))))))))))))))))))))
def py48 : List V := (Q1 (Q1 (Q1 (Q1 (Q1 (Q1 (Q1 (Q1 (Q1 (Q1 (Q1 (Q1 (Q1 (Q1 (Q1 (Q1 (Q1 (Q1 (Q1 (Q1 (Q1 (Q1 (Q1 (Q1 (Q1 (Q1 (Q1 (Q1 (Q1 (Q1 (Q1 (Q1 (Q1 (Q1 (Q1 (Q1 (Q1 (Q1 (Q1 (Q1 (Q1 (Q1 (Q1 (Q1 (Q1 (Q1 (Q1 (Q1 (Q1 (Q1 (Q1 (Q1 (Q1 [])))))))))))))))))))))))))))))))))))))))))))))))))))))
def py49 : List V := (Q1 (Qz (Qz (Qz (Qz (Qz (Qz (Qz (Qz (Qm [1] (Qz (Qz (Qz (Qz (Qz (Qz (Qz (Qz (Q1 [])))))))))))))))))))
def py50 : List V := (Q1 (Qm [1] (Qz (Qz (Qz (Q1 (Qm [1] (Qz (Qz (Qz (Q1 (Qz (Qm [1] (Qz (Qz (Q1 (Qz (Qm [1] (Qz (Qz (Q1 (Qz (Qz (Qm [1] (Qz (Q1 (Qz (Qz (Qm [1] (Qz (Q1 (Qz (Qz (Qz (Qm [1] (Q1 (Qz (Qz (Qz (Qm [1] (Q1 [])))))))))))))))))))))))))))))))))))))))))
def py51 : List V := (Q1 (Qz (Qz (Qz (Qm [1] (Qz (Qz (Qz (Q1 (Qz (Qz (Qz (Qm [1] (Qz (Qz (Qz (Q1 (Qz (Qz (Qz (Qm [1] (Qz (Qz (Qz (Q1 [])))))))))))))))))))))))))
def py52 : List V := (Q1 (Qm [1] (Qz (Q1 (Qm [1] (Qz (Q1 (Qm [1] (Qz (Q1 (Qm [1] (Qz (Q1 (Qm [1] (Qz (Q1 (Qm [1] (Qz (Q1 (Qz (Qm [1] (Q1 (Qz (Qm [1] (Q1 (Qz (Qm [1] (Q1 (Qz (Qm [1] (Q1 (Qz (Qm [1] (Q1 (Qz (Qm [1] (Q1 [])))))))))))))))))))))))))))))))))))))
def py53 : List V := (Q1 (Qm [1] (Q1 (Qm [1] (Q1 (Qm [1] (Q1 (Qm [1] (Q1 (Qm [1] (Q1 (Qm [1] (Q1 (Qm [1] (Q1 (Qm [1] (Q1 (Qm [1] (Q1 (Qm [1] (Q1 (Qm [1] (Q1 (Qm [1] (Q1 (Qm [1] (Q1 (Qm [1] (Q1 [])))))))))))))))))))))))))))))
def py54 : List V := (Q1 (Q1 (Q1 (Q1 (Q1 (Q1 (Q1 (Q1 (Q1 (Q1 (Q1 (Q1 (Q1 (Q1 (Q1 (Q1 (Q1 (Q1 (Q1 (Q1 (Q1 (Q1 (Q1 (Q1 (Q1 (Q1 (Q1 (Q1 (Q1 (Q1 (Q1 (Q1 (Q1 (Q1 (Q1 (Q1 (Q1 (Q1 (Q1 (Q1 (Q1 (Q1 (Q1 (Q1 (Q1 (Q1 (Q1 (Q1 (Q1 (Q1 (Q1 (Q1 (Q1 (Q1 (Q1 (Q1 (Q1 (Q1 (Q1 [])))))))))))))))))))))))))))))))))))))))))))))))))))))))))))
def py55 : List V := (Q1 (Qz (Q1 (Qz (Qz (Qz (Qm [1] (Qz (Qm [1] (Qz (Qm [1] (Qz (Qz (Qz (Q1 (Qz (Q1 [])))))))))))))))))
def phb0 : List (List V) := []
def pha0 : List V := [(.i .i64 12)]
def phv0 : V := (.tu [(.sl (.i (.o (.i (.o (.o (.i .h)))))) 0 5 5), (.i .i64 0)])
def pho0 : List (Pos × List V) := [((.i (.o (.i (.o (.o (.i .h)))))), py0)]
theorem phs0 : stat phb0 pha0 phv0 pho0 = true := by kernel_rfl
theorem phr0 : runOk (un 1 F12 pha0 (mkS phb0) fun v S => some (v, S)) phv0 pho0 = true := by kernel_rfl
theorem phm0 : FOK Tryz.prog 12 (memoF phb0 pha0 phv0 pho0) := memo_ok K12 phs0 phr0
def phb1 : List (List V) := []
def pha1 : List V := [(.i .i64 5)]
def phv1 : V := (.tu [(.sl (.i (.o (.o (.o .h)))) 0 5 5), (.i .i64 0)])
def pho1 : List (Pos × List V) := [((.i (.o (.o (.o .h)))), py1)]
theorem phs1 : stat phb1 pha1 phv1 pho1 = true := by kernel_rfl
theorem phr1 : runOk (un 1 F12 pha1 (mkS phb1) fun v S => some (v, S)) phv1 pho1 = true := by kernel_rfl
theorem phm1 : FOK Tryz.prog 12 (memoF phb1 pha1 phv1 pho1) := memo_ok K12 phs1 phr1
def phb2 : List (List V) := []
def pha2 : List V := [(.i .i64 6)]
def phv2 : V := (.tu [(.sl (.i (.o (.i (.o (.o .h))))) 0 3 3), (.i .i64 0)])
def pho2 : List (Pos × List V) := [((.i (.o (.i (.o (.o .h))))), py2)]
theorem phs2 : stat phb2 pha2 phv2 pho2 = true := by kernel_rfl
theorem phr2 : runOk (un 1 F12 pha2 (mkS phb2) fun v S => some (v, S)) phv2 pho2 = true := by kernel_rfl
theorem phm2 : FOK Tryz.prog 12 (memoF phb2 pha2 phv2 pho2) := memo_ok K12 phs2 phr2
def phb3 : List (List V) := []
def pha3 : List V := [(.i .i64 7)]
def phv3 : V := (.tu [(.sl (.i (.o (.i (.o .h)))) 0 7 7), (.i .i64 0)])
def pho3 : List (Pos × List V) := [((.i (.o (.i (.o .h)))), py3)]
theorem phs3 : stat phb3 pha3 phv3 pho3 = true := by kernel_rfl
theorem phr3 : runOk (un 1 F12 pha3 (mkS phb3) fun v S => some (v, S)) phv3 pho3 = true := by kernel_rfl
theorem phm3 : FOK Tryz.prog 12 (memoF phb3 pha3 phv3 pho3) := memo_ok K12 phs3 phr3
def phb4 : List (List V) := []
def pha4 : List V := [(.i .i64 8)]
def phv4 : V := (.tu [(.sl (.i (.o (.i (.o (.i .h))))) 0 5 5), (.i .i64 0)])
def pho4 : List (Pos × List V) := [((.i (.o (.i (.o (.i .h))))), py4)]
theorem phs4 : stat phb4 pha4 phv4 pho4 = true := by kernel_rfl
theorem phr4 : runOk (un 1 F12 pha4 (mkS phb4) fun v S => some (v, S)) phv4 pho4 = true := by kernel_rfl
theorem phm4 : FOK Tryz.prog 12 (memoF phb4 pha4 phv4 pho4) := memo_ok K12 phs4 phr4
def phb5 : List (List V) := []
def pha5 : List V := [(.i .i64 9)]
def phv5 : V := (.tu [(.sl (.i (.o (.o (.o (.o .h))))) 0 7 7), (.i .i64 0)])
def pho5 : List (Pos × List V) := [((.i (.o (.o (.o (.o .h))))), py5)]
theorem phs5 : stat phb5 pha5 phv5 pho5 = true := by kernel_rfl
theorem phr5 : runOk (un 1 F12 pha5 (mkS phb5) fun v S => some (v, S)) phv5 pho5 = true := by kernel_rfl
theorem phm5 : FOK Tryz.prog 12 (memoF phb5 pha5 phv5 pho5) := memo_ok K12 phs5 phr5
def phb6 : List (List V) := []
def pha6 : List V := [(.i .i64 10)]
def phv6 : V := (.tu [(.sl (.i (.o (.o (.i (.o .h))))) 0 5 5), (.i .i64 0)])
def pho6 : List (Pos × List V) := [((.i (.o (.o (.i (.o .h))))), py6)]
theorem phs6 : stat phb6 pha6 phv6 pho6 = true := by kernel_rfl
theorem phr6 : runOk (un 1 F12 pha6 (mkS phb6) fun v S => some (v, S)) phv6 pho6 = true := by kernel_rfl
theorem phm6 : FOK Tryz.prog 12 (memoF phb6 pha6 phv6 pho6) := memo_ok K12 phs6 phr6
def phb7 : List (List V) := []
def pha7 : List V := [(.i .i64 11)]
def phv7 : V := (.tu [(.sl (.i (.o (.i (.i .h)))) 0 11 11), (.i .i64 0)])
def pho7 : List (Pos × List V) := [((.i (.o (.i (.i .h)))), py7)]
theorem phs7 : stat phb7 pha7 phv7 pho7 = true := by kernel_rfl
theorem phr7 : runOk (un 1 F12 pha7 (mkS phb7) fun v S => some (v, S)) phv7 pho7 = true := by kernel_rfl
theorem phm7 : FOK Tryz.prog 12 (memoF phb7 pha7 phv7 pho7) := memo_ok K12 phs7 phr7
def phb8 : List (List V) := []
def pha8 : List V := [(.i .i64 13)]
def phv8 : V := (.tu [(.sl (.i (.o (.o (.o (.o .h))))) 0 13 13), (.i .i64 0)])
def pho8 : List (Pos × List V) := [((.i (.o (.o (.o (.o .h))))), py8)]
theorem phs8 : stat phb8 pha8 phv8 pho8 = true := by kernel_rfl
theorem phr8 : runOk (un 1 F12 pha8 (mkS phb8) fun v S => some (v, S)) phv8 pho8 = true := by kernel_rfl
theorem phm8 : FOK Tryz.prog 12 (memoF phb8 pha8 phv8 pho8) := memo_ok K12 phs8 phr8
def phb9 : List (List V) := []
def pha9 : List V := [(.i .i64 14)]
def phv9 : V := (.tu [(.sl (.i (.o (.i (.i (.o .h))))) 0 7 7), (.i .i64 0)])
def pho9 : List (Pos × List V) := [((.i (.o (.i (.i (.o .h))))), py9)]
theorem phs9 : stat phb9 pha9 phv9 pho9 = true := by kernel_rfl
theorem phr9 : runOk (un 1 F12 pha9 (mkS phb9) fun v S => some (v, S)) phv9 pho9 = true := by kernel_rfl
theorem phm9 : FOK Tryz.prog 12 (memoF phb9 pha9 phv9 pho9) := memo_ok K12 phs9 phr9
def phb10 : List (List V) := []
def pha10 : List V := [(.i .i64 15)]
def phv10 : V := (.tu [(.sl (.i (.o (.o (.o (.i .h))))) 0 9 9), (.i .i64 0)])
def pho10 : List (Pos × List V) := [((.i (.o (.o (.o (.i .h))))), py10)]
theorem phs10 : stat phb10 pha10 phv10 pho10 = true := by kernel_rfl
theorem phr10 : runOk (un 1 F12 pha10 (mkS phb10) fun v S => some (v, S)) phv10 pho10 = true := by kernel_rfl
theorem phm10 : FOK Tryz.prog 12 (memoF phb10 pha10 phv10 pho10) := memo_ok K12 phs10 phr10
def phb11 : List (List V) := []
def pha11 : List V := [(.i .i64 16)]
def phv11 : V := (.tu [(.sl (.i (.o (.i (.i (.o (.i .h)))))) 0 9 9), (.i .i64 0)])
def pho11 : List (Pos × List V) := [((.i (.o (.i (.i (.o (.i .h)))))), py11)]
theorem phs11 : stat phb11 pha11 phv11 pho11 = true := by kernel_rfl
theorem phr11 : runOk (un 1 F12 pha11 (mkS phb11) fun v S => some (v, S)) phv11 pho11 = true := by kernel_rfl
theorem phm11 : FOK Tryz.prog 12 (memoF phb11 pha11 phv11 pho11) := memo_ok K12 phs11 phr11
def phb12 : List (List V) := []
def pha12 : List V := [(.i .i64 17)]
def phv12 : V := (.tu [(.sl (.i (.o (.o (.i (.o .h))))) 0 17 17), (.i .i64 0)])
def pho12 : List (Pos × List V) := [((.i (.o (.o (.i (.o .h))))), py12)]
theorem phs12 : stat phb12 pha12 phv12 pho12 = true := by kernel_rfl
theorem phr12 : runOk (un 1 F12 pha12 (mkS phb12) fun v S => some (v, S)) phv12 pho12 = true := by kernel_rfl
theorem phm12 : FOK Tryz.prog 12 (memoF phb12 pha12 phv12 pho12) := memo_ok K12 phs12 phr12
def phb13 : List (List V) := []
def pha13 : List V := [(.i .i64 18)]
def phv13 : V := (.tu [(.sl (.i (.o (.o (.i (.o (.i .h)))))) 0 7 7), (.i .i64 0)])
def pho13 : List (Pos × List V) := [((.i (.o (.o (.i (.o (.i .h)))))), py13)]
theorem phs13 : stat phb13 pha13 phv13 pho13 = true := by kernel_rfl
theorem phr13 : runOk (un 1 F12 pha13 (mkS phb13) fun v S => some (v, S)) phv13 pho13 = true := by kernel_rfl
theorem phm13 : FOK Tryz.prog 12 (memoF phb13 pha13 phv13 pho13) := memo_ok K12 phs13 phr13
def phb14 : List (List V) := []
def pha14 : List V := [(.i .i64 19)]
def phv14 : V := (.tu [(.sl (.i (.o (.i (.i (.o .h))))) 0 19 19), (.i .i64 0)])
def pho14 : List (Pos × List V) := [((.i (.o (.i (.i (.o .h))))), py14)]
theorem phs14 : stat phb14 pha14 phv14 pho14 = true := by kernel_rfl
theorem phr14 : runOk (un 1 F12 pha14 (mkS phb14) fun v S => some (v, S)) phv14 pho14 = true := by kernel_rfl
theorem phm14 : FOK Tryz.prog 12 (memoF phb14 pha14 phv14 pho14) := memo_ok K12 phs14 phr14
def phb15 : List (List V) := []
def pha15 : List V := [(.i .i64 20)]
def phv15 : V := (.tu [(.sl (.i (.o (.i (.i (.o (.i .h)))))) 0 9 9), (.i .i64 0)])
def pho15 : List (Pos × List V) := [((.i (.o (.i (.i (.o (.i .h)))))), py15)]
theorem phs15 : stat phb15 pha15 phv15 pho15 = true := by kernel_rfl
theorem phr15 : runOk (un 1 F12 pha15 (mkS phb15) fun v S => some (v, S)) phv15 pho15 = true := by kernel_rfl
theorem phm15 : FOK Tryz.prog 12 (memoF phb15 pha15 phv15 pho15) := memo_ok K12 phs15 phr15
def phb16 : List (List V) := []
def pha16 : List V := [(.i .i64 21)]
def phv16 : V := (.tu [(.sl (.i (.o (.o (.i (.i .h))))) 0 13 13), (.i .i64 0)])
def pho16 : List (Pos × List V) := [((.i (.o (.o (.i (.i .h))))), py16)]
theorem phs16 : stat phb16 pha16 phv16 pho16 = true := by kernel_rfl
theorem phr16 : runOk (un 1 F12 pha16 (mkS phb16) fun v S => some (v, S)) phv16 pho16 = true := by kernel_rfl
theorem phm16 : FOK Tryz.prog 12 (memoF phb16 pha16 phv16 pho16) := memo_ok K12 phs16 phr16
def phb17 : List (List V) := []
def pha17 : List V := [(.i .i64 22)]
def phv17 : V := (.tu [(.sl (.i (.o (.i (.o (.i .h))))) 0 11 11), (.i .i64 0)])
def pho17 : List (Pos × List V) := [((.i (.o (.i (.o (.i .h))))), py17)]
theorem phs17 : stat phb17 pha17 phv17 pho17 = true := by kernel_rfl
theorem phr17 : runOk (un 1 F12 pha17 (mkS phb17) fun v S => some (v, S)) phv17 pho17 = true := by kernel_rfl
theorem phm17 : FOK Tryz.prog 12 (memoF phb17 pha17 phv17 pho17) := memo_ok K12 phs17 phr17
def phb18 : List (List V) := []
def pha18 : List V := [(.i .i64 23)]
def phv18 : V := (.tu [(.sl (.i (.o (.i (.o (.i .h))))) 0 23 23), (.i .i64 0)])
def pho18 : List (Pos × List V) := [((.i (.o (.i (.o (.i .h))))), py18)]
theorem phs18 : stat phb18 pha18 phv18 pho18 = true := by kernel_rfl
theorem phr18 : runOk (un 1 F12 pha18 (mkS phb18) fun v S => some (v, S)) phv18 pho18 = true := by kernel_rfl
theorem phm18 : FOK Tryz.prog 12 (memoF phb18 pha18 phv18 pho18) := memo_ok K12 phs18 phr18
def phb19 : List (List V) := []
def pha19 : List V := [(.i .i64 24)]
def phv19 : V := (.tu [(.sl (.i (.o (.i (.i (.i (.i (.i .h))))))) 0 9 9), (.i .i64 0)])
def pho19 : List (Pos × List V) := [((.i (.o (.i (.i (.i (.i (.i .h))))))), py19)]
theorem phs19 : stat phb19 pha19 phv19 pho19 = true := by kernel_rfl
theorem phr19 : runOk (un 1 F12 pha19 (mkS phb19) fun v S => some (v, S)) phv19 pho19 = true := by kernel_rfl
theorem phm19 : FOK Tryz.prog 12 (memoF phb19 pha19 phv19 pho19) := memo_ok K12 phs19 phr19
def phb20 : List (List V) := []
def pha20 : List V := [(.i .i64 25)]
def phv20 : V := (.tu [(.sl (.i (.o (.i (.i (.i .h))))) 0 21 21), (.i .i64 0)])
def pho20 : List (Pos × List V) := [((.i (.o (.i (.i (.i .h))))), py20)]
theorem phs20 : stat phb20 pha20 phv20 pho20 = true := by kernel_rfl
theorem phr20 : runOk (un 1 F12 pha20 (mkS phb20) fun v S => some (v, S)) phv20 pho20 = true := by kernel_rfl
theorem phm20 : FOK Tryz.prog 12 (memoF phb20 pha20 phv20 pho20) := memo_ok K12 phs20 phr20
def phb21 : List (List V) := []
def pha21 : List V := [(.i .i64 26)]
def phv21 : V := (.tu [(.sl (.i (.o (.o (.i (.i .h))))) 0 13 13), (.i .i64 0)])
def pho21 : List (Pos × List V) := [((.i (.o (.o (.i (.i .h))))), py21)]
theorem phs21 : stat phb21 pha21 phv21 pho21 = true := by kernel_rfl
theorem phr21 : runOk (un 1 F12 pha21 (mkS phb21) fun v S => some (v, S)) phv21 pho21 = true := by kernel_rfl
theorem phm21 : FOK Tryz.prog 12 (memoF phb21 pha21 phv21 pho21) := memo_ok K12 phs21 phr21
def phb22 : List (List V) := []
def pha22 : List V := [(.i .i64 27)]
def phv22 : V := (.tu [(.sl (.i (.o (.o (.o (.i (.o .h)))))) 0 19 19), (.i .i64 0)])
def pho22 : List (Pos × List V) := [((.i (.o (.o (.o (.i (.o .h)))))), py22)]
theorem phs22 : stat phb22 pha22 phv22 pho22 = true := by kernel_rfl
theorem phr22 : runOk (un 1 F12 pha22 (mkS phb22) fun v S => some (v, S)) phv22 pho22 = true := by kernel_rfl
theorem phm22 : FOK Tryz.prog 12 (memoF phb22 pha22 phv22 pho22) := memo_ok K12 phs22 phr22
def phb23 : List (List V) := []
def pha23 : List V := [(.i .i64 28)]
def phv23 : V := (.tu [(.sl (.i (.o (.i (.o (.i (.i .h)))))) 0 13 13), (.i .i64 0)])
def pho23 : List (Pos × List V) := [((.i (.o (.i (.o (.i (.i .h)))))), py23)]
theorem phs23 : stat phb23 pha23 phv23 pho23 = true := by kernel_rfl
theorem phr23 : runOk (un 1 F12 pha23 (mkS phb23) fun v S => some (v, S)) phv23 pho23 = true := by kernel_rfl
theorem phm23 : FOK Tryz.prog 12 (memoF phb23 pha23 phv23 pho23) := memo_ok K12 phs23 phr23
def phb24 : List (List V) := []
def pha24 : List V := [(.i .i64 29)]
def phv24 : V := (.tu [(.sl (.i (.o (.o (.o (.o (.o .h)))))) 0 29 29), (.i .i64 0)])
def pho24 : List (Pos × List V) := [((.i (.o (.o (.o (.o (.o .h)))))), py24)]
theorem phs24 : stat phb24 pha24 phv24 pho24 = true := by kernel_rfl
theorem phr24 : runOk (un 1 F12 pha24 (mkS phb24) fun v S => some (v, S)) phv24 pho24 = true := by kernel_rfl
theorem phm24 : FOK Tryz.prog 12 (memoF phb24 pha24 phv24 pho24) := memo_ok K12 phs24 phr24
def phb25 : List (List V) := []
def pha25 : List V := [(.i .i64 30)]
def phv25 : V := (.tu [(.sl (.i (.o (.o (.i (.o (.i (.o .h))))))) 0 9 9), (.i .i64 0)])
def pho25 : List (Pos × List V) := [((.i (.o (.o (.i (.o (.i (.o .h))))))), py25)]
theorem phs25 : stat phb25 pha25 phv25 pho25 = true := by kernel_rfl
theorem phr25 : runOk (un 1 F12 pha25 (mkS phb25) fun v S => some (v, S)) phv25 pho25 = true := by kernel_rfl
theorem phm25 : FOK Tryz.prog 12 (memoF phb25 pha25 phv25 pho25) := memo_ok K12 phs25 phr25
def phb26 : List (List V) := []
def pha26 : List V := [(.i .i64 31)]
def phv26 : V := (.tu [(.sl (.i (.o (.i (.o (.o (.o .h)))))) 0 31 31), (.i .i64 0)])
def pho26 : List (Pos × List V) := [((.i (.o (.i (.o (.o (.o .h)))))), py26)]
theorem phs26 : stat phb26 pha26 phv26 pho26 = true := by kernel_rfl
theorem phr26 : runOk (un 1 F12 pha26 (mkS phb26) fun v S => some (v, S)) phv26 pho26 = true := by kernel_rfl
theorem phm26 : FOK Tryz.prog 12 (memoF phb26 pha26 phv26 pho26) := memo_ok K12 phs26 phr26
def phb27 : List (List V) := []
def pha27 : List V := [(.i .i64 32)]
def phv27 : V := (.tu [(.sl (.i (.o (.i (.i (.i (.o (.i .h))))))) 0 17 17), (.i .i64 0)])
def pho27 : List (Pos × List V) := [((.i (.o (.i (.i (.i (.o (.i .h))))))), py27)]
theorem phs27 : stat phb27 pha27 phv27 pho27 = true := by kernel_rfl
theorem phr27 : runOk (un 1 F12 pha27 (mkS phb27) fun v S => some (v, S)) phv27 pho27 = true := by kernel_rfl
theorem phm27 : FOK Tryz.prog 12 (memoF phb27 pha27 phv27 pho27) := memo_ok K12 phs27 phr27
def phb28 : List (List V) := []
def pha28 : List V := [(.i .i64 33)]
def phv28 : V := (.tu [(.sl (.i (.o (.o (.i (.o (.o .h)))))) 0 21 21), (.i .i64 0)])
def pho28 : List (Pos × List V) := [((.i (.o (.o (.i (.o (.o .h)))))), py28)]
theorem phs28 : stat phb28 pha28 phv28 pho28 = true := by kernel_rfl
theorem phr28 : runOk (un 1 F12 pha28 (mkS phb28) fun v S => some (v, S)) phv28 pho28 = true := by kernel_rfl
theorem phm28 : FOK Tryz.prog 12 (memoF phb28 pha28 phv28 pho28) := memo_ok K12 phs28 phr28
def phb29 : List (List V) := []
def pha29 : List V := [(.i .i64 34)]
def phv29 : V := (.tu [(.sl (.i (.o (.o (.o (.o (.o .h)))))) 0 17 17), (.i .i64 0)])
def pho29 : List (Pos × List V) := [((.i (.o (.o (.o (.o (.o .h)))))), py29)]
theorem phs29 : stat phb29 pha29 phv29 pho29 = true := by kernel_rfl
theorem phr29 : runOk (un 1 F12 pha29 (mkS phb29) fun v S => some (v, S)) phv29 pho29 = true := by kernel_rfl
theorem phm29 : FOK Tryz.prog 12 (memoF phb29 pha29 phv29 pho29) := memo_ok K12 phs29 phr29
def phb30 : List (List V) := []
def pha30 : List V := [(.i .i64 35)]
def phv30 : V := (.tu [(.sl (.i (.o (.o (.o (.i (.o .h)))))) 0 25 25), (.i .i64 0)])
def pho30 : List (Pos × List V) := [((.i (.o (.o (.o (.i (.o .h)))))), py30)]
theorem phs30 : stat phb30 pha30 phv30 pho30 = true := by kernel_rfl
theorem phr30 : runOk (un 1 F12 pha30 (mkS phb30) fun v S => some (v, S)) phv30 pho30 = true := by kernel_rfl
theorem phm30 : FOK Tryz.prog 12 (memoF phb30 pha30 phv30 pho30) := memo_ok K12 phs30 phr30
def phb31 : List (List V) := []
def pha31 : List V := [(.i .i64 36)]
def phv31 : V := (.tu [(.sl (.i (.o (.i (.i (.o (.o (.i (.o .h)))))))) 0 13 13), (.i .i64 0)])
def pho31 : List (Pos × List V) := [((.i (.o (.i (.i (.o (.o (.i (.o .h)))))))), py31)]
theorem phs31 : stat phb31 pha31 phv31 pho31 = true := by kernel_rfl
theorem phr31 : runOk (un 1 F12 pha31 (mkS phb31) fun v S => some (v, S)) phv31 pho31 = true := by kernel_rfl
theorem phm31 : FOK Tryz.prog 12 (memoF phb31 pha31 phv31 pho31) := memo_ok K12 phs31 phr31
def phb32 : List (List V) := []
def pha32 : List V := [(.i .i64 37)]
def phv32 : V := (.tu [(.sl (.i (.o (.o (.o (.i (.o .h)))))) 0 37 37), (.i .i64 0)])
def pho32 : List (Pos × List V) := [((.i (.o (.o (.o (.i (.o .h)))))), py32)]
theorem phs32 : stat phb32 pha32 phv32 pho32 = true := by kernel_rfl
theorem phr32 : runOk (un 1 F12 pha32 (mkS phb32) fun v S => some (v, S)) phv32 pho32 = true := by kernel_rfl
theorem phm32 : FOK Tryz.prog 12 (memoF phb32 pha32 phv32 pho32) := memo_ok K12 phs32 phr32
def phb33 : List (List V) := []
def pha33 : List V := [(.i .i64 38)]
def phv33 : V := (.tu [(.sl (.i (.o (.i (.o (.o (.o .h)))))) 0 19 19), (.i .i64 0)])
def pho33 : List (Pos × List V) := [((.i (.o (.i (.o (.o (.o .h)))))), py33)]
theorem phs33 : stat phb33 pha33 phv33 pho33 = true := by kernel_rfl
theorem phr33 : runOk (un 1 F12 pha33 (mkS phb33) fun v S => some (v, S)) phv33 pho33 = true := by kernel_rfl
theorem phm33 : FOK Tryz.prog 12 (memoF phb33 pha33 phv33 pho33) := memo_ok K12 phs33 phr33
def phb34 : List (List V) := []
def pha34 : List V := [(.i .i64 39)]
def phv34 : V := (.tu [(.sl (.i (.o (.o (.o (.i (.o .h)))))) 0 25 25), (.i .i64 0)])
def pho34 : List (Pos × List V) := [((.i (.o (.o (.o (.i (.o .h)))))), py34)]
theorem phs34 : stat phb34 pha34 phv34 pho34 = true := by kernel_rfl
theorem phr34 : runOk (un 1 F12 pha34 (mkS phb34) fun v S => some (v, S)) phv34 pho34 = true := by kernel_rfl
theorem phm34 : FOK Tryz.prog 12 (memoF phb34 pha34 phv34 pho34) := memo_ok K12 phs34 phr34
end
end Go.AM
