/- Cyclotomic polynomials, by their runs. -/
import Derived.Test.YtndgeimkifdifaaGreatMPA0
set_option maxRecDepth 1000000
set_option linter.unusedVariables false
namespace Go.AM
open Go.Proofs
noncomputable section
def phb35 : List (List V) := []
def pha35 : List V := [(.i .i64 40)]
def phv35 : V := (.tu [(.sl (.i (.o (.i (.i (.o (.o (.o (.o .h)))))))) 0 17 17), (.i .i64 0)])
def pho35 : List (Pos × List V) := [((.i (.o (.i (.i (.o (.o (.o (.o .h)))))))), py35)]
theorem phs35 : stat phb35 pha35 phv35 pho35 = true := by kernel_rfl
theorem phr35 : runOk (un 1 F12 pha35 (mkS phb35) fun v S => some (v, S)) phv35 pho35 = true := by kernel_rfl
theorem phm35 : FOK Tryz.prog 12 (memoF phb35 pha35 phv35 pho35) := memo_ok K12 phs35 phr35
def phb36 : List (List V) := []
def pha36 : List V := [(.i .i64 41)]
def phv36 : V := (.tu [(.sl (.i (.o (.o (.i (.i (.o .h)))))) 0 41 41), (.i .i64 0)])
def pho36 : List (Pos × List V) := [((.i (.o (.o (.i (.i (.o .h)))))), py36)]
theorem phs36 : stat phb36 pha36 phv36 pho36 = true := by kernel_rfl
theorem phr36 : runOk (un 1 F12 pha36 (mkS phb36) fun v S => some (v, S)) phv36 pho36 = true := by kernel_rfl
theorem phm36 : FOK Tryz.prog 12 (memoF phb36 pha36 phv36 pho36) := memo_ok K12 phs36 phr36
def phb37 : List (List V) := []
def pha37 : List V := [(.i .i64 42)]
def phv37 : V := (.tu [(.sl (.i (.o (.o (.o (.i (.i (.o .h))))))) 0 13 13), (.i .i64 0)])
def pho37 : List (Pos × List V) := [((.i (.o (.o (.o (.i (.i (.o .h))))))), py37)]
theorem phs37 : stat phb37 pha37 phv37 pho37 = true := by kernel_rfl
theorem phr37 : runOk (un 1 F12 pha37 (mkS phb37) fun v S => some (v, S)) phv37 pho37 = true := by kernel_rfl
theorem phm37 : FOK Tryz.prog 12 (memoF phb37 pha37 phv37 pho37) := memo_ok K12 phs37 phr37
def phb38 : List (List V) := []
def pha38 : List V := [(.i .i64 43)]
def phv38 : V := (.tu [(.sl (.i (.o (.i (.i (.i (.o .h)))))) 0 43 43), (.i .i64 0)])
def pho38 : List (Pos × List V) := [((.i (.o (.i (.i (.i (.o .h)))))), py38)]
theorem phs38 : stat phb38 pha38 phv38 pho38 = true := by kernel_rfl
theorem phr38 : runOk (un 1 F12 pha38 (mkS phb38) fun v S => some (v, S)) phv38 pho38 = true := by kernel_rfl
theorem phm38 : FOK Tryz.prog 12 (memoF phb38 pha38 phv38 pho38) := memo_ok K12 phs38 phr38
def phb39 : List (List V) := []
def pha39 : List V := [(.i .i64 44)]
def phv39 : V := (.tu [(.sl (.i (.o (.i (.o (.o (.o (.o .h))))))) 0 21 21), (.i .i64 0)])
def pho39 : List (Pos × List V) := [((.i (.o (.i (.o (.o (.o (.o .h))))))), py39)]
theorem phs39 : stat phb39 pha39 phv39 pho39 = true := by kernel_rfl
theorem phr39 : runOk (un 1 F12 pha39 (mkS phb39) fun v S => some (v, S)) phv39 pho39 = true := by kernel_rfl
theorem phm39 : FOK Tryz.prog 12 (memoF phb39 pha39 phv39 pho39) := memo_ok K12 phs39 phr39
def phb40 : List (List V) := []
def pha40 : List V := [(.i .i64 45)]
def phv40 : V := (.tu [(.sl (.i (.o (.i (.i (.o (.o (.o .h))))))) 0 25 25), (.i .i64 0)])
def pho40 : List (Pos × List V) := [((.i (.o (.i (.i (.o (.o (.o .h))))))), py40)]
theorem phs40 : stat phb40 pha40 phv40 pho40 = true := by kernel_rfl
theorem phr40 : runOk (un 1 F12 pha40 (mkS phb40) fun v S => some (v, S)) phv40 pho40 = true := by kernel_rfl
theorem phm40 : FOK Tryz.prog 12 (memoF phb40 pha40 phv40 pho40) := memo_ok K12 phs40 phr40
def phb41 : List (List V) := []
def pha41 : List V := [(.i .i64 46)]
def phv41 : V := (.tu [(.sl (.i (.o (.i (.i (.o (.o .h)))))) 0 23 23), (.i .i64 0)])
def pho41 : List (Pos × List V) := [((.i (.o (.i (.i (.o (.o .h)))))), py41)]
theorem phs41 : stat phb41 pha41 phv41 pho41 = true := by kernel_rfl
theorem phr41 : runOk (un 1 F12 pha41 (mkS phb41) fun v S => some (v, S)) phv41 pho41 = true := by kernel_rfl
theorem phm41 : FOK Tryz.prog 12 (memoF phb41 pha41 phv41 pho41) := memo_ok K12 phs41 phr41
def phb42 : List (List V) := []
def pha42 : List V := [(.i .i64 47)]
def phv42 : V := (.tu [(.sl (.i (.o (.i (.o (.o (.i .h)))))) 0 47 47), (.i .i64 0)])
def pho42 : List (Pos × List V) := [((.i (.o (.i (.o (.o (.i .h)))))), py42)]
theorem phs42 : stat phb42 pha42 phv42 pho42 = true := by kernel_rfl
theorem phr42 : runOk (un 1 F12 pha42 (mkS phb42) fun v S => some (v, S)) phv42 pho42 = true := by kernel_rfl
theorem phm42 : FOK Tryz.prog 12 (memoF phb42 pha42 phv42 pho42) := memo_ok K12 phs42 phr42
def phb43 : List (List V) := []
def pha43 : List V := [(.i .i64 48)]
def phv43 : V := (.tu [(.sl (.i (.o (.i (.i (.i (.o (.i (.o (.o .h))))))))) 0 17 17), (.i .i64 0)])
def pho43 : List (Pos × List V) := [((.i (.o (.i (.i (.i (.o (.i (.o (.o .h))))))))), py43)]
theorem phs43 : stat phb43 pha43 phv43 pho43 = true := by kernel_rfl
theorem phr43 : runOk (un 1 F12 pha43 (mkS phb43) fun v S => some (v, S)) phv43 pho43 = true := by kernel_rfl
theorem phm43 : FOK Tryz.prog 12 (memoF phb43 pha43 phv43 pho43) := memo_ok K12 phs43 phr43
def phb44 : List (List V) := []
def pha44 : List V := [(.i .i64 49)]
def phv44 : V := (.tu [(.sl (.i (.o (.o (.i (.o (.i .h)))))) 0 43 43), (.i .i64 0)])
def pho44 : List (Pos × List V) := [((.i (.o (.o (.i (.o (.i .h)))))), py44)]
theorem phs44 : stat phb44 pha44 phv44 pho44 = true := by kernel_rfl
theorem phr44 : runOk (un 1 F12 pha44 (mkS phb44) fun v S => some (v, S)) phv44 pho44 = true := by kernel_rfl
theorem phm44 : FOK Tryz.prog 12 (memoF phb44 pha44 phv44 pho44) := memo_ok K12 phs44 phr44
def phb45 : List (List V) := []
def pha45 : List V := [(.i .i64 50)]
def phv45 : V := (.tu [(.sl (.i (.o (.i (.o (.o (.o (.o .h))))))) 0 21 21), (.i .i64 0)])
def pho45 : List (Pos × List V) := [((.i (.o (.i (.o (.o (.o (.o .h))))))), py45)]
theorem phs45 : stat phb45 pha45 phv45 pho45 = true := by kernel_rfl
theorem phr45 : runOk (un 1 F12 pha45 (mkS phb45) fun v S => some (v, S)) phv45 pho45 = true := by kernel_rfl
theorem phm45 : FOK Tryz.prog 12 (memoF phb45 pha45 phv45 pho45) := memo_ok K12 phs45 phr45
def phb46 : List (List V) := []
def pha46 : List V := [(.i .i64 51)]
def phv46 : V := (.tu [(.sl (.i (.o (.o (.o (.o (.i .h)))))) 0 33 33), (.i .i64 0)])
def pho46 : List (Pos × List V) := [((.i (.o (.o (.o (.o (.i .h)))))), py46)]
theorem phs46 : stat phb46 pha46 phv46 pho46 = true := by kernel_rfl
theorem phr46 : runOk (un 1 F12 pha46 (mkS phb46) fun v S => some (v, S)) phv46 pho46 = true := by kernel_rfl
theorem phm46 : FOK Tryz.prog 12 (memoF phb46 pha46 phv46 pho46) := memo_ok K12 phs46 phr46
def phb47 : List (List V) := []
def pha47 : List V := [(.i .i64 52)]
def phv47 : V := (.tu [(.sl (.i (.o (.i (.i (.o (.o (.o .h))))))) 0 25 25), (.i .i64 0)])
def pho47 : List (Pos × List V) := [((.i (.o (.i (.i (.o (.o (.o .h))))))), py47)]
theorem phs47 : stat phb47 pha47 phv47 pho47 = true := by kernel_rfl
theorem phr47 : runOk (un 1 F12 pha47 (mkS phb47) fun v S => some (v, S)) phv47 pho47 = true := by kernel_rfl
theorem phm47 : FOK Tryz.prog 12 (memoF phb47 pha47 phv47 pho47) := memo_ok K12 phs47 phr47
end
end Go.AM
