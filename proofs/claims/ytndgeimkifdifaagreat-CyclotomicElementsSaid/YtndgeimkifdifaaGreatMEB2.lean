/- Cyclotomic polynomials and units, by their runs. -/
import Derived.Test.YtndgeimkifdifaaGreatMEB0
set_option maxRecDepth 1000000
set_option linter.unusedVariables false
namespace Go.AM
open Go.Proofs
noncomputable section
def ehb139 : List (List V) := []
def eha139 : List V := [(.i .i64 60)]
def ehv139 : V := (.so (.o (.o (.o (.o (.o .h))))) 0 16 16 1)
def eho139 : List (Pos × List V) := [((.o (.o (.o (.o (.o .h))))), ey125)]
theorem ehs139 : stat ehb139 eha139 ehv139 eho139 = true := by kernel_rfl
theorem ehr139 : runOk (un 1 F67b eha139 (mkS ehb139) fun v S => some (v, S)) ehv139 eho139 = true := by kernel_rfl
theorem ehm139 : FOK Tryz.prog 67 (memoF ehb139 eha139 ehv139 eho139) := memo_ok K67b ehs139 ehr139
def ehb140 : List (List V) := []
def eha140 : List V := [(.i .i64 60)]
def ehv140 : V := (.so (.o (.i (.o (.o (.o (.o (.i .h))))))) 0 17 17 3)
def eho140 : List (Pos × List V) := [((.o (.i (.o (.o (.o (.o (.i .h))))))), ey126)]
theorem ehs140 : stat ehb140 eha140 ehv140 eho140 = true := by kernel_rfl
theorem ehr140 : runOk (un 1 F17b eha140 (mkS ehb140) fun v S => some (v, S)) ehv140 eho140 = true := by kernel_rfl
theorem ehm140 : FOK Tryz.prog 17 (memoF ehb140 eha140 ehv140 eho140) := memo_ok K17b ehs140 ehr140
def ehb141 : List (List V) := []
def eha141 : List V := [(.i .i64 66)]
def ehv141 : V := (.sl (.i (.i (.i (.o (.i (.o (.o .h))))))) 0 21 21)
def eho141 : List (Pos × List V) := [((.i (.i (.i (.o (.i (.o (.o .h))))))), ey127)]
theorem ehs141 : stat ehb141 eha141 ehv141 eho141 = true := by kernel_rfl
theorem ehr141 : runOk (un 1 F66 eha141 (mkS ehb141) fun v S => some (v, S)) ehv141 eho141 = true := by kernel_rfl
theorem ehm141 : FOK Tryz.prog 66 (memoF ehb141 eha141 ehv141 eho141) := memo_ok K66 ehs141 ehr141
def ehb142 : List (List V) := []
def eha142 : List V := [(.i .i64 66)]
def ehv142 : V := (.so (.o (.o (.o (.i (.o .h))))) 0 20 20 1)
def eho142 : List (Pos × List V) := [((.o (.o (.o (.i (.o .h))))), ey128)]
theorem ehs142 : stat ehb142 eha142 ehv142 eho142 = true := by kernel_rfl
theorem ehr142 : runOk (un 1 F67b eha142 (mkS ehb142) fun v S => some (v, S)) ehv142 eho142 = true := by kernel_rfl
theorem ehm142 : FOK Tryz.prog 67 (memoF ehb142 eha142 ehv142 eho142) := memo_ok K67b ehs142 ehr142
def ehb143 : List (List V) := []
def eha143 : List V := [(.i .i64 66)]
def ehv143 : V := (.so (.o (.i (.o (.o (.i (.o (.o (.o .h)))))))) 0 21 21 3)
def eho143 : List (Pos × List V) := [((.o (.i (.o (.o (.i (.o (.o (.o .h)))))))), ey129)]
theorem ehs143 : stat ehb143 eha143 ehv143 eho143 = true := by kernel_rfl
theorem ehr143 : runOk (un 1 F17b eha143 (mkS ehb143) fun v S => some (v, S)) ehv143 eho143 = true := by kernel_rfl
theorem ehm143 : FOK Tryz.prog 17 (memoF ehb143 eha143 ehv143 eho143) := memo_ok K17b ehs143 ehr143
def ehb144 : List (List V) := []
def eha144 : List V := [(.i .i64 70)]
def ehv144 : V := (.sl (.i (.i (.i (.o (.i (.o (.o .h))))))) 0 25 25)
def eho144 : List (Pos × List V) := [((.i (.i (.i (.o (.i (.o (.o .h))))))), ey130)]
theorem ehs144 : stat ehb144 eha144 ehv144 eho144 = true := by kernel_rfl
theorem ehr144 : runOk (un 1 F66 eha144 (mkS ehb144) fun v S => some (v, S)) ehv144 eho144 = true := by kernel_rfl
theorem ehm144 : FOK Tryz.prog 66 (memoF ehb144 eha144 ehv144 eho144) := memo_ok K66 ehs144 ehr144
def ehb145 : List (List V) := []
def eha145 : List V := [(.i .i64 70)]
def ehv145 : V := (.so (.o (.o (.o (.o (.i .h))))) 0 24 24 1)
def eho145 : List (Pos × List V) := [((.o (.o (.o (.o (.i .h))))), ey131)]
theorem ehs145 : stat ehb145 eha145 ehv145 eho145 = true := by kernel_rfl
theorem ehr145 : runOk (un 1 F67b eha145 (mkS ehb145) fun v S => some (v, S)) ehv145 eho145 = true := by kernel_rfl
theorem ehm145 : FOK Tryz.prog 67 (memoF ehb145 eha145 ehv145 eho145) := memo_ok K67b ehs145 ehr145
def ehb146 : List (List V) := []
def eha146 : List V := [(.i .i64 70)]
def ehv146 : V := (.so (.o (.i (.o (.i (.o (.i (.o (.o .h)))))))) 0 25 25 3)
def eho146 : List (Pos × List V) := [((.o (.i (.o (.i (.o (.i (.o (.o .h)))))))), ey132)]
theorem ehs146 : stat ehb146 eha146 ehv146 eho146 = true := by kernel_rfl
theorem ehr146 : runOk (un 1 F17b eha146 (mkS ehb146) fun v S => some (v, S)) ehv146 eho146 = true := by kernel_rfl
theorem ehm146 : FOK Tryz.prog 17 (memoF ehb146 eha146 ehv146 eho146) := memo_ok K17b ehs146 ehr146
def ehb147 : List (List V) := []
def eha147 : List V := [(.i .i64 72)]
def ehv147 : V := (.sl (.i (.i (.o (.i (.o (.o (.o (.i (.i .h))))))))) 0 25 25)
def eho147 : List (Pos × List V) := [((.i (.i (.o (.i (.o (.o (.o (.i (.i .h))))))))), ey133)]
theorem ehs147 : stat ehb147 eha147 ehv147 eho147 = true := by kernel_rfl
theorem ehr147 : runOk (un 1 F66 eha147 (mkS ehb147) fun v S => some (v, S)) ehv147 eho147 = true := by kernel_rfl
theorem ehm147 : FOK Tryz.prog 66 (memoF ehb147 eha147 ehv147 eho147) := memo_ok K66 ehs147 ehr147
def ehb148 : List (List V) := []
def eha148 : List V := [(.i .i64 72)]
def ehv148 : V := (.so (.o (.o (.o (.o (.i .h))))) 0 24 24 1)
def eho148 : List (Pos × List V) := [((.o (.o (.o (.o (.i .h))))), ey134)]
theorem ehs148 : stat ehb148 eha148 ehv148 eho148 = true := by kernel_rfl
theorem ehr148 : runOk (un 1 F67b eha148 (mkS ehb148) fun v S => some (v, S)) ehv148 eho148 = true := by kernel_rfl
theorem ehm148 : FOK Tryz.prog 67 (memoF ehb148 eha148 ehv148 eho148) := memo_ok K67b ehs148 ehr148
def ehb149 : List (List V) := []
def eha149 : List V := [(.i .i64 72)]
def ehv149 : V := (.so (.o (.o (.i (.i (.o (.i .h)))))) 0 25 25 3)
def eho149 : List (Pos × List V) := [((.o (.o (.i (.i (.o (.i .h)))))), ey135)]
theorem ehs149 : stat ehb149 eha149 ehv149 eho149 = true := by kernel_rfl
theorem ehr149 : runOk (un 1 F17b eha149 (mkS ehb149) fun v S => some (v, S)) ehv149 eho149 = true := by kernel_rfl
theorem ehm149 : FOK Tryz.prog 17 (memoF ehb149 eha149 ehv149 eho149) := memo_ok K17b ehs149 ehr149
def ehb150 : List (List V) := []
def eha150 : List V := [(.i .i64 78)]
def ehv150 : V := (.sl (.i (.i (.i (.o (.i (.o (.o .h))))))) 0 25 25)
def eho150 : List (Pos × List V) := [((.i (.i (.i (.o (.i (.o (.o .h))))))), ey136)]
theorem ehs150 : stat ehb150 eha150 ehv150 eho150 = true := by kernel_rfl
theorem ehr150 : runOk (un 1 F66 eha150 (mkS ehb150) fun v S => some (v, S)) ehv150 eho150 = true := by kernel_rfl
theorem ehm150 : FOK Tryz.prog 66 (memoF ehb150 eha150 ehv150 eho150) := memo_ok K66 ehs150 ehr150
end
end Go.AM
