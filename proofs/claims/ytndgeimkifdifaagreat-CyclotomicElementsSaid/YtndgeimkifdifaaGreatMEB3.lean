/- Cyclotomic polynomials and units, by their runs. -/
import Derived.Test.YtndgeimkifdifaaGreatMEB0
set_option maxRecDepth 1000000
set_option linter.unusedVariables false
namespace Go.AM
open Go.Proofs
noncomputable section
def ehb151 : List (List V) := []
def eha151 : List V := [(.i .i64 78)]
def ehv151 : V := (.so (.o (.o (.o (.o (.i .h))))) 0 24 24 1)
def eho151 : List (Pos × List V) := [((.o (.o (.o (.o (.i .h))))), ey137)]
theorem ehs151 : stat ehb151 eha151 ehv151 eho151 = true := by kernel_rfl
theorem ehr151 : runOk (un 1 F67b eha151 (mkS ehb151) fun v S => some (v, S)) ehv151 eho151 = true := by kernel_rfl
theorem ehm151 : FOK Tryz.prog 67 (memoF ehb151 eha151 ehv151 eho151) := memo_ok K67b ehs151 ehr151
def ehb152 : List (List V) := []
def eha152 : List V := [(.i .i64 78)]
def ehv152 : V := (.so (.o (.i (.o (.i (.o (.i (.o (.o .h)))))))) 0 25 25 3)
def eho152 : List (Pos × List V) := [((.o (.i (.o (.i (.o (.i (.o (.o .h)))))))), ey138)]
theorem ehs152 : stat ehb152 eha152 ehv152 eho152 = true := by kernel_rfl
theorem ehr152 : runOk (un 1 F17b eha152 (mkS ehb152) fun v S => some (v, S)) ehv152 eho152 = true := by kernel_rfl
theorem ehm152 : FOK Tryz.prog 17 (memoF ehb152 eha152 ehv152 eho152) := memo_ok K17b ehs152 ehr152
def ehb153 : List (List V) := []
def eha153 : List V := [(.i .i64 84)]
def ehv153 : V := (.sl (.i (.i (.o (.i (.o (.o (.o (.o (.o .h))))))))) 0 25 25)
def eho153 : List (Pos × List V) := [((.i (.i (.o (.i (.o (.o (.o (.o (.o .h))))))))), ey139)]
theorem ehs153 : stat ehb153 eha153 ehv153 eho153 = true := by kernel_rfl
theorem ehr153 : runOk (un 1 F66 eha153 (mkS ehb153) fun v S => some (v, S)) ehv153 eho153 = true := by kernel_rfl
theorem ehm153 : FOK Tryz.prog 66 (memoF ehb153 eha153 ehv153 eho153) := memo_ok K66 ehs153 ehr153
def ehb154 : List (List V) := []
def eha154 : List V := [(.i .i64 84)]
def ehv154 : V := (.so (.o (.o (.o (.o (.i .h))))) 0 24 24 1)
def eho154 : List (Pos × List V) := [((.o (.o (.o (.o (.i .h))))), ey140)]
theorem ehs154 : stat ehb154 eha154 ehv154 eho154 = true := by kernel_rfl
theorem ehr154 : runOk (un 1 F67b eha154 (mkS ehb154) fun v S => some (v, S)) ehv154 eho154 = true := by kernel_rfl
theorem ehm154 : FOK Tryz.prog 67 (memoF ehb154 eha154 ehv154 eho154) := memo_ok K67b ehs154 ehr154
def ehb155 : List (List V) := []
def eha155 : List V := [(.i .i64 84)]
def ehv155 : V := (.so (.o (.i (.o (.i (.i (.o (.i .h))))))) 0 25 25 3)
def eho155 : List (Pos × List V) := [((.o (.i (.o (.i (.i (.o (.i .h))))))), ey141)]
theorem ehs155 : stat ehb155 eha155 ehv155 eho155 = true := by kernel_rfl
theorem ehr155 : runOk (un 1 F17b eha155 (mkS ehb155) fun v S => some (v, S)) ehv155 eho155 = true := by kernel_rfl
theorem ehm155 : FOK Tryz.prog 17 (memoF ehb155 eha155 ehv155 eho155) := memo_ok K17b ehs155 ehr155
def ehb156 : List (List V) := []
def eha156 : List V := [(.i .i64 90)]
def ehv156 : V := (.sl (.i (.i (.o (.i (.o (.o (.o (.o (.o .h))))))))) 0 25 25)
def eho156 : List (Pos × List V) := [((.i (.i (.o (.i (.o (.o (.o (.o (.o .h))))))))), ey142)]
theorem ehs156 : stat ehb156 eha156 ehv156 eho156 = true := by kernel_rfl
theorem ehr156 : runOk (un 1 F66 eha156 (mkS ehb156) fun v S => some (v, S)) ehv156 eho156 = true := by kernel_rfl
theorem ehm156 : FOK Tryz.prog 66 (memoF ehb156 eha156 ehv156 eho156) := memo_ok K66 ehs156 ehr156
def ehb157 : List (List V) := []
def eha157 : List V := [(.i .i64 90)]
def ehv157 : V := (.so (.o (.o (.o (.o (.i .h))))) 0 24 24 1)
def eho157 : List (Pos × List V) := [((.o (.o (.o (.o (.i .h))))), ey143)]
theorem ehs157 : stat ehb157 eha157 ehv157 eho157 = true := by kernel_rfl
theorem ehr157 : runOk (un 1 F67b eha157 (mkS ehb157) fun v S => some (v, S)) ehv157 eho157 = true := by kernel_rfl
theorem ehm157 : FOK Tryz.prog 67 (memoF ehb157 eha157 ehv157 eho157) := memo_ok K67b ehs157 ehr157
def ehb158 : List (List V) := []
def eha158 : List V := [(.i .i64 90)]
def ehv158 : V := (.so (.o (.i (.o (.o (.o (.o (.i .h))))))) 0 25 25 3)
def eho158 : List (Pos × List V) := [((.o (.i (.o (.o (.o (.o (.i .h))))))), ey144)]
theorem ehs158 : stat ehb158 eha158 ehv158 eho158 = true := by kernel_rfl
theorem ehr158 : runOk (un 1 F17b eha158 (mkS ehb158) fun v S => some (v, S)) ehv158 eho158 = true := by kernel_rfl
theorem ehm158 : FOK Tryz.prog 17 (memoF ehb158 eha158 ehv158 eho158) := memo_ok K17b ehs158 ehr158
end
end Go.AM
