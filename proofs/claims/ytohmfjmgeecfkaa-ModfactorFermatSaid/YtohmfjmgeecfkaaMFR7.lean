/- Runs of the law. -/
import Derived.Test.YtohmfjmgeecfkaaMFB
set_option maxRecDepth 1000000
set_option linter.unusedVariables false
namespace Go.AM
open Go.Proofs
noncomputable section
theorem frun2x6 (v0 v1 : V) : yesB (L3h v0 v1 (.i .i64 2) (.i .i64 6)) = true := by kernel_rfl
theorem frun3x1 (v0 v1 : V) : yesB (L3h v0 v1 (.i .i64 3) (.i .i64 1)) = true := by kernel_rfl
theorem frun7x2 (v0 v1 : V) : yesB (L3h v0 v1 (.i .i64 7) (.i .i64 2)) = true := by kernel_rfl
theorem frun11x1 (v0 v1 : V) : yesB (L3h v0 v1 (.i .i64 11) (.i .i64 1)) = true := by kernel_rfl
theorem frun3x4 (v0 v1 : V) : yesB (L3h v0 v1 (.i .i64 3) (.i .i64 4)) = true := by kernel_rfl
theorem frun3x5 (v0 v1 : V) : yesB (L3h v0 v1 (.i .i64 3) (.i .i64 5)) = true := by kernel_rfl
theorem frun3x6 (v0 v1 : V) : yesB (L3h v0 v1 (.i .i64 3) (.i .i64 6)) = true := by kernel_rfl
theorem frun5x3 (v0 v1 : V) : yesB (L3h v0 v1 (.i .i64 5) (.i .i64 3)) = true := by kernel_rfl
theorem frun5x4 (v0 v1 : V) : yesB (L3h v0 v1 (.i .i64 5) (.i .i64 4)) = true := by kernel_rfl
theorem frun5x5 (v0 v1 : V) : yesB (L3h v0 v1 (.i .i64 5) (.i .i64 5)) = true := by kernel_rfl
theorem frun5x6 (v0 v1 : V) : yesB (L3h v0 v1 (.i .i64 5) (.i .i64 6)) = true := by kernel_rfl
theorem frun7x3 (v0 v1 : V) : yesB (L3h v0 v1 (.i .i64 7) (.i .i64 3)) = true := by kernel_rfl
theorem frun7x4 (v0 v1 : V) : yesB (L3h v0 v1 (.i .i64 7) (.i .i64 4)) = true := by kernel_rfl
theorem frun7x5 (v0 v1 : V) : yesB (L3h v0 v1 (.i .i64 7) (.i .i64 5)) = true := by kernel_rfl
theorem frun7x6 (v0 v1 : V) : yesB (L3h v0 v1 (.i .i64 7) (.i .i64 6)) = true := by kernel_rfl
theorem frun11x2 (v0 v1 : V) : yesB (L3h v0 v1 (.i .i64 11) (.i .i64 2)) = true := by kernel_rfl
theorem frun11x3 (v0 v1 : V) : yesB (L3h v0 v1 (.i .i64 11) (.i .i64 3)) = true := by kernel_rfl
theorem frun11x4 (v0 v1 : V) : yesB (L3h v0 v1 (.i .i64 11) (.i .i64 4)) = true := by kernel_rfl
theorem frun11x5 (v0 v1 : V) : yesB (L3h v0 v1 (.i .i64 11) (.i .i64 5)) = true := by kernel_rfl
theorem frun11x6 (v0 v1 : V) : yesB (L3h v0 v1 (.i .i64 11) (.i .i64 6)) = true := by kernel_rfl
theorem frun13x2 (v0 v1 : V) : yesB (L3h v0 v1 (.i .i64 13) (.i .i64 2)) = true := by kernel_rfl
theorem frun13x3 (v0 v1 : V) : yesB (L3h v0 v1 (.i .i64 13) (.i .i64 3)) = true := by kernel_rfl
theorem frun13x4 (v0 v1 : V) : yesB (L3h v0 v1 (.i .i64 13) (.i .i64 4)) = true := by kernel_rfl
theorem frun13x5 (v0 v1 : V) : yesB (L3h v0 v1 (.i .i64 13) (.i .i64 5)) = true := by kernel_rfl
theorem frun13x6 (v0 v1 : V) : yesB (L3h v0 v1 (.i .i64 13) (.i .i64 6)) = true := by kernel_rfl
theorem frun17x2 (v0 v1 : V) : yesB (L3h v0 v1 (.i .i64 17) (.i .i64 2)) = true := by kernel_rfl
theorem frun17x3 (v0 v1 : V) : yesB (L3h v0 v1 (.i .i64 17) (.i .i64 3)) = true := by kernel_rfl
theorem frun17x4 (v0 v1 : V) : yesB (L3h v0 v1 (.i .i64 17) (.i .i64 4)) = true := by kernel_rfl
theorem frun17x5 (v0 v1 : V) : yesB (L3h v0 v1 (.i .i64 17) (.i .i64 5)) = true := by kernel_rfl
theorem frun17x6 (v0 v1 : V) : yesB (L3h v0 v1 (.i .i64 17) (.i .i64 6)) = true := by kernel_rfl
theorem frun19x2 (v0 v1 : V) : yesB (L3h v0 v1 (.i .i64 19) (.i .i64 2)) = true := by kernel_rfl
theorem frun19x3 (v0 v1 : V) : yesB (L3h v0 v1 (.i .i64 19) (.i .i64 3)) = true := by kernel_rfl
theorem frun19x4 (v0 v1 : V) : yesB (L3h v0 v1 (.i .i64 19) (.i .i64 4)) = true := by kernel_rfl
theorem frun19x5 (v0 v1 : V) : yesB (L3h v0 v1 (.i .i64 19) (.i .i64 5)) = true := by kernel_rfl
theorem frun19x6 (v0 v1 : V) : yesB (L3h v0 v1 (.i .i64 19) (.i .i64 6)) = true := by kernel_rfl
theorem frun23x2 (v0 v1 : V) : yesB (L3h v0 v1 (.i .i64 23) (.i .i64 2)) = true := by kernel_rfl
theorem frun23x3 (v0 v1 : V) : yesB (L3h v0 v1 (.i .i64 23) (.i .i64 3)) = true := by kernel_rfl
theorem frun23x4 (v0 v1 : V) : yesB (L3h v0 v1 (.i .i64 23) (.i .i64 4)) = true := by kernel_rfl
theorem frun23x5 (v0 v1 : V) : yesB (L3h v0 v1 (.i .i64 23) (.i .i64 5)) = true := by kernel_rfl
theorem frun23x6 (v0 v1 : V) : yesB (L3h v0 v1 (.i .i64 23) (.i .i64 6)) = true := by kernel_rfl
theorem frun29x2 (v0 v1 : V) : yesB (L3h v0 v1 (.i .i64 29) (.i .i64 2)) = true := by kernel_rfl
theorem frun29x3 (v0 v1 : V) : yesB (L3h v0 v1 (.i .i64 29) (.i .i64 3)) = true := by kernel_rfl
theorem frun29x4 (v0 v1 : V) : yesB (L3h v0 v1 (.i .i64 29) (.i .i64 4)) = true := by kernel_rfl
theorem frun29x5 (v0 v1 : V) : yesB (L3h v0 v1 (.i .i64 29) (.i .i64 5)) = true := by kernel_rfl
theorem frun29x6 (v0 v1 : V) : yesB (L3h v0 v1 (.i .i64 29) (.i .i64 6)) = true := by kernel_rfl
theorem frun31x2 (v0 v1 : V) : yesB (L3h v0 v1 (.i .i64 31) (.i .i64 2)) = true := by kernel_rfl
theorem frun31x3 (v0 v1 : V) : yesB (L3h v0 v1 (.i .i64 31) (.i .i64 3)) = true := by kernel_rfl
theorem frun31x4 (v0 v1 : V) : yesB (L3h v0 v1 (.i .i64 31) (.i .i64 4)) = true := by kernel_rfl
theorem frun31x5 (v0 v1 : V) : yesB (L3h v0 v1 (.i .i64 31) (.i .i64 5)) = true := by kernel_rfl
theorem frun31x6 (v0 v1 : V) : yesB (L3h v0 v1 (.i .i64 31) (.i .i64 6)) = true := by kernel_rfl
theorem frun37x2 (v0 v1 : V) : yesB (L3h v0 v1 (.i .i64 37) (.i .i64 2)) = true := by kernel_rfl
theorem frun37x3 (v0 v1 : V) : yesB (L3h v0 v1 (.i .i64 37) (.i .i64 3)) = true := by kernel_rfl
theorem frun37x4 (v0 v1 : V) : yesB (L3h v0 v1 (.i .i64 37) (.i .i64 4)) = true := by kernel_rfl
theorem frun37x5 (v0 v1 : V) : yesB (L3h v0 v1 (.i .i64 37) (.i .i64 5)) = true := by kernel_rfl
theorem frun37x6 (v0 v1 : V) : yesB (L3h v0 v1 (.i .i64 37) (.i .i64 6)) = true := by kernel_rfl
theorem frun41x2 (v0 v1 : V) : yesB (L3h v0 v1 (.i .i64 41) (.i .i64 2)) = true := by kernel_rfl
theorem frun41x3 (v0 v1 : V) : yesB (L3h v0 v1 (.i .i64 41) (.i .i64 3)) = true := by kernel_rfl
theorem frun41x4 (v0 v1 : V) : yesB (L3h v0 v1 (.i .i64 41) (.i .i64 4)) = true := by kernel_rfl
theorem frun41x5 (v0 v1 : V) : yesB (L3h v0 v1 (.i .i64 41) (.i .i64 5)) = true := by kernel_rfl
theorem frun41x6 (v0 v1 : V) : yesB (L3h v0 v1 (.i .i64 41) (.i .i64 6)) = true := by kernel_rfl
theorem frun43x2 (v0 v1 : V) : yesB (L3h v0 v1 (.i .i64 43) (.i .i64 2)) = true := by kernel_rfl
theorem frun43x3 (v0 v1 : V) : yesB (L3h v0 v1 (.i .i64 43) (.i .i64 3)) = true := by kernel_rfl
theorem frun43x4 (v0 v1 : V) : yesB (L3h v0 v1 (.i .i64 43) (.i .i64 4)) = true := by kernel_rfl
theorem frun43x5 (v0 v1 : V) : yesB (L3h v0 v1 (.i .i64 43) (.i .i64 5)) = true := by kernel_rfl
theorem frun43x6 (v0 v1 : V) : yesB (L3h v0 v1 (.i .i64 43) (.i .i64 6)) = true := by kernel_rfl
theorem frun47x2 (v0 v1 : V) : yesB (L3h v0 v1 (.i .i64 47) (.i .i64 2)) = true := by kernel_rfl
theorem frun47x3 (v0 v1 : V) : yesB (L3h v0 v1 (.i .i64 47) (.i .i64 3)) = true := by kernel_rfl
theorem frun47x4 (v0 v1 : V) : yesB (L3h v0 v1 (.i .i64 47) (.i .i64 4)) = true := by kernel_rfl
theorem frun47x5 (v0 v1 : V) : yesB (L3h v0 v1 (.i .i64 47) (.i .i64 5)) = true := by kernel_rfl
theorem frun47x6 (v0 v1 : V) : yesB (L3h v0 v1 (.i .i64 47) (.i .i64 6)) = true := by kernel_rfl
theorem frun53x2 (v0 v1 : V) : yesB (L3h v0 v1 (.i .i64 53) (.i .i64 2)) = true := by kernel_rfl
theorem frun53x3 (v0 v1 : V) : yesB (L3h v0 v1 (.i .i64 53) (.i .i64 3)) = true := by kernel_rfl
theorem frun53x4 (v0 v1 : V) : yesB (L3h v0 v1 (.i .i64 53) (.i .i64 4)) = true := by kernel_rfl
theorem frun53x5 (v0 v1 : V) : yesB (L3h v0 v1 (.i .i64 53) (.i .i64 5)) = true := by kernel_rfl
theorem frun53x6 (v0 v1 : V) : yesB (L3h v0 v1 (.i .i64 53) (.i .i64 6)) = true := by kernel_rfl
theorem frun59x2 (v0 v1 : V) : yesB (L3h v0 v1 (.i .i64 59) (.i .i64 2)) = true := by kernel_rfl
theorem frun59x3 (v0 v1 : V) : yesB (L3h v0 v1 (.i .i64 59) (.i .i64 3)) = true := by kernel_rfl
theorem frun59x4 (v0 v1 : V) : yesB (L3h v0 v1 (.i .i64 59) (.i .i64 4)) = true := by kernel_rfl
theorem frun59x5 (v0 v1 : V) : yesB (L3h v0 v1 (.i .i64 59) (.i .i64 5)) = true := by kernel_rfl
theorem frun59x6 (v0 v1 : V) : yesB (L3h v0 v1 (.i .i64 59) (.i .i64 6)) = true := by kernel_rfl
theorem frun61x2 (v0 v1 : V) : yesB (L3h v0 v1 (.i .i64 61) (.i .i64 2)) = true := by kernel_rfl
theorem frun61x3 (v0 v1 : V) : yesB (L3h v0 v1 (.i .i64 61) (.i .i64 3)) = true := by kernel_rfl
theorem frun61x4 (v0 v1 : V) : yesB (L3h v0 v1 (.i .i64 61) (.i .i64 4)) = true := by kernel_rfl
theorem frun61x5 (v0 v1 : V) : yesB (L3h v0 v1 (.i .i64 61) (.i .i64 5)) = true := by kernel_rfl
theorem frun61x6 (v0 v1 : V) : yesB (L3h v0 v1 (.i .i64 61) (.i .i64 6)) = true := by kernel_rfl
theorem fno0 (v0 v1 k : V) : yesB (L3h v0 v1 (.i .i64 0) k) = true := by kernel_rfl
theorem fno1 (v0 v1 k : V) : yesB (L3h v0 v1 (.i .i64 1) k) = true := by kernel_rfl
theorem fno4 (v0 v1 k : V) : yesB (L3h v0 v1 (.i .i64 4) k) = true := by kernel_rfl
theorem fno6 (v0 v1 k : V) : yesB (L3h v0 v1 (.i .i64 6) k) = true := by kernel_rfl
theorem fno8 (v0 v1 k : V) : yesB (L3h v0 v1 (.i .i64 8) k) = true := by kernel_rfl
theorem fno9 (v0 v1 k : V) : yesB (L3h v0 v1 (.i .i64 9) k) = true := by kernel_rfl
theorem fno10 (v0 v1 k : V) : yesB (L3h v0 v1 (.i .i64 10) k) = true := by kernel_rfl
theorem fno12 (v0 v1 k : V) : yesB (L3h v0 v1 (.i .i64 12) k) = true := by kernel_rfl
theorem fno14 (v0 v1 k : V) : yesB (L3h v0 v1 (.i .i64 14) k) = true := by kernel_rfl
theorem fno15 (v0 v1 k : V) : yesB (L3h v0 v1 (.i .i64 15) k) = true := by kernel_rfl
theorem fno16 (v0 v1 k : V) : yesB (L3h v0 v1 (.i .i64 16) k) = true := by kernel_rfl
theorem fno18 (v0 v1 k : V) : yesB (L3h v0 v1 (.i .i64 18) k) = true := by kernel_rfl
theorem fno20 (v0 v1 k : V) : yesB (L3h v0 v1 (.i .i64 20) k) = true := by kernel_rfl
theorem fno21 (v0 v1 k : V) : yesB (L3h v0 v1 (.i .i64 21) k) = true := by kernel_rfl
theorem fno22 (v0 v1 k : V) : yesB (L3h v0 v1 (.i .i64 22) k) = true := by kernel_rfl
theorem fno24 (v0 v1 k : V) : yesB (L3h v0 v1 (.i .i64 24) k) = true := by kernel_rfl
theorem fno25 (v0 v1 k : V) : yesB (L3h v0 v1 (.i .i64 25) k) = true := by kernel_rfl
theorem fno26 (v0 v1 k : V) : yesB (L3h v0 v1 (.i .i64 26) k) = true := by kernel_rfl
theorem fno27 (v0 v1 k : V) : yesB (L3h v0 v1 (.i .i64 27) k) = true := by kernel_rfl
theorem fno28 (v0 v1 k : V) : yesB (L3h v0 v1 (.i .i64 28) k) = true := by kernel_rfl
theorem fno30 (v0 v1 k : V) : yesB (L3h v0 v1 (.i .i64 30) k) = true := by kernel_rfl
theorem fno32 (v0 v1 k : V) : yesB (L3h v0 v1 (.i .i64 32) k) = true := by kernel_rfl
theorem fno33 (v0 v1 k : V) : yesB (L3h v0 v1 (.i .i64 33) k) = true := by kernel_rfl
theorem fno34 (v0 v1 k : V) : yesB (L3h v0 v1 (.i .i64 34) k) = true := by kernel_rfl
theorem fno35 (v0 v1 k : V) : yesB (L3h v0 v1 (.i .i64 35) k) = true := by kernel_rfl
theorem fno36 (v0 v1 k : V) : yesB (L3h v0 v1 (.i .i64 36) k) = true := by kernel_rfl
theorem fno38 (v0 v1 k : V) : yesB (L3h v0 v1 (.i .i64 38) k) = true := by kernel_rfl
theorem fno39 (v0 v1 k : V) : yesB (L3h v0 v1 (.i .i64 39) k) = true := by kernel_rfl
theorem fno40 (v0 v1 k : V) : yesB (L3h v0 v1 (.i .i64 40) k) = true := by kernel_rfl
theorem fno42 (v0 v1 k : V) : yesB (L3h v0 v1 (.i .i64 42) k) = true := by kernel_rfl
theorem fno44 (v0 v1 k : V) : yesB (L3h v0 v1 (.i .i64 44) k) = true := by kernel_rfl
theorem fno45 (v0 v1 k : V) : yesB (L3h v0 v1 (.i .i64 45) k) = true := by kernel_rfl
theorem fno46 (v0 v1 k : V) : yesB (L3h v0 v1 (.i .i64 46) k) = true := by kernel_rfl
theorem fno48 (v0 v1 k : V) : yesB (L3h v0 v1 (.i .i64 48) k) = true := by kernel_rfl
theorem fno49 (v0 v1 k : V) : yesB (L3h v0 v1 (.i .i64 49) k) = true := by kernel_rfl
theorem fno50 (v0 v1 k : V) : yesB (L3h v0 v1 (.i .i64 50) k) = true := by kernel_rfl
theorem fno51 (v0 v1 k : V) : yesB (L3h v0 v1 (.i .i64 51) k) = true := by kernel_rfl
theorem fno52 (v0 v1 k : V) : yesB (L3h v0 v1 (.i .i64 52) k) = true := by kernel_rfl
theorem fno54 (v0 v1 k : V) : yesB (L3h v0 v1 (.i .i64 54) k) = true := by kernel_rfl
theorem fno55 (v0 v1 k : V) : yesB (L3h v0 v1 (.i .i64 55) k) = true := by kernel_rfl
theorem fno56 (v0 v1 k : V) : yesB (L3h v0 v1 (.i .i64 56) k) = true := by kernel_rfl
theorem fno57 (v0 v1 k : V) : yesB (L3h v0 v1 (.i .i64 57) k) = true := by kernel_rfl
theorem fno58 (v0 v1 k : V) : yesB (L3h v0 v1 (.i .i64 58) k) = true := by kernel_rfl
theorem fno60 (v0 v1 k : V) : yesB (L3h v0 v1 (.i .i64 60) k) = true := by kernel_rfl
end
end Go.AM
