/- Runs of the law. -/
import Derived.Test.YtndgeimkifdifaaGreatMQC
set_option maxRecDepth 1000000
set_option linter.unusedVariables false
namespace Go.AM
open Go.Proofs
noncomputable section
theorem qrun2x2 (v0 : V) : yesB (L11h v0 (.i .u8 2) (.i .i64 2)) = true := by kernel_rfl
theorem qrun3x3 (v0 : V) : yesB (L11h v0 (.i .u8 3) (.i .i64 3)) = true := by kernel_rfl
theorem qrun4x2 (v0 : V) : yesB (L11h v0 (.i .u8 2) (.i .i64 4)) = true := by kernel_rfl
theorem qrun5x5 (v0 : V) : yesB (L11h v0 (.i .u8 5) (.i .i64 5)) = true := by kernel_rfl
theorem qrun6x2 (v0 : V) : yesB (L11h v0 (.i .u8 2) (.i .i64 6)) = true := by kernel_rfl
theorem qrun6x3 (v0 : V) : yesB (L11h v0 (.i .u8 3) (.i .i64 6)) = true := by kernel_rfl
theorem qrun7x7 (v0 : V) : yesB (L11h v0 (.i .u8 7) (.i .i64 7)) = true := by kernel_rfl
theorem qrun8x2 (v0 : V) : yesB (L11h v0 (.i .u8 2) (.i .i64 8)) = true := by kernel_rfl
theorem qrun9x3 (v0 : V) : yesB (L11h v0 (.i .u8 3) (.i .i64 9)) = true := by kernel_rfl
theorem qrun10x2 (v0 : V) : yesB (L11h v0 (.i .u8 2) (.i .i64 10)) = true := by kernel_rfl
theorem qrun10x5 (v0 : V) : yesB (L11h v0 (.i .u8 5) (.i .i64 10)) = true := by kernel_rfl
theorem qrun11x11 (v0 : V) : yesB (L11h v0 (.i .u8 11) (.i .i64 11)) = true := by kernel_rfl
theorem qrun12x2 (v0 : V) : yesB (L11h v0 (.i .u8 2) (.i .i64 12)) = true := by kernel_rfl
theorem qrun12x3 (v0 : V) : yesB (L11h v0 (.i .u8 3) (.i .i64 12)) = true := by kernel_rfl
theorem qrun13x13 (v0 : V) : yesB (L11h v0 (.i .u8 13) (.i .i64 13)) = true := by kernel_rfl
theorem qrun14x2 (v0 : V) : yesB (L11h v0 (.i .u8 2) (.i .i64 14)) = true := by kernel_rfl
theorem qrun14x7 (v0 : V) : yesB (L11h v0 (.i .u8 7) (.i .i64 14)) = true := by kernel_rfl
theorem qrun15x3 (v0 : V) : yesB (L11h v0 (.i .u8 3) (.i .i64 15)) = true := by kernel_rfl
theorem qrun15x5 (v0 : V) : yesB (L11h v0 (.i .u8 5) (.i .i64 15)) = true := by kernel_rfl
theorem qrun16x2 (v0 : V) : yesB (L11h v0 (.i .u8 2) (.i .i64 16)) = true := by kernel_rfl
theorem qrun17x17 (v0 : V) : yesB (L11h v0 (.i .u8 17) (.i .i64 17)) = true := by kernel_rfl
theorem qrun18x2 (v0 : V) : yesB (L11h v0 (.i .u8 2) (.i .i64 18)) = true := by kernel_rfl
theorem qrun18x3 (v0 : V) : yesB (L11h v0 (.i .u8 3) (.i .i64 18)) = true := by kernel_rfl
theorem qrun19x19 (v0 : V) : yesB (L11h v0 (.i .u8 19) (.i .i64 19)) = true := by kernel_rfl
theorem qrun20x2 (v0 : V) : yesB (L11h v0 (.i .u8 2) (.i .i64 20)) = true := by kernel_rfl
theorem qrun20x5 (v0 : V) : yesB (L11h v0 (.i .u8 5) (.i .i64 20)) = true := by kernel_rfl
theorem qrun21x3 (v0 : V) : yesB (L11h v0 (.i .u8 3) (.i .i64 21)) = true := by kernel_rfl
theorem qrun21x7 (v0 : V) : yesB (L11h v0 (.i .u8 7) (.i .i64 21)) = true := by kernel_rfl
theorem qrun22x2 (v0 : V) : yesB (L11h v0 (.i .u8 2) (.i .i64 22)) = true := by kernel_rfl
theorem qrun22x11 (v0 : V) : yesB (L11h v0 (.i .u8 11) (.i .i64 22)) = true := by kernel_rfl
theorem qrun23x23 (v0 : V) : yesB (L11h v0 (.i .u8 23) (.i .i64 23)) = true := by kernel_rfl
theorem qrun24x2 (v0 : V) : yesB (L11h v0 (.i .u8 2) (.i .i64 24)) = true := by kernel_rfl
theorem qrun24x3 (v0 : V) : yesB (L11h v0 (.i .u8 3) (.i .i64 24)) = true := by kernel_rfl
theorem qrun25x5 (v0 : V) : yesB (L11h v0 (.i .u8 5) (.i .i64 25)) = true := by kernel_rfl
theorem qrun26x2 (v0 : V) : yesB (L11h v0 (.i .u8 2) (.i .i64 26)) = true := by kernel_rfl
theorem qrun26x13 (v0 : V) : yesB (L11h v0 (.i .u8 13) (.i .i64 26)) = true := by kernel_rfl
theorem qrun27x3 (v0 : V) : yesB (L11h v0 (.i .u8 3) (.i .i64 27)) = true := by kernel_rfl
theorem qrun28x2 (v0 : V) : yesB (L11h v0 (.i .u8 2) (.i .i64 28)) = true := by kernel_rfl
theorem qrun28x7 (v0 : V) : yesB (L11h v0 (.i .u8 7) (.i .i64 28)) = true := by kernel_rfl
theorem qrun29x29 (v0 : V) : yesB (L11h v0 (.i .u8 29) (.i .i64 29)) = true := by kernel_rfl
theorem qrun30x2 (v0 : V) : yesB (L11h v0 (.i .u8 2) (.i .i64 30)) = true := by kernel_rfl
theorem qrun30x3 (v0 : V) : yesB (L11h v0 (.i .u8 3) (.i .i64 30)) = true := by kernel_rfl
theorem qrun30x5 (v0 : V) : yesB (L11h v0 (.i .u8 5) (.i .i64 30)) = true := by kernel_rfl
theorem qno0 (v0 n : V) : yesB (L11h v0 (.i .u8 0) n) = true := by kernel_rfl
theorem qno1 (v0 n : V) : yesB (L11h v0 (.i .u8 1) n) = true := by kernel_rfl
theorem qno4 (v0 n : V) : yesB (L11h v0 (.i .u8 4) n) = true := by kernel_rfl
theorem qno6 (v0 n : V) : yesB (L11h v0 (.i .u8 6) n) = true := by kernel_rfl
theorem qno8 (v0 n : V) : yesB (L11h v0 (.i .u8 8) n) = true := by kernel_rfl
theorem qno9 (v0 n : V) : yesB (L11h v0 (.i .u8 9) n) = true := by kernel_rfl
theorem qno10 (v0 n : V) : yesB (L11h v0 (.i .u8 10) n) = true := by kernel_rfl
theorem qno12 (v0 n : V) : yesB (L11h v0 (.i .u8 12) n) = true := by kernel_rfl
theorem qno14 (v0 n : V) : yesB (L11h v0 (.i .u8 14) n) = true := by kernel_rfl
theorem qno15 (v0 n : V) : yesB (L11h v0 (.i .u8 15) n) = true := by kernel_rfl
theorem qno16 (v0 n : V) : yesB (L11h v0 (.i .u8 16) n) = true := by kernel_rfl
theorem qno18 (v0 n : V) : yesB (L11h v0 (.i .u8 18) n) = true := by kernel_rfl
theorem qno20 (v0 n : V) : yesB (L11h v0 (.i .u8 20) n) = true := by kernel_rfl
theorem qno21 (v0 n : V) : yesB (L11h v0 (.i .u8 21) n) = true := by kernel_rfl
theorem qno22 (v0 n : V) : yesB (L11h v0 (.i .u8 22) n) = true := by kernel_rfl
theorem qno24 (v0 n : V) : yesB (L11h v0 (.i .u8 24) n) = true := by kernel_rfl
theorem qno25 (v0 n : V) : yesB (L11h v0 (.i .u8 25) n) = true := by kernel_rfl
theorem qno26 (v0 n : V) : yesB (L11h v0 (.i .u8 26) n) = true := by kernel_rfl
theorem qno27 (v0 n : V) : yesB (L11h v0 (.i .u8 27) n) = true := by kernel_rfl
theorem qno28 (v0 n : V) : yesB (L11h v0 (.i .u8 28) n) = true := by kernel_rfl
theorem qno30 (v0 n : V) : yesB (L11h v0 (.i .u8 30) n) = true := by kernel_rfl
theorem qno32 (v0 n : V) : yesB (L11h v0 (.i .u8 32) n) = true := by kernel_rfl
theorem qno33 (v0 n : V) : yesB (L11h v0 (.i .u8 33) n) = true := by kernel_rfl
theorem qno34 (v0 n : V) : yesB (L11h v0 (.i .u8 34) n) = true := by kernel_rfl
theorem qno35 (v0 n : V) : yesB (L11h v0 (.i .u8 35) n) = true := by kernel_rfl
theorem qno36 (v0 n : V) : yesB (L11h v0 (.i .u8 36) n) = true := by kernel_rfl
theorem qno38 (v0 n : V) : yesB (L11h v0 (.i .u8 38) n) = true := by kernel_rfl
theorem qno39 (v0 n : V) : yesB (L11h v0 (.i .u8 39) n) = true := by kernel_rfl
theorem qno40 (v0 n : V) : yesB (L11h v0 (.i .u8 40) n) = true := by kernel_rfl
theorem qno42 (v0 n : V) : yesB (L11h v0 (.i .u8 42) n) = true := by kernel_rfl
theorem qno44 (v0 n : V) : yesB (L11h v0 (.i .u8 44) n) = true := by kernel_rfl
theorem qno45 (v0 n : V) : yesB (L11h v0 (.i .u8 45) n) = true := by kernel_rfl
theorem qno46 (v0 n : V) : yesB (L11h v0 (.i .u8 46) n) = true := by kernel_rfl
theorem qno48 (v0 n : V) : yesB (L11h v0 (.i .u8 48) n) = true := by kernel_rfl
theorem qno49 (v0 n : V) : yesB (L11h v0 (.i .u8 49) n) = true := by kernel_rfl
theorem qno50 (v0 n : V) : yesB (L11h v0 (.i .u8 50) n) = true := by kernel_rfl
theorem qno51 (v0 n : V) : yesB (L11h v0 (.i .u8 51) n) = true := by kernel_rfl
theorem qno52 (v0 n : V) : yesB (L11h v0 (.i .u8 52) n) = true := by kernel_rfl
theorem qno54 (v0 n : V) : yesB (L11h v0 (.i .u8 54) n) = true := by kernel_rfl
theorem qno55 (v0 n : V) : yesB (L11h v0 (.i .u8 55) n) = true := by kernel_rfl
theorem qno56 (v0 n : V) : yesB (L11h v0 (.i .u8 56) n) = true := by kernel_rfl
theorem qno57 (v0 n : V) : yesB (L11h v0 (.i .u8 57) n) = true := by kernel_rfl
theorem qno58 (v0 n : V) : yesB (L11h v0 (.i .u8 58) n) = true := by kernel_rfl
theorem qno60 (v0 n : V) : yesB (L11h v0 (.i .u8 60) n) = true := by kernel_rfl
theorem qno62 (v0 n : V) : yesB (L11h v0 (.i .u8 62) n) = true := by kernel_rfl
theorem qno63 (v0 n : V) : yesB (L11h v0 (.i .u8 63) n) = true := by kernel_rfl
theorem qno64 (v0 n : V) : yesB (L11h v0 (.i .u8 64) n) = true := by kernel_rfl
theorem qno65 (v0 n : V) : yesB (L11h v0 (.i .u8 65) n) = true := by kernel_rfl
theorem qno66 (v0 n : V) : yesB (L11h v0 (.i .u8 66) n) = true := by kernel_rfl
theorem qno68 (v0 n : V) : yesB (L11h v0 (.i .u8 68) n) = true := by kernel_rfl
theorem qno69 (v0 n : V) : yesB (L11h v0 (.i .u8 69) n) = true := by kernel_rfl
theorem qno70 (v0 n : V) : yesB (L11h v0 (.i .u8 70) n) = true := by kernel_rfl
theorem qno72 (v0 n : V) : yesB (L11h v0 (.i .u8 72) n) = true := by kernel_rfl
theorem qno74 (v0 n : V) : yesB (L11h v0 (.i .u8 74) n) = true := by kernel_rfl
theorem qno75 (v0 n : V) : yesB (L11h v0 (.i .u8 75) n) = true := by kernel_rfl
theorem qno76 (v0 n : V) : yesB (L11h v0 (.i .u8 76) n) = true := by kernel_rfl
theorem qno77 (v0 n : V) : yesB (L11h v0 (.i .u8 77) n) = true := by kernel_rfl
theorem qno78 (v0 n : V) : yesB (L11h v0 (.i .u8 78) n) = true := by kernel_rfl
theorem qno80 (v0 n : V) : yesB (L11h v0 (.i .u8 80) n) = true := by kernel_rfl
theorem qno81 (v0 n : V) : yesB (L11h v0 (.i .u8 81) n) = true := by kernel_rfl
theorem qno82 (v0 n : V) : yesB (L11h v0 (.i .u8 82) n) = true := by kernel_rfl
theorem qno84 (v0 n : V) : yesB (L11h v0 (.i .u8 84) n) = true := by kernel_rfl
theorem qno85 (v0 n : V) : yesB (L11h v0 (.i .u8 85) n) = true := by kernel_rfl
theorem qno86 (v0 n : V) : yesB (L11h v0 (.i .u8 86) n) = true := by kernel_rfl
theorem qno87 (v0 n : V) : yesB (L11h v0 (.i .u8 87) n) = true := by kernel_rfl
theorem qno88 (v0 n : V) : yesB (L11h v0 (.i .u8 88) n) = true := by kernel_rfl
theorem qno90 (v0 n : V) : yesB (L11h v0 (.i .u8 90) n) = true := by kernel_rfl
theorem qno91 (v0 n : V) : yesB (L11h v0 (.i .u8 91) n) = true := by kernel_rfl
theorem qno92 (v0 n : V) : yesB (L11h v0 (.i .u8 92) n) = true := by kernel_rfl
theorem qno93 (v0 n : V) : yesB (L11h v0 (.i .u8 93) n) = true := by kernel_rfl
theorem qno94 (v0 n : V) : yesB (L11h v0 (.i .u8 94) n) = true := by kernel_rfl
theorem qno95 (v0 n : V) : yesB (L11h v0 (.i .u8 95) n) = true := by kernel_rfl
theorem qno96 (v0 n : V) : yesB (L11h v0 (.i .u8 96) n) = true := by kernel_rfl
theorem qno98 (v0 n : V) : yesB (L11h v0 (.i .u8 98) n) = true := by kernel_rfl
theorem qno99 (v0 n : V) : yesB (L11h v0 (.i .u8 99) n) = true := by kernel_rfl
theorem qno100 (v0 n : V) : yesB (L11h v0 (.i .u8 100) n) = true := by kernel_rfl
theorem qno101 (v0 n : V) : yesB (L11h v0 (.i .u8 101) n) = true := by kernel_rfl
theorem qno102 (v0 n : V) : yesB (L11h v0 (.i .u8 102) n) = true := by kernel_rfl
theorem qno103 (v0 n : V) : yesB (L11h v0 (.i .u8 103) n) = true := by kernel_rfl
theorem qno104 (v0 n : V) : yesB (L11h v0 (.i .u8 104) n) = true := by kernel_rfl
theorem qno105 (v0 n : V) : yesB (L11h v0 (.i .u8 105) n) = true := by kernel_rfl
theorem qno106 (v0 n : V) : yesB (L11h v0 (.i .u8 106) n) = true := by kernel_rfl
theorem qno107 (v0 n : V) : yesB (L11h v0 (.i .u8 107) n) = true := by kernel_rfl
theorem qno108 (v0 n : V) : yesB (L11h v0 (.i .u8 108) n) = true := by kernel_rfl
theorem qno109 (v0 n : V) : yesB (L11h v0 (.i .u8 109) n) = true := by kernel_rfl
theorem qno110 (v0 n : V) : yesB (L11h v0 (.i .u8 110) n) = true := by kernel_rfl
theorem qno111 (v0 n : V) : yesB (L11h v0 (.i .u8 111) n) = true := by kernel_rfl
theorem qno112 (v0 n : V) : yesB (L11h v0 (.i .u8 112) n) = true := by kernel_rfl
theorem qno113 (v0 n : V) : yesB (L11h v0 (.i .u8 113) n) = true := by kernel_rfl
theorem qno114 (v0 n : V) : yesB (L11h v0 (.i .u8 114) n) = true := by kernel_rfl
theorem qno115 (v0 n : V) : yesB (L11h v0 (.i .u8 115) n) = true := by kernel_rfl
theorem qno116 (v0 n : V) : yesB (L11h v0 (.i .u8 116) n) = true := by kernel_rfl
theorem qno117 (v0 n : V) : yesB (L11h v0 (.i .u8 117) n) = true := by kernel_rfl
theorem qno118 (v0 n : V) : yesB (L11h v0 (.i .u8 118) n) = true := by kernel_rfl
theorem qno119 (v0 n : V) : yesB (L11h v0 (.i .u8 119) n) = true := by kernel_rfl
theorem qno120 (v0 n : V) : yesB (L11h v0 (.i .u8 120) n) = true := by kernel_rfl
theorem qno121 (v0 n : V) : yesB (L11h v0 (.i .u8 121) n) = true := by kernel_rfl
theorem qno122 (v0 n : V) : yesB (L11h v0 (.i .u8 122) n) = true := by kernel_rfl
theorem qno123 (v0 n : V) : yesB (L11h v0 (.i .u8 123) n) = true := by kernel_rfl
theorem qno124 (v0 n : V) : yesB (L11h v0 (.i .u8 124) n) = true := by kernel_rfl
theorem qno125 (v0 n : V) : yesB (L11h v0 (.i .u8 125) n) = true := by kernel_rfl
theorem qno126 (v0 n : V) : yesB (L11h v0 (.i .u8 126) n) = true := by kernel_rfl
theorem qno127 (v0 n : V) : yesB (L11h v0 (.i .u8 127) n) = true := by kernel_rfl
theorem qno128 (v0 n : V) : yesB (L11h v0 (.i .u8 128) n) = true := by kernel_rfl
theorem qno129 (v0 n : V) : yesB (L11h v0 (.i .u8 129) n) = true := by kernel_rfl
theorem qno130 (v0 n : V) : yesB (L11h v0 (.i .u8 130) n) = true := by kernel_rfl
theorem qno131 (v0 n : V) : yesB (L11h v0 (.i .u8 131) n) = true := by kernel_rfl
theorem qno132 (v0 n : V) : yesB (L11h v0 (.i .u8 132) n) = true := by kernel_rfl
theorem qno133 (v0 n : V) : yesB (L11h v0 (.i .u8 133) n) = true := by kernel_rfl
theorem qno134 (v0 n : V) : yesB (L11h v0 (.i .u8 134) n) = true := by kernel_rfl
theorem qno135 (v0 n : V) : yesB (L11h v0 (.i .u8 135) n) = true := by kernel_rfl
theorem qno136 (v0 n : V) : yesB (L11h v0 (.i .u8 136) n) = true := by kernel_rfl
theorem qno137 (v0 n : V) : yesB (L11h v0 (.i .u8 137) n) = true := by kernel_rfl
theorem qno138 (v0 n : V) : yesB (L11h v0 (.i .u8 138) n) = true := by kernel_rfl
theorem qno139 (v0 n : V) : yesB (L11h v0 (.i .u8 139) n) = true := by kernel_rfl
theorem qno140 (v0 n : V) : yesB (L11h v0 (.i .u8 140) n) = true := by kernel_rfl
theorem qno141 (v0 n : V) : yesB (L11h v0 (.i .u8 141) n) = true := by kernel_rfl
theorem qno142 (v0 n : V) : yesB (L11h v0 (.i .u8 142) n) = true := by kernel_rfl
theorem qno143 (v0 n : V) : yesB (L11h v0 (.i .u8 143) n) = true := by kernel_rfl
theorem qno144 (v0 n : V) : yesB (L11h v0 (.i .u8 144) n) = true := by kernel_rfl
theorem qno145 (v0 n : V) : yesB (L11h v0 (.i .u8 145) n) = true := by kernel_rfl
theorem qno146 (v0 n : V) : yesB (L11h v0 (.i .u8 146) n) = true := by kernel_rfl
theorem qno147 (v0 n : V) : yesB (L11h v0 (.i .u8 147) n) = true := by kernel_rfl
theorem qno148 (v0 n : V) : yesB (L11h v0 (.i .u8 148) n) = true := by kernel_rfl
theorem qno149 (v0 n : V) : yesB (L11h v0 (.i .u8 149) n) = true := by kernel_rfl
theorem qno150 (v0 n : V) : yesB (L11h v0 (.i .u8 150) n) = true := by kernel_rfl
theorem qno151 (v0 n : V) : yesB (L11h v0 (.i .u8 151) n) = true := by kernel_rfl
theorem qno152 (v0 n : V) : yesB (L11h v0 (.i .u8 152) n) = true := by kernel_rfl
theorem qno153 (v0 n : V) : yesB (L11h v0 (.i .u8 153) n) = true := by kernel_rfl
theorem qno154 (v0 n : V) : yesB (L11h v0 (.i .u8 154) n) = true := by kernel_rfl
theorem qno155 (v0 n : V) : yesB (L11h v0 (.i .u8 155) n) = true := by kernel_rfl
theorem qno156 (v0 n : V) : yesB (L11h v0 (.i .u8 156) n) = true := by kernel_rfl
theorem qno157 (v0 n : V) : yesB (L11h v0 (.i .u8 157) n) = true := by kernel_rfl
theorem qno158 (v0 n : V) : yesB (L11h v0 (.i .u8 158) n) = true := by kernel_rfl
theorem qno159 (v0 n : V) : yesB (L11h v0 (.i .u8 159) n) = true := by kernel_rfl
theorem qno160 (v0 n : V) : yesB (L11h v0 (.i .u8 160) n) = true := by kernel_rfl
theorem qno161 (v0 n : V) : yesB (L11h v0 (.i .u8 161) n) = true := by kernel_rfl
theorem qno162 (v0 n : V) : yesB (L11h v0 (.i .u8 162) n) = true := by kernel_rfl
theorem qno163 (v0 n : V) : yesB (L11h v0 (.i .u8 163) n) = true := by kernel_rfl
theorem qno164 (v0 n : V) : yesB (L11h v0 (.i .u8 164) n) = true := by kernel_rfl
theorem qno165 (v0 n : V) : yesB (L11h v0 (.i .u8 165) n) = true := by kernel_rfl
theorem qno166 (v0 n : V) : yesB (L11h v0 (.i .u8 166) n) = true := by kernel_rfl
theorem qno167 (v0 n : V) : yesB (L11h v0 (.i .u8 167) n) = true := by kernel_rfl
theorem qno168 (v0 n : V) : yesB (L11h v0 (.i .u8 168) n) = true := by kernel_rfl
theorem qno169 (v0 n : V) : yesB (L11h v0 (.i .u8 169) n) = true := by kernel_rfl
theorem qno170 (v0 n : V) : yesB (L11h v0 (.i .u8 170) n) = true := by kernel_rfl
theorem qno171 (v0 n : V) : yesB (L11h v0 (.i .u8 171) n) = true := by kernel_rfl
theorem qno172 (v0 n : V) : yesB (L11h v0 (.i .u8 172) n) = true := by kernel_rfl
theorem qno173 (v0 n : V) : yesB (L11h v0 (.i .u8 173) n) = true := by kernel_rfl
theorem qno174 (v0 n : V) : yesB (L11h v0 (.i .u8 174) n) = true := by kernel_rfl
theorem qno175 (v0 n : V) : yesB (L11h v0 (.i .u8 175) n) = true := by kernel_rfl
theorem qno176 (v0 n : V) : yesB (L11h v0 (.i .u8 176) n) = true := by kernel_rfl
theorem qno177 (v0 n : V) : yesB (L11h v0 (.i .u8 177) n) = true := by kernel_rfl
theorem qno178 (v0 n : V) : yesB (L11h v0 (.i .u8 178) n) = true := by kernel_rfl
theorem qno179 (v0 n : V) : yesB (L11h v0 (.i .u8 179) n) = true := by kernel_rfl
theorem qno180 (v0 n : V) : yesB (L11h v0 (.i .u8 180) n) = true := by kernel_rfl
theorem qno181 (v0 n : V) : yesB (L11h v0 (.i .u8 181) n) = true := by kernel_rfl
theorem qno182 (v0 n : V) : yesB (L11h v0 (.i .u8 182) n) = true := by kernel_rfl
theorem qno183 (v0 n : V) : yesB (L11h v0 (.i .u8 183) n) = true := by kernel_rfl
theorem qno184 (v0 n : V) : yesB (L11h v0 (.i .u8 184) n) = true := by kernel_rfl
theorem qno185 (v0 n : V) : yesB (L11h v0 (.i .u8 185) n) = true := by kernel_rfl
theorem qno186 (v0 n : V) : yesB (L11h v0 (.i .u8 186) n) = true := by kernel_rfl
theorem qno187 (v0 n : V) : yesB (L11h v0 (.i .u8 187) n) = true := by kernel_rfl
theorem qno188 (v0 n : V) : yesB (L11h v0 (.i .u8 188) n) = true := by kernel_rfl
theorem qno189 (v0 n : V) : yesB (L11h v0 (.i .u8 189) n) = true := by kernel_rfl
theorem qno190 (v0 n : V) : yesB (L11h v0 (.i .u8 190) n) = true := by kernel_rfl
theorem qno191 (v0 n : V) : yesB (L11h v0 (.i .u8 191) n) = true := by kernel_rfl
theorem qno192 (v0 n : V) : yesB (L11h v0 (.i .u8 192) n) = true := by kernel_rfl
theorem qno193 (v0 n : V) : yesB (L11h v0 (.i .u8 193) n) = true := by kernel_rfl
theorem qno194 (v0 n : V) : yesB (L11h v0 (.i .u8 194) n) = true := by kernel_rfl
theorem qno195 (v0 n : V) : yesB (L11h v0 (.i .u8 195) n) = true := by kernel_rfl
theorem qno196 (v0 n : V) : yesB (L11h v0 (.i .u8 196) n) = true := by kernel_rfl
theorem qno197 (v0 n : V) : yesB (L11h v0 (.i .u8 197) n) = true := by kernel_rfl
theorem qno198 (v0 n : V) : yesB (L11h v0 (.i .u8 198) n) = true := by kernel_rfl
theorem qno199 (v0 n : V) : yesB (L11h v0 (.i .u8 199) n) = true := by kernel_rfl
theorem qno200 (v0 n : V) : yesB (L11h v0 (.i .u8 200) n) = true := by kernel_rfl
theorem qno201 (v0 n : V) : yesB (L11h v0 (.i .u8 201) n) = true := by kernel_rfl
theorem qno202 (v0 n : V) : yesB (L11h v0 (.i .u8 202) n) = true := by kernel_rfl
theorem qno203 (v0 n : V) : yesB (L11h v0 (.i .u8 203) n) = true := by kernel_rfl
theorem qno204 (v0 n : V) : yesB (L11h v0 (.i .u8 204) n) = true := by kernel_rfl
theorem qno205 (v0 n : V) : yesB (L11h v0 (.i .u8 205) n) = true := by kernel_rfl
theorem qno206 (v0 n : V) : yesB (L11h v0 (.i .u8 206) n) = true := by kernel_rfl
theorem qno207 (v0 n : V) : yesB (L11h v0 (.i .u8 207) n) = true := by kernel_rfl
theorem qno208 (v0 n : V) : yesB (L11h v0 (.i .u8 208) n) = true := by kernel_rfl
theorem qno209 (v0 n : V) : yesB (L11h v0 (.i .u8 209) n) = true := by kernel_rfl
theorem qno210 (v0 n : V) : yesB (L11h v0 (.i .u8 210) n) = true := by kernel_rfl
theorem qno211 (v0 n : V) : yesB (L11h v0 (.i .u8 211) n) = true := by kernel_rfl
theorem qno212 (v0 n : V) : yesB (L11h v0 (.i .u8 212) n) = true := by kernel_rfl
theorem qno213 (v0 n : V) : yesB (L11h v0 (.i .u8 213) n) = true := by kernel_rfl
theorem qno214 (v0 n : V) : yesB (L11h v0 (.i .u8 214) n) = true := by kernel_rfl
theorem qno215 (v0 n : V) : yesB (L11h v0 (.i .u8 215) n) = true := by kernel_rfl
theorem qno216 (v0 n : V) : yesB (L11h v0 (.i .u8 216) n) = true := by kernel_rfl
theorem qno217 (v0 n : V) : yesB (L11h v0 (.i .u8 217) n) = true := by kernel_rfl
theorem qno218 (v0 n : V) : yesB (L11h v0 (.i .u8 218) n) = true := by kernel_rfl
theorem qno219 (v0 n : V) : yesB (L11h v0 (.i .u8 219) n) = true := by kernel_rfl
theorem qno220 (v0 n : V) : yesB (L11h v0 (.i .u8 220) n) = true := by kernel_rfl
theorem qno221 (v0 n : V) : yesB (L11h v0 (.i .u8 221) n) = true := by kernel_rfl
theorem qno222 (v0 n : V) : yesB (L11h v0 (.i .u8 222) n) = true := by kernel_rfl
theorem qno223 (v0 n : V) : yesB (L11h v0 (.i .u8 223) n) = true := by kernel_rfl
theorem qno224 (v0 n : V) : yesB (L11h v0 (.i .u8 224) n) = true := by kernel_rfl
theorem qno225 (v0 n : V) : yesB (L11h v0 (.i .u8 225) n) = true := by kernel_rfl
theorem qno226 (v0 n : V) : yesB (L11h v0 (.i .u8 226) n) = true := by kernel_rfl
theorem qno227 (v0 n : V) : yesB (L11h v0 (.i .u8 227) n) = true := by kernel_rfl
theorem qno228 (v0 n : V) : yesB (L11h v0 (.i .u8 228) n) = true := by kernel_rfl
theorem qno229 (v0 n : V) : yesB (L11h v0 (.i .u8 229) n) = true := by kernel_rfl
theorem qno230 (v0 n : V) : yesB (L11h v0 (.i .u8 230) n) = true := by kernel_rfl
theorem qno231 (v0 n : V) : yesB (L11h v0 (.i .u8 231) n) = true := by kernel_rfl
theorem qno232 (v0 n : V) : yesB (L11h v0 (.i .u8 232) n) = true := by kernel_rfl
theorem qno233 (v0 n : V) : yesB (L11h v0 (.i .u8 233) n) = true := by kernel_rfl
theorem qno234 (v0 n : V) : yesB (L11h v0 (.i .u8 234) n) = true := by kernel_rfl
theorem qno235 (v0 n : V) : yesB (L11h v0 (.i .u8 235) n) = true := by kernel_rfl
theorem qno236 (v0 n : V) : yesB (L11h v0 (.i .u8 236) n) = true := by kernel_rfl
theorem qno237 (v0 n : V) : yesB (L11h v0 (.i .u8 237) n) = true := by kernel_rfl
theorem qno238 (v0 n : V) : yesB (L11h v0 (.i .u8 238) n) = true := by kernel_rfl
theorem qno239 (v0 n : V) : yesB (L11h v0 (.i .u8 239) n) = true := by kernel_rfl
theorem qno240 (v0 n : V) : yesB (L11h v0 (.i .u8 240) n) = true := by kernel_rfl
theorem qno241 (v0 n : V) : yesB (L11h v0 (.i .u8 241) n) = true := by kernel_rfl
theorem qno242 (v0 n : V) : yesB (L11h v0 (.i .u8 242) n) = true := by kernel_rfl
theorem qno243 (v0 n : V) : yesB (L11h v0 (.i .u8 243) n) = true := by kernel_rfl
theorem qno244 (v0 n : V) : yesB (L11h v0 (.i .u8 244) n) = true := by kernel_rfl
theorem qno245 (v0 n : V) : yesB (L11h v0 (.i .u8 245) n) = true := by kernel_rfl
theorem qno246 (v0 n : V) : yesB (L11h v0 (.i .u8 246) n) = true := by kernel_rfl
theorem qno247 (v0 n : V) : yesB (L11h v0 (.i .u8 247) n) = true := by kernel_rfl
theorem qno248 (v0 n : V) : yesB (L11h v0 (.i .u8 248) n) = true := by kernel_rfl
theorem qno249 (v0 n : V) : yesB (L11h v0 (.i .u8 249) n) = true := by kernel_rfl
theorem qno250 (v0 n : V) : yesB (L11h v0 (.i .u8 250) n) = true := by kernel_rfl
theorem qno251 (v0 n : V) : yesB (L11h v0 (.i .u8 251) n) = true := by kernel_rfl
theorem qno252 (v0 n : V) : yesB (L11h v0 (.i .u8 252) n) = true := by kernel_rfl
theorem qno253 (v0 n : V) : yesB (L11h v0 (.i .u8 253) n) = true := by kernel_rfl
theorem qno254 (v0 n : V) : yesB (L11h v0 (.i .u8 254) n) = true := by kernel_rfl
theorem qno255 (v0 n : V) : yesB (L11h v0 (.i .u8 255) n) = true := by kernel_rfl
end
end Go.AM
