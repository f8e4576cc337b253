/- Sums, differences and products of these polynomials, by their runs. -/
import Derived.Test.YtpendgpnikmohaaGreatRH
import Derived.Test.YtpendgpnikmohaaGreatXM6
import Derived.Test.YtpendgpnikmohaaGreatMHD
set_option maxRecDepth 1000000
set_option linter.unusedVariables false
namespace Go.AM
open Go.Proofs
noncomputable section
def hb111 : List (List V) := [y109, y111]
def ha111 : List V := [(.sl .h 0 38 38), (.sl (.o .h) 0 39 39)]
def hv111 : V := (.sl (.i .h) 0 39 39)
def ho111 : List (Pos × List V) := [((.i .h), y112)]
theorem hs111 : stat hb111 ha111 hv111 ho111 = true := by kernel_rfl
theorem hr111 : runOk (un 2 F71 ha111 (mkS hb111) fun v S => some (v, S)) hv111 ho111 = true := by kernel_rfl
theorem hm111 : FOK Tryz.prog 71 (memoF hb111 ha111 hv111 ho111) := memo_ok K71 hs111 hr111
def hb112 : List (List V) := [y0, y111]
def ha112 : List V := [(.sl .h 0 2 2), (.sl (.o .h) 0 39 39)]
def hv112 : V := (.sl (.i .h) 0 40 40)
def ho112 : List (Pos × List V) := [((.i .h), y113)]
theorem hs112 : stat hb112 ha112 hv112 ho112 = true := by kernel_rfl
theorem hr112 : runOk (un 2 F73 ha112 (mkS hb112) fun v S => some (v, S)) hv112 ho112 = true := by kernel_rfl
theorem hm112 : FOK Tryz.prog 73 (memoF hb112 ha112 hv112 ho112) := memo_ok K73 hs112 hr112
def hb113 : List (List V) := [y113, y108]
def ha113 : List V := [(.sl .h 0 40 40), (.sl (.o .h) 0 38 38)]
def hv113 : V := (.sl (.i .h) 0 40 40)
def ho113 : List (Pos × List V) := [((.i .h), y114)]
theorem hs113 : stat hb113 ha113 hv113 ho113 = true := by kernel_rfl
theorem hr113 : runOk (un 2 F72 ha113 (mkS hb113) fun v S => some (v, S)) hv113 ho113 = true := by kernel_rfl
theorem hm113 : FOK Tryz.prog 72 (memoF hb113 ha113 hv113 ho113) := memo_ok K72 hs113 hr113
def hb114 : List (List V) := [y112, y114]
def ha114 : List V := [(.sl .h 0 39 39), (.sl (.o .h) 0 40 40)]
def hv114 : V := (.sl (.i .h) 0 40 40)
def ho114 : List (Pos × List V) := [((.i .h), y115)]
theorem hs114 : stat hb114 ha114 hv114 ho114 = true := by kernel_rfl
theorem hr114 : runOk (un 2 F71 ha114 (mkS hb114) fun v S => some (v, S)) hv114 ho114 = true := by kernel_rfl
theorem hm114 : FOK Tryz.prog 71 (memoF hb114 ha114 hv114 ho114) := memo_ok K71 hs114 hr114
def hb115 : List (List V) := [y0, y114]
def ha115 : List V := [(.sl .h 0 2 2), (.sl (.o .h) 0 40 40)]
def hv115 : V := (.sl (.i .h) 0 41 41)
def ho115 : List (Pos × List V) := [((.i .h), y116)]
theorem hs115 : stat hb115 ha115 hv115 ho115 = true := by kernel_rfl
theorem hr115 : runOk (un 2 F73 ha115 (mkS hb115) fun v S => some (v, S)) hv115 ho115 = true := by kernel_rfl
theorem hm115 : FOK Tryz.prog 73 (memoF hb115 ha115 hv115 ho115) := memo_ok K73 hs115 hr115
def hb116 : List (List V) := [y116, y111]
def ha116 : List V := [(.sl .h 0 41 41), (.sl (.o .h) 0 39 39)]
def hv116 : V := (.sl (.i .h) 0 41 41)
def ho116 : List (Pos × List V) := [((.i .h), y117)]
theorem hs116 : stat hb116 ha116 hv116 ho116 = true := by kernel_rfl
theorem hr116 : runOk (un 2 F72 ha116 (mkS hb116) fun v S => some (v, S)) hv116 ho116 = true := by kernel_rfl
theorem hm116 : FOK Tryz.prog 72 (memoF hb116 ha116 hv116 ho116) := memo_ok K72 hs116 hr116
def hb117 : List (List V) := [y115, y117]
def ha117 : List V := [(.sl .h 0 40 40), (.sl (.o .h) 0 41 41)]
def hv117 : V := (.sl (.i .h) 0 41 41)
def ho117 : List (Pos × List V) := [((.i .h), y118)]
theorem hs117 : stat hb117 ha117 hv117 ho117 = true := by kernel_rfl
theorem hr117 : runOk (un 2 F71 ha117 (mkS hb117) fun v S => some (v, S)) hv117 ho117 = true := by kernel_rfl
theorem hm117 : FOK Tryz.prog 71 (memoF hb117 ha117 hv117 ho117) := memo_ok K71 hs117 hr117
def hb118 : List (List V) := [y0, y117]
def ha118 : List V := [(.sl .h 0 2 2), (.sl (.o .h) 0 41 41)]
def hv118 : V := (.sl (.i .h) 0 42 42)
def ho118 : List (Pos × List V) := [((.i .h), y119)]
theorem hs118 : stat hb118 ha118 hv118 ho118 = true := by kernel_rfl
theorem hr118 : runOk (un 2 F73 ha118 (mkS hb118) fun v S => some (v, S)) hv118 ho118 = true := by kernel_rfl
theorem hm118 : FOK Tryz.prog 73 (memoF hb118 ha118 hv118 ho118) := memo_ok K73 hs118 hr118
def hb119 : List (List V) := [y119, y114]
def ha119 : List V := [(.sl .h 0 42 42), (.sl (.o .h) 0 40 40)]
def hv119 : V := (.sl (.i .h) 0 42 42)
def ho119 : List (Pos × List V) := [((.i .h), y120)]
theorem hs119 : stat hb119 ha119 hv119 ho119 = true := by kernel_rfl
theorem hr119 : runOk (un 2 F72 ha119 (mkS hb119) fun v S => some (v, S)) hv119 ho119 = true := by kernel_rfl
theorem hm119 : FOK Tryz.prog 72 (memoF hb119 ha119 hv119 ho119) := memo_ok K72 hs119 hr119
def hb120 : List (List V) := [y118, y120]
def ha120 : List V := [(.sl .h 0 41 41), (.sl (.o .h) 0 42 42)]
def hv120 : V := (.sl (.i .h) 0 42 42)
def ho120 : List (Pos × List V) := [((.i .h), y121)]
theorem hs120 : stat hb120 ha120 hv120 ho120 = true := by kernel_rfl
theorem hr120 : runOk (un 2 F71 ha120 (mkS hb120) fun v S => some (v, S)) hv120 ho120 = true := by kernel_rfl
theorem hm120 : FOK Tryz.prog 71 (memoF hb120 ha120 hv120 ho120) := memo_ok K71 hs120 hr120
def hb121 : List (List V) := [y0, y120]
def ha121 : List V := [(.sl .h 0 2 2), (.sl (.o .h) 0 42 42)]
def hv121 : V := (.sl (.i .h) 0 43 43)
def ho121 : List (Pos × List V) := [((.i .h), y122)]
theorem hs121 : stat hb121 ha121 hv121 ho121 = true := by kernel_rfl
theorem hr121 : runOk (un 2 F73 ha121 (mkS hb121) fun v S => some (v, S)) hv121 ho121 = true := by kernel_rfl
theorem hm121 : FOK Tryz.prog 73 (memoF hb121 ha121 hv121 ho121) := memo_ok K73 hs121 hr121
def hb122 : List (List V) := [y122, y117]
def ha122 : List V := [(.sl .h 0 43 43), (.sl (.o .h) 0 41 41)]
def hv122 : V := (.sl (.i .h) 0 43 43)
def ho122 : List (Pos × List V) := [((.i .h), y123)]
theorem hs122 : stat hb122 ha122 hv122 ho122 = true := by kernel_rfl
theorem hr122 : runOk (un 2 F72 ha122 (mkS hb122) fun v S => some (v, S)) hv122 ho122 = true := by kernel_rfl
theorem hm122 : FOK Tryz.prog 72 (memoF hb122 ha122 hv122 ho122) := memo_ok K72 hs122 hr122
def hb123 : List (List V) := [y121, y123]
def ha123 : List V := [(.sl .h 0 42 42), (.sl (.o .h) 0 43 43)]
def hv123 : V := (.sl (.i .h) 0 43 43)
def ho123 : List (Pos × List V) := [((.i .h), y124)]
theorem hs123 : stat hb123 ha123 hv123 ho123 = true := by kernel_rfl
theorem hr123 : runOk (un 2 F71 ha123 (mkS hb123) fun v S => some (v, S)) hv123 ho123 = true := by kernel_rfl
theorem hm123 : FOK Tryz.prog 71 (memoF hb123 ha123 hv123 ho123) := memo_ok K71 hs123 hr123
def hb124 : List (List V) := [y0, y123]
def ha124 : List V := [(.sl .h 0 2 2), (.sl (.o .h) 0 43 43)]
def hv124 : V := (.sl (.i .h) 0 44 44)
def ho124 : List (Pos × List V) := [((.i .h), y125)]
theorem hs124 : stat hb124 ha124 hv124 ho124 = true := by kernel_rfl
theorem hr124 : runOk (un 2 F73 ha124 (mkS hb124) fun v S => some (v, S)) hv124 ho124 = true := by kernel_rfl
theorem hm124 : FOK Tryz.prog 73 (memoF hb124 ha124 hv124 ho124) := memo_ok K73 hs124 hr124
def hb125 : List (List V) := [y125, y120]
def ha125 : List V := [(.sl .h 0 44 44), (.sl (.o .h) 0 42 42)]
def hv125 : V := (.sl (.i .h) 0 44 44)
def ho125 : List (Pos × List V) := [((.i .h), y126)]
theorem hs125 : stat hb125 ha125 hv125 ho125 = true := by kernel_rfl
theorem hr125 : runOk (un 2 F72 ha125 (mkS hb125) fun v S => some (v, S)) hv125 ho125 = true := by kernel_rfl
theorem hm125 : FOK Tryz.prog 72 (memoF hb125 ha125 hv125 ho125) := memo_ok K72 hs125 hr125
def hb126 : List (List V) := [y124, y126]
def ha126 : List V := [(.sl .h 0 43 43), (.sl (.o .h) 0 44 44)]
def hv126 : V := (.sl (.i .h) 0 44 44)
def ho126 : List (Pos × List V) := [((.i .h), y127)]
theorem hs126 : stat hb126 ha126 hv126 ho126 = true := by kernel_rfl
theorem hr126 : runOk (un 2 F71 ha126 (mkS hb126) fun v S => some (v, S)) hv126 ho126 = true := by kernel_rfl
theorem hm126 : FOK Tryz.prog 71 (memoF hb126 ha126 hv126 ho126) := memo_ok K71 hs126 hr126
def hb127 : List (List V) := [y0, y126]
def ha127 : List V := [(.sl .h 0 2 2), (.sl (.o .h) 0 44 44)]
def hv127 : V := (.sl (.i .h) 0 45 45)
def ho127 : List (Pos × List V) := [((.i .h), y128)]
theorem hs127 : stat hb127 ha127 hv127 ho127 = true := by kernel_rfl
theorem hr127 : runOk (un 2 F73 ha127 (mkS hb127) fun v S => some (v, S)) hv127 ho127 = true := by kernel_rfl
theorem hm127 : FOK Tryz.prog 73 (memoF hb127 ha127 hv127 ho127) := memo_ok K73 hs127 hr127
def hb128 : List (List V) := [y128, y123]
def ha128 : List V := [(.sl .h 0 45 45), (.sl (.o .h) 0 43 43)]
def hv128 : V := (.sl (.i .h) 0 45 45)
def ho128 : List (Pos × List V) := [((.i .h), y129)]
theorem hs128 : stat hb128 ha128 hv128 ho128 = true := by kernel_rfl
theorem hr128 : runOk (un 2 F72 ha128 (mkS hb128) fun v S => some (v, S)) hv128 ho128 = true := by kernel_rfl
theorem hm128 : FOK Tryz.prog 72 (memoF hb128 ha128 hv128 ho128) := memo_ok K72 hs128 hr128
def hb129 : List (List V) := [y127, y129]
def ha129 : List V := [(.sl .h 0 44 44), (.sl (.o .h) 0 45 45)]
def hv129 : V := (.sl (.i .h) 0 45 45)
def ho129 : List (Pos × List V) := [((.i .h), y130)]
theorem hs129 : stat hb129 ha129 hv129 ho129 = true := by kernel_rfl
theorem hr129 : runOk (un 2 F71 ha129 (mkS hb129) fun v S => some (v, S)) hv129 ho129 = true := by kernel_rfl
theorem hm129 : FOK Tryz.prog 71 (memoF hb129 ha129 hv129 ho129) := memo_ok K71 hs129 hr129
def hb130 : List (List V) := [y0, y129]
def ha130 : List V := [(.sl .h 0 2 2), (.sl (.o .h) 0 45 45)]
def hv130 : V := (.sl (.i .h) 0 46 46)
def ho130 : List (Pos × List V) := [((.i .h), y131)]
theorem hs130 : stat hb130 ha130 hv130 ho130 = true := by kernel_rfl
theorem hr130 : runOk (un 2 F73 ha130 (mkS hb130) fun v S => some (v, S)) hv130 ho130 = true := by kernel_rfl
theorem hm130 : FOK Tryz.prog 73 (memoF hb130 ha130 hv130 ho130) := memo_ok K73 hs130 hr130
def hb131 : List (List V) := [y131, y126]
def ha131 : List V := [(.sl .h 0 46 46), (.sl (.o .h) 0 44 44)]
def hv131 : V := (.sl (.i .h) 0 46 46)
def ho131 : List (Pos × List V) := [((.i .h), y132)]
theorem hs131 : stat hb131 ha131 hv131 ho131 = true := by kernel_rfl
theorem hr131 : runOk (un 2 F72 ha131 (mkS hb131) fun v S => some (v, S)) hv131 ho131 = true := by kernel_rfl
theorem hm131 : FOK Tryz.prog 72 (memoF hb131 ha131 hv131 ho131) := memo_ok K72 hs131 hr131
def hb132 : List (List V) := [y130, y132]
def ha132 : List V := [(.sl .h 0 45 45), (.sl (.o .h) 0 46 46)]
def hv132 : V := (.sl (.i .h) 0 46 46)
def ho132 : List (Pos × List V) := [((.i .h), y133)]
theorem hs132 : stat hb132 ha132 hv132 ho132 = true := by kernel_rfl
theorem hr132 : runOk (un 2 F71 ha132 (mkS hb132) fun v S => some (v, S)) hv132 ho132 = true := by kernel_rfl
theorem hm132 : FOK Tryz.prog 71 (memoF hb132 ha132 hv132 ho132) := memo_ok K71 hs132 hr132
def hb133 : List (List V) := [y0, y132]
def ha133 : List V := [(.sl .h 0 2 2), (.sl (.o .h) 0 46 46)]
def hv133 : V := (.sl (.i .h) 0 47 47)
def ho133 : List (Pos × List V) := [((.i .h), y134)]
theorem hs133 : stat hb133 ha133 hv133 ho133 = true := by kernel_rfl
theorem hr133 : runOk (un 2 F73 ha133 (mkS hb133) fun v S => some (v, S)) hv133 ho133 = true := by kernel_rfl
theorem hm133 : FOK Tryz.prog 73 (memoF hb133 ha133 hv133 ho133) := memo_ok K73 hs133 hr133
def hb134 : List (List V) := [y134, y129]
def ha134 : List V := [(.sl .h 0 47 47), (.sl (.o .h) 0 45 45)]
def hv134 : V := (.sl (.i .h) 0 47 47)
def ho134 : List (Pos × List V) := [((.i .h), y135)]
theorem hs134 : stat hb134 ha134 hv134 ho134 = true := by kernel_rfl
theorem hr134 : runOk (un 2 F72 ha134 (mkS hb134) fun v S => some (v, S)) hv134 ho134 = true := by kernel_rfl
theorem hm134 : FOK Tryz.prog 72 (memoF hb134 ha134 hv134 ho134) := memo_ok K72 hs134 hr134
def hb135 : List (List V) := [y133, y135]
def ha135 : List V := [(.sl .h 0 46 46), (.sl (.o .h) 0 47 47)]
def hv135 : V := (.sl (.i .h) 0 47 47)
def ho135 : List (Pos × List V) := [((.i .h), y136)]
theorem hs135 : stat hb135 ha135 hv135 ho135 = true := by kernel_rfl
theorem hr135 : runOk (un 2 F71 ha135 (mkS hb135) fun v S => some (v, S)) hv135 ho135 = true := by kernel_rfl
theorem hm135 : FOK Tryz.prog 71 (memoF hb135 ha135 hv135 ho135) := memo_ok K71 hs135 hr135
def hb136 : List (List V) := [y0, y135]
def ha136 : List V := [(.sl .h 0 2 2), (.sl (.o .h) 0 47 47)]
def hv136 : V := (.sl (.i .h) 0 48 48)
def ho136 : List (Pos × List V) := [((.i .h), y137)]
theorem hs136 : stat hb136 ha136 hv136 ho136 = true := by kernel_rfl
theorem hr136 : runOk (un 2 F73 ha136 (mkS hb136) fun v S => some (v, S)) hv136 ho136 = true := by kernel_rfl
theorem hm136 : FOK Tryz.prog 73 (memoF hb136 ha136 hv136 ho136) := memo_ok K73 hs136 hr136
def hb137 : List (List V) := [y137, y132]
def ha137 : List V := [(.sl .h 0 48 48), (.sl (.o .h) 0 46 46)]
def hv137 : V := (.sl (.i .h) 0 48 48)
def ho137 : List (Pos × List V) := [((.i .h), y138)]
theorem hs137 : stat hb137 ha137 hv137 ho137 = true := by kernel_rfl
theorem hr137 : runOk (un 2 F72 ha137 (mkS hb137) fun v S => some (v, S)) hv137 ho137 = true := by kernel_rfl
theorem hm137 : FOK Tryz.prog 72 (memoF hb137 ha137 hv137 ho137) := memo_ok K72 hs137 hr137
def hb138 : List (List V) := [y136, y138]
def ha138 : List V := [(.sl .h 0 47 47), (.sl (.o .h) 0 48 48)]
def hv138 : V := (.sl (.i .h) 0 48 48)
def ho138 : List (Pos × List V) := [((.i .h), y139)]
theorem hs138 : stat hb138 ha138 hv138 ho138 = true := by kernel_rfl
theorem hr138 : runOk (un 2 F71 ha138 (mkS hb138) fun v S => some (v, S)) hv138 ho138 = true := by kernel_rfl
theorem hm138 : FOK Tryz.prog 71 (memoF hb138 ha138 hv138 ho138) := memo_ok K71 hs138 hr138
def hb139 : List (List V) := [y0, y138]
def ha139 : List V := [(.sl .h 0 2 2), (.sl (.o .h) 0 48 48)]
def hv139 : V := (.sl (.i .h) 0 49 49)
def ho139 : List (Pos × List V) := [((.i .h), y140)]
theorem hs139 : stat hb139 ha139 hv139 ho139 = true := by kernel_rfl
theorem hr139 : runOk (un 2 F73 ha139 (mkS hb139) fun v S => some (v, S)) hv139 ho139 = true := by kernel_rfl
theorem hm139 : FOK Tryz.prog 73 (memoF hb139 ha139 hv139 ho139) := memo_ok K73 hs139 hr139
def hb140 : List (List V) := [y140, y135]
def ha140 : List V := [(.sl .h 0 49 49), (.sl (.o .h) 0 47 47)]
def hv140 : V := (.sl (.i .h) 0 49 49)
def ho140 : List (Pos × List V) := [((.i .h), y141)]
theorem hs140 : stat hb140 ha140 hv140 ho140 = true := by kernel_rfl
theorem hr140 : runOk (un 2 F72 ha140 (mkS hb140) fun v S => some (v, S)) hv140 ho140 = true := by kernel_rfl
theorem hm140 : FOK Tryz.prog 72 (memoF hb140 ha140 hv140 ho140) := memo_ok K72 hs140 hr140
def hb141 : List (List V) := [y139, y141]
def ha141 : List V := [(.sl .h 0 48 48), (.sl (.o .h) 0 49 49)]
def hv141 : V := (.sl (.i .h) 0 49 49)
def ho141 : List (Pos × List V) := [((.i .h), y142)]
theorem hs141 : stat hb141 ha141 hv141 ho141 = true := by kernel_rfl
theorem hr141 : runOk (un 2 F71 ha141 (mkS hb141) fun v S => some (v, S)) hv141 ho141 = true := by kernel_rfl
theorem hm141 : FOK Tryz.prog 71 (memoF hb141 ha141 hv141 ho141) := memo_ok K71 hs141 hr141
def hb142 : List (List V) := [y0, y141]
def ha142 : List V := [(.sl .h 0 2 2), (.sl (.o .h) 0 49 49)]
def hv142 : V := (.sl (.i .h) 0 50 50)
def ho142 : List (Pos × List V) := [((.i .h), y143)]
theorem hs142 : stat hb142 ha142 hv142 ho142 = true := by kernel_rfl
theorem hr142 : runOk (un 2 F73 ha142 (mkS hb142) fun v S => some (v, S)) hv142 ho142 = true := by kernel_rfl
theorem hm142 : FOK Tryz.prog 73 (memoF hb142 ha142 hv142 ho142) := memo_ok K73 hs142 hr142
def hb143 : List (List V) := [y143, y138]
def ha143 : List V := [(.sl .h 0 50 50), (.sl (.o .h) 0 48 48)]
def hv143 : V := (.sl (.i .h) 0 50 50)
def ho143 : List (Pos × List V) := [((.i .h), y144)]
theorem hs143 : stat hb143 ha143 hv143 ho143 = true := by kernel_rfl
theorem hr143 : runOk (un 2 F72 ha143 (mkS hb143) fun v S => some (v, S)) hv143 ho143 = true := by kernel_rfl
theorem hm143 : FOK Tryz.prog 72 (memoF hb143 ha143 hv143 ho143) := memo_ok K72 hs143 hr143
def hb144 : List (List V) := [y142, y144]
def ha144 : List V := [(.sl .h 0 49 49), (.sl (.o .h) 0 50 50)]
def hv144 : V := (.sl (.i .h) 0 50 50)
def ho144 : List (Pos × List V) := [((.i .h), y145)]
theorem hs144 : stat hb144 ha144 hv144 ho144 = true := by kernel_rfl
theorem hr144 : runOk (un 2 F71 ha144 (mkS hb144) fun v S => some (v, S)) hv144 ho144 = true := by kernel_rfl
theorem hm144 : FOK Tryz.prog 71 (memoF hb144 ha144 hv144 ho144) := memo_ok K71 hs144 hr144
def hb145 : List (List V) := [y0, y144]
def ha145 : List V := [(.sl .h 0 2 2), (.sl (.o .h) 0 50 50)]
def hv145 : V := (.sl (.i .h) 0 51 51)
def ho145 : List (Pos × List V) := [((.i .h), y146)]
theorem hs145 : stat hb145 ha145 hv145 ho145 = true := by kernel_rfl
theorem hr145 : runOk (un 2 F73 ha145 (mkS hb145) fun v S => some (v, S)) hv145 ho145 = true := by kernel_rfl
theorem hm145 : FOK Tryz.prog 73 (memoF hb145 ha145 hv145 ho145) := memo_ok K73 hs145 hr145
def hb146 : List (List V) := [y146, y141]
def ha146 : List V := [(.sl .h 0 51 51), (.sl (.o .h) 0 49 49)]
def hv146 : V := (.sl (.i .h) 0 51 51)
def ho146 : List (Pos × List V) := [((.i .h), y147)]
theorem hs146 : stat hb146 ha146 hv146 ho146 = true := by kernel_rfl
theorem hr146 : runOk (un 2 F72 ha146 (mkS hb146) fun v S => some (v, S)) hv146 ho146 = true := by kernel_rfl
theorem hm146 : FOK Tryz.prog 72 (memoF hb146 ha146 hv146 ho146) := memo_ok K72 hs146 hr146
def hb147 : List (List V) := [y145, y147]
def ha147 : List V := [(.sl .h 0 50 50), (.sl (.o .h) 0 51 51)]
def hv147 : V := (.sl (.i .h) 0 51 51)
def ho147 : List (Pos × List V) := [((.i .h), y148)]
theorem hs147 : stat hb147 ha147 hv147 ho147 = true := by kernel_rfl
theorem hr147 : runOk (un 2 F71 ha147 (mkS hb147) fun v S => some (v, S)) hv147 ho147 = true := by kernel_rfl
theorem hm147 : FOK Tryz.prog 71 (memoF hb147 ha147 hv147 ho147) := memo_ok K71 hs147 hr147
def hb148 : List (List V) := [y0, y147]
def ha148 : List V := [(.sl .h 0 2 2), (.sl (.o .h) 0 51 51)]
def hv148 : V := (.sl (.i .h) 0 52 52)
def ho148 : List (Pos × List V) := [((.i .h), y149)]
theorem hs148 : stat hb148 ha148 hv148 ho148 = true := by kernel_rfl
theorem hr148 : runOk (un 2 F73 ha148 (mkS hb148) fun v S => some (v, S)) hv148 ho148 = true := by kernel_rfl
theorem hm148 : FOK Tryz.prog 73 (memoF hb148 ha148 hv148 ho148) := memo_ok K73 hs148 hr148
def hb149 : List (List V) := [y149, y144]
def ha149 : List V := [(.sl .h 0 52 52), (.sl (.o .h) 0 50 50)]
def hv149 : V := (.sl (.i .h) 0 52 52)
def ho149 : List (Pos × List V) := [((.i .h), y150)]
theorem hs149 : stat hb149 ha149 hv149 ho149 = true := by kernel_rfl
theorem hr149 : runOk (un 2 F72 ha149 (mkS hb149) fun v S => some (v, S)) hv149 ho149 = true := by kernel_rfl
theorem hm149 : FOK Tryz.prog 72 (memoF hb149 ha149 hv149 ho149) := memo_ok K72 hs149 hr149
def hb150 : List (List V) := [y148, y150]
def ha150 : List V := [(.sl .h 0 51 51), (.sl (.o .h) 0 52 52)]
def hv150 : V := (.sl (.i .h) 0 52 52)
def ho150 : List (Pos × List V) := [((.i .h), y151)]
theorem hs150 : stat hb150 ha150 hv150 ho150 = true := by kernel_rfl
theorem hr150 : runOk (un 2 F71 ha150 (mkS hb150) fun v S => some (v, S)) hv150 ho150 = true := by kernel_rfl
theorem hm150 : FOK Tryz.prog 71 (memoF hb150 ha150 hv150 ho150) := memo_ok K71 hs150 hr150
def hb151 : List (List V) := [y0, y150]
def ha151 : List V := [(.sl .h 0 2 2), (.sl (.o .h) 0 52 52)]
def hv151 : V := (.sl (.i .h) 0 53 53)
def ho151 : List (Pos × List V) := [((.i .h), y152)]
theorem hs151 : stat hb151 ha151 hv151 ho151 = true := by kernel_rfl
theorem hr151 : runOk (un 2 F73 ha151 (mkS hb151) fun v S => some (v, S)) hv151 ho151 = true := by kernel_rfl
theorem hm151 : FOK Tryz.prog 73 (memoF hb151 ha151 hv151 ho151) := memo_ok K73 hs151 hr151
def hb152 : List (List V) := [y152, y147]
def ha152 : List V := [(.sl .h 0 53 53), (.sl (.o .h) 0 51 51)]
def hv152 : V := (.sl (.i .h) 0 53 53)
def ho152 : List (Pos × List V) := [((.i .h), y153)]
theorem hs152 : stat hb152 ha152 hv152 ho152 = true := by kernel_rfl
theorem hr152 : runOk (un 2 F72 ha152 (mkS hb152) fun v S => some (v, S)) hv152 ho152 = true := by kernel_rfl
theorem hm152 : FOK Tryz.prog 72 (memoF hb152 ha152 hv152 ho152) := memo_ok K72 hs152 hr152
def hb153 : List (List V) := [y151, y153]
def ha153 : List V := [(.sl .h 0 52 52), (.sl (.o .h) 0 53 53)]
def hv153 : V := (.sl (.i .h) 0 53 53)
def ho153 : List (Pos × List V) := [((.i .h), y154)]
theorem hs153 : stat hb153 ha153 hv153 ho153 = true := by kernel_rfl
theorem hr153 : runOk (un 2 F71 ha153 (mkS hb153) fun v S => some (v, S)) hv153 ho153 = true := by kernel_rfl
theorem hm153 : FOK Tryz.prog 71 (memoF hb153 ha153 hv153 ho153) := memo_ok K71 hs153 hr153
def hb154 : List (List V) := [y0, y153]
def ha154 : List V := [(.sl .h 0 2 2), (.sl (.o .h) 0 53 53)]
def hv154 : V := (.sl (.i .h) 0 54 54)
def ho154 : List (Pos × List V) := [((.i .h), y155)]
theorem hs154 : stat hb154 ha154 hv154 ho154 = true := by kernel_rfl
theorem hr154 : runOk (un 2 F73 ha154 (mkS hb154) fun v S => some (v, S)) hv154 ho154 = true := by kernel_rfl
theorem hm154 : FOK Tryz.prog 73 (memoF hb154 ha154 hv154 ho154) := memo_ok K73 hs154 hr154
def hb155 : List (List V) := [y155, y150]
def ha155 : List V := [(.sl .h 0 54 54), (.sl (.o .h) 0 52 52)]
def hv155 : V := (.sl (.i .h) 0 54 54)
def ho155 : List (Pos × List V) := [((.i .h), y156)]
theorem hs155 : stat hb155 ha155 hv155 ho155 = true := by kernel_rfl
theorem hr155 : runOk (un 2 F72 ha155 (mkS hb155) fun v S => some (v, S)) hv155 ho155 = true := by kernel_rfl
theorem hm155 : FOK Tryz.prog 72 (memoF hb155 ha155 hv155 ho155) := memo_ok K72 hs155 hr155
def hb156 : List (List V) := [y154, y156]
def ha156 : List V := [(.sl .h 0 53 53), (.sl (.o .h) 0 54 54)]
def hv156 : V := (.sl (.i .h) 0 54 54)
def ho156 : List (Pos × List V) := [((.i .h), y157)]
theorem hs156 : stat hb156 ha156 hv156 ho156 = true := by kernel_rfl
theorem hr156 : runOk (un 2 F71 ha156 (mkS hb156) fun v S => some (v, S)) hv156 ho156 = true := by kernel_rfl
theorem hm156 : FOK Tryz.prog 71 (memoF hb156 ha156 hv156 ho156) := memo_ok K71 hs156 hr156
def hb157 : List (List V) := [y0, y156]
def ha157 : List V := [(.sl .h 0 2 2), (.sl (.o .h) 0 54 54)]
def hv157 : V := (.sl (.i .h) 0 55 55)
def ho157 : List (Pos × List V) := [((.i .h), y158)]
theorem hs157 : stat hb157 ha157 hv157 ho157 = true := by kernel_rfl
theorem hr157 : runOk (un 2 F73 ha157 (mkS hb157) fun v S => some (v, S)) hv157 ho157 = true := by kernel_rfl
theorem hm157 : FOK Tryz.prog 73 (memoF hb157 ha157 hv157 ho157) := memo_ok K73 hs157 hr157
end
end Go.AM
