/- Cyclotomic polynomials and units, by their runs. -/
import Derived.Test.YtndgeimkifdifaaGreatMEB0
set_option maxRecDepth 1000000
set_option linter.unusedVariables false
namespace Go.AM
open Go.Proofs
noncomputable section
def ehb111 : List (List V) := []
def eha111 : List V := [(.i .i64 42)]
def ehv111 : V := (.sl (.i (.i (.i (.o (.i (.o (.o .h))))))) 0 13 13)
def eho111 : List (Pos × List V) := [((.i (.i (.i (.o (.i (.o (.o .h))))))), ey97)]
theorem ehs111 : stat ehb111 eha111 ehv111 eho111 = true := by kernel_rfl
theorem ehr111 : runOk (un 1 F66 eha111 (mkS ehb111) fun v S => some (v, S)) ehv111 eho111 = true := by kernel_rfl
theorem ehm111 : FOK Tryz.prog 66 (memoF ehb111 eha111 ehv111 eho111) := memo_ok K66 ehs111 ehr111
def ehb112 : List (List V) := []
def eha112 : List V := [(.i .i64 42)]
def ehv112 : V := (.so (.o (.o (.o (.i .h)))) 0 12 12 1)
def eho112 : List (Pos × List V) := [((.o (.o (.o (.i .h)))), ey98)]
theorem ehs112 : stat ehb112 eha112 ehv112 eho112 = true := by kernel_rfl
theorem ehr112 : runOk (un 1 F67b eha112 (mkS ehb112) fun v S => some (v, S)) ehv112 eho112 = true := by kernel_rfl
theorem ehm112 : FOK Tryz.prog 67 (memoF ehb112 eha112 ehv112 eho112) := memo_ok K67b ehs112 ehr112
def ehb113 : List (List V) := []
def eha113 : List V := [(.i .i64 42)]
def ehv113 : V := (.so (.o (.i (.o (.i (.o (.o (.i .h))))))) 0 13 13 3)
def eho113 : List (Pos × List V) := [((.o (.i (.o (.i (.o (.o (.i .h))))))), ey99)]
theorem ehs113 : stat ehb113 eha113 ehv113 eho113 = true := by kernel_rfl
theorem ehr113 : runOk (un 1 F17b eha113 (mkS ehb113) fun v S => some (v, S)) ehv113 eho113 = true := by kernel_rfl
theorem ehm113 : FOK Tryz.prog 17 (memoF ehb113 eha113 ehv113 eho113) := memo_ok K17b ehs113 ehr113
def ehb114 : List (List V) := []
def eha114 : List V := [(.i .i64 44)]
def ehv114 : V := (.sl (.i (.i (.o (.i (.i (.o .h)))))) 0 21 21)
def eho114 : List (Pos × List V) := [((.i (.i (.o (.i (.i (.o .h)))))), ey100)]
theorem ehs114 : stat ehb114 eha114 ehv114 eho114 = true := by kernel_rfl
theorem ehr114 : runOk (un 1 F66 eha114 (mkS ehb114) fun v S => some (v, S)) ehv114 eho114 = true := by kernel_rfl
theorem ehm114 : FOK Tryz.prog 66 (memoF ehb114 eha114 ehv114 eho114) := memo_ok K66 ehs114 ehr114
def ehb115 : List (List V) := []
def eha115 : List V := [(.i .i64 44)]
def ehv115 : V := (.so (.o (.o (.o (.i (.o .h))))) 0 20 20 1)
def eho115 : List (Pos × List V) := [((.o (.o (.o (.i (.o .h))))), ey101)]
theorem ehs115 : stat ehb115 eha115 ehv115 eho115 = true := by kernel_rfl
theorem ehr115 : runOk (un 1 F67b eha115 (mkS ehb115) fun v S => some (v, S)) ehv115 eho115 = true := by kernel_rfl
theorem ehm115 : FOK Tryz.prog 67 (memoF ehb115 eha115 ehv115 eho115) := memo_ok K67b ehs115 ehr115
def ehb116 : List (List V) := []
def eha116 : List V := [(.i .i64 44)]
def ehv116 : V := (.so (.o (.o (.o (.i (.i (.i (.o .h))))))) 0 21 21 3)
def eho116 : List (Pos × List V) := [((.o (.o (.o (.i (.i (.i (.o .h))))))), ey102)]
theorem ehs116 : stat ehb116 eha116 ehv116 eho116 = true := by kernel_rfl
theorem ehr116 : runOk (un 1 F17b eha116 (mkS ehb116) fun v S => some (v, S)) ehv116 eho116 = true := by kernel_rfl
theorem ehm116 : FOK Tryz.prog 17 (memoF ehb116 eha116 ehv116 eho116) := memo_ok K17b ehs116 ehr116
def ehb117 : List (List V) := []
def eha117 : List V := [(.i .i64 45)]
def ehv117 : V := (.sl (.i (.i (.o (.i (.i (.o .h)))))) 0 25 25)
def eho117 : List (Pos × List V) := [((.i (.i (.o (.i (.i (.o .h)))))), ey103)]
theorem ehs117 : stat ehb117 eha117 ehv117 eho117 = true := by kernel_rfl
theorem ehr117 : runOk (un 1 F66 eha117 (mkS ehb117) fun v S => some (v, S)) ehv117 eho117 = true := by kernel_rfl
theorem ehm117 : FOK Tryz.prog 66 (memoF ehb117 eha117 ehv117 eho117) := memo_ok K66 ehs117 ehr117
def ehb118 : List (List V) := []
def eha118 : List V := [(.i .i64 45)]
def ehv118 : V := (.so (.o (.o (.o (.o (.i .h))))) 0 24 24 1)
def eho118 : List (Pos × List V) := [((.o (.o (.o (.o (.i .h))))), ey104)]
theorem ehs118 : stat ehb118 eha118 ehv118 eho118 = true := by kernel_rfl
theorem ehr118 : runOk (un 1 F67b eha118 (mkS ehb118) fun v S => some (v, S)) ehv118 eho118 = true := by kernel_rfl
theorem ehm118 : FOK Tryz.prog 67 (memoF ehb118 eha118 ehv118 eho118) := memo_ok K67b ehs118 ehr118
def ehb119 : List (List V) := []
def eha119 : List V := [(.i .i64 45)]
def ehv119 : V := (.so (.o (.o (.o (.i (.o (.o (.o .h))))))) 0 25 25 3)
def eho119 : List (Pos × List V) := [((.o (.o (.o (.i (.o (.o (.o .h))))))), ey105)]
theorem ehs119 : stat ehb119 eha119 ehv119 eho119 = true := by kernel_rfl
theorem ehr119 : runOk (un 1 F17b eha119 (mkS ehb119) fun v S => some (v, S)) ehv119 eho119 = true := by kernel_rfl
theorem ehm119 : FOK Tryz.prog 17 (memoF ehb119 eha119 ehv119 eho119) := memo_ok K17b ehs119 ehr119
def ehb120 : List (List V) := []
def eha120 : List V := [(.i .i64 46)]
def ehv120 : V := (.sl (.i (.i (.i (.i .h)))) 0 23 23)
def eho120 : List (Pos × List V) := [((.i (.i (.i (.i .h)))), ey106)]
theorem ehs120 : stat ehb120 eha120 ehv120 eho120 = true := by kernel_rfl
theorem ehr120 : runOk (un 1 F66 eha120 (mkS ehb120) fun v S => some (v, S)) ehv120 eho120 = true := by kernel_rfl
theorem ehm120 : FOK Tryz.prog 66 (memoF ehb120 eha120 ehv120 eho120) := memo_ok K66 ehs120 ehr120
def ehb121 : List (List V) := []
def eha121 : List V := [(.i .i64 46)]
def ehv121 : V := (.so (.o (.o (.i (.i (.o .h))))) 0 22 22 1)
def eho121 : List (Pos × List V) := [((.o (.o (.i (.i (.o .h))))), ey107)]
theorem ehs121 : stat ehb121 eha121 ehv121 eho121 = true := by kernel_rfl
theorem ehr121 : runOk (un 1 F67b eha121 (mkS ehb121) fun v S => some (v, S)) ehv121 eho121 = true := by kernel_rfl
theorem ehm121 : FOK Tryz.prog 67 (memoF ehb121 eha121 ehv121 eho121) := memo_ok K67b ehs121 ehr121
def ehb122 : List (List V) := []
def eha122 : List V := [(.i .i64 46)]
def ehv122 : V := (.so (.o (.i (.o (.o (.o (.o (.i (.o .h)))))))) 0 23 23 3)
def eho122 : List (Pos × List V) := [((.o (.i (.o (.o (.o (.o (.i (.o .h)))))))), ey108)]
theorem ehs122 : stat ehb122 eha122 ehv122 eho122 = true := by kernel_rfl
theorem ehr122 : runOk (un 1 F17b eha122 (mkS ehb122) fun v S => some (v, S)) ehv122 eho122 = true := by kernel_rfl
theorem ehm122 : FOK Tryz.prog 17 (memoF ehb122 eha122 ehv122 eho122) := memo_ok K17b ehs122 ehr122
def ehb123 : List (List V) := []
def eha123 : List V := [(.i .i64 48)]
def ehv123 : V := (.sl (.i (.i (.o (.i (.i (.i (.o (.o (.o .h))))))))) 0 17 17)
def eho123 : List (Pos × List V) := [((.i (.i (.o (.i (.i (.i (.o (.o (.o .h))))))))), ey109)]
theorem ehs123 : stat ehb123 eha123 ehv123 eho123 = true := by kernel_rfl
theorem ehr123 : runOk (un 1 F66 eha123 (mkS ehb123) fun v S => some (v, S)) ehv123 eho123 = true := by kernel_rfl
theorem ehm123 : FOK Tryz.prog 66 (memoF ehb123 eha123 ehv123 eho123) := memo_ok K66 ehs123 ehr123
def ehb124 : List (List V) := []
def eha124 : List V := [(.i .i64 48)]
def ehv124 : V := (.so (.o (.o (.o (.o (.o .h))))) 0 16 16 1)
def eho124 : List (Pos × List V) := [((.o (.o (.o (.o (.o .h))))), ey110)]
theorem ehs124 : stat ehb124 eha124 ehv124 eho124 = true := by kernel_rfl
theorem ehr124 : runOk (un 1 F67b eha124 (mkS ehb124) fun v S => some (v, S)) ehv124 eho124 = true := by kernel_rfl
theorem ehm124 : FOK Tryz.prog 67 (memoF ehb124 eha124 ehv124 eho124) := memo_ok K67b ehs124 ehr124
def ehb125 : List (List V) := []
def eha125 : List V := [(.i .i64 48)]
def ehv125 : V := (.so (.o (.o (.i (.o (.o (.i .h)))))) 0 17 17 3)
def eho125 : List (Pos × List V) := [((.o (.o (.i (.o (.o (.i .h)))))), ey111)]
theorem ehs125 : stat ehb125 eha125 ehv125 eho125 = true := by kernel_rfl
theorem ehr125 : runOk (un 1 F17b eha125 (mkS ehb125) fun v S => some (v, S)) ehv125 eho125 = true := by kernel_rfl
theorem ehm125 : FOK Tryz.prog 17 (memoF ehb125 eha125 ehv125 eho125) := memo_ok K17b ehs125 ehr125
def ehb126 : List (List V) := []
def eha126 : List V := [(.i .i64 50)]
def ehv126 : V := (.sl (.i (.i (.o (.i (.i (.o .h)))))) 0 21 21)
def eho126 : List (Pos × List V) := [((.i (.i (.o (.i (.i (.o .h)))))), ey112)]
theorem ehs126 : stat ehb126 eha126 ehv126 eho126 = true := by kernel_rfl
theorem ehr126 : runOk (un 1 F66 eha126 (mkS ehb126) fun v S => some (v, S)) ehv126 eho126 = true := by kernel_rfl
theorem ehm126 : FOK Tryz.prog 66 (memoF ehb126 eha126 ehv126 eho126) := memo_ok K66 ehs126 ehr126
def ehb127 : List (List V) := []
def eha127 : List V := [(.i .i64 50)]
def ehv127 : V := (.so (.o (.o (.o (.i (.o .h))))) 0 20 20 1)
def eho127 : List (Pos × List V) := [((.o (.o (.o (.i (.o .h))))), ey113)]
theorem ehs127 : stat ehb127 eha127 ehv127 eho127 = true := by kernel_rfl
theorem ehr127 : runOk (un 1 F67b eha127 (mkS ehb127) fun v S => some (v, S)) ehv127 eho127 = true := by kernel_rfl
theorem ehm127 : FOK Tryz.prog 67 (memoF ehb127 eha127 ehv127 eho127) := memo_ok K67b ehs127 ehr127
def ehb128 : List (List V) := []
def eha128 : List V := [(.i .i64 50)]
def ehv128 : V := (.so (.o (.o (.o (.o (.i (.i .h)))))) 0 21 21 3)
def eho128 : List (Pos × List V) := [((.o (.o (.o (.o (.i (.i .h)))))), ey114)]
theorem ehs128 : stat ehb128 eha128 ehv128 eho128 = true := by kernel_rfl
theorem ehr128 : runOk (un 1 F17b eha128 (mkS ehb128) fun v S => some (v, S)) ehv128 eho128 = true := by kernel_rfl
theorem ehm128 : FOK Tryz.prog 17 (memoF ehb128 eha128 ehv128 eho128) := memo_ok K17b ehs128 ehr128
def ehb129 : List (List V) := []
def eha129 : List V := [(.i .i64 52)]
def ehv129 : V := (.sl (.i (.i (.o (.i (.i (.o .h)))))) 0 25 25)
def eho129 : List (Pos × List V) := [((.i (.i (.o (.i (.i (.o .h)))))), ey115)]
theorem ehs129 : stat ehb129 eha129 ehv129 eho129 = true := by kernel_rfl
theorem ehr129 : runOk (un 1 F66 eha129 (mkS ehb129) fun v S => some (v, S)) ehv129 eho129 = true := by kernel_rfl
theorem ehm129 : FOK Tryz.prog 66 (memoF ehb129 eha129 ehv129 eho129) := memo_ok K66 ehs129 ehr129
def ehb130 : List (List V) := []
def eha130 : List V := [(.i .i64 52)]
def ehv130 : V := (.so (.o (.o (.o (.o (.i .h))))) 0 24 24 1)
def eho130 : List (Pos × List V) := [((.o (.o (.o (.o (.i .h))))), ey116)]
theorem ehs130 : stat ehb130 eha130 ehv130 eho130 = true := by kernel_rfl
theorem ehr130 : runOk (un 1 F67b eha130 (mkS ehb130) fun v S => some (v, S)) ehv130 eho130 = true := by kernel_rfl
theorem ehm130 : FOK Tryz.prog 67 (memoF ehb130 eha130 ehv130 eho130) := memo_ok K67b ehs130 ehr130
def ehb131 : List (List V) := []
def eha131 : List V := [(.i .i64 52)]
def ehv131 : V := (.so (.o (.o (.o (.o (.i (.o (.i .h))))))) 0 25 25 3)
def eho131 : List (Pos × List V) := [((.o (.o (.o (.o (.i (.o (.i .h))))))), ey117)]
theorem ehs131 : stat ehb131 eha131 ehv131 eho131 = true := by kernel_rfl
theorem ehr131 : runOk (un 1 F17b eha131 (mkS ehb131) fun v S => some (v, S)) ehv131 eho131 = true := by kernel_rfl
theorem ehm131 : FOK Tryz.prog 17 (memoF ehb131 eha131 ehv131 eho131) := memo_ok K17b ehs131 ehr131
def ehb132 : List (List V) := []
def eha132 : List V := [(.i .i64 54)]
def ehv132 : V := (.sl (.i (.i (.o (.i (.o (.i (.i .h))))))) 0 19 19)
def eho132 : List (Pos × List V) := [((.i (.i (.o (.i (.o (.i (.i .h))))))), ey118)]
theorem ehs132 : stat ehb132 eha132 ehv132 eho132 = true := by kernel_rfl
theorem ehr132 : runOk (un 1 F66 eha132 (mkS ehb132) fun v S => some (v, S)) ehv132 eho132 = true := by kernel_rfl
theorem ehm132 : FOK Tryz.prog 66 (memoF ehb132 eha132 ehv132 eho132) := memo_ok K66 ehs132 ehr132
def ehb133 : List (List V) := []
def eha133 : List V := [(.i .i64 54)]
def ehv133 : V := (.so (.o (.o (.i (.o (.o .h))))) 0 18 18 1)
def eho133 : List (Pos × List V) := [((.o (.o (.i (.o (.o .h))))), ey119)]
theorem ehs133 : stat ehb133 eha133 ehv133 eho133 = true := by kernel_rfl
theorem ehr133 : runOk (un 1 F67b eha133 (mkS ehb133) fun v S => some (v, S)) ehv133 eho133 = true := by kernel_rfl
theorem ehm133 : FOK Tryz.prog 67 (memoF ehb133 eha133 ehv133 eho133) := memo_ok K67b ehs133 ehr133
def ehb134 : List (List V) := []
def eha134 : List V := [(.i .i64 54)]
def ehv134 : V := (.so (.o (.i (.i (.i (.i (.o .h)))))) 0 19 19 3)
def eho134 : List (Pos × List V) := [((.o (.i (.i (.i (.i (.o .h)))))), ey120)]
theorem ehs134 : stat ehb134 eha134 ehv134 eho134 = true := by kernel_rfl
theorem ehr134 : runOk (un 1 F17b eha134 (mkS ehb134) fun v S => some (v, S)) ehv134 eho134 = true := by kernel_rfl
theorem ehm134 : FOK Tryz.prog 17 (memoF ehb134 eha134 ehv134 eho134) := memo_ok K17b ehs134 ehr134
def ehb135 : List (List V) := []
def eha135 : List V := [(.i .i64 56)]
def ehv135 : V := (.sl (.i (.i (.o (.i (.o (.i (.i .h))))))) 0 25 25)
def eho135 : List (Pos × List V) := [((.i (.i (.o (.i (.o (.i (.i .h))))))), ey121)]
theorem ehs135 : stat ehb135 eha135 ehv135 eho135 = true := by kernel_rfl
theorem ehr135 : runOk (un 1 F66 eha135 (mkS ehb135) fun v S => some (v, S)) ehv135 eho135 = true := by kernel_rfl
theorem ehm135 : FOK Tryz.prog 66 (memoF ehb135 eha135 ehv135 eho135) := memo_ok K66 ehs135 ehr135
def ehb136 : List (List V) := []
def eha136 : List V := [(.i .i64 56)]
def ehv136 : V := (.so (.o (.o (.o (.o (.i .h))))) 0 24 24 1)
def eho136 : List (Pos × List V) := [((.o (.o (.o (.o (.i .h))))), ey122)]
theorem ehs136 : stat ehb136 eha136 ehv136 eho136 = true := by kernel_rfl
theorem ehr136 : runOk (un 1 F67b eha136 (mkS ehb136) fun v S => some (v, S)) ehv136 eho136 = true := by kernel_rfl
theorem ehm136 : FOK Tryz.prog 67 (memoF ehb136 eha136 ehv136 eho136) := memo_ok K67b ehs136 ehr136
def ehb137 : List (List V) := []
def eha137 : List V := [(.i .i64 56)]
def ehv137 : V := (.so (.o (.i (.i (.i (.o (.o (.o .h))))))) 0 25 25 3)
def eho137 : List (Pos × List V) := [((.o (.i (.i (.i (.o (.o (.o .h))))))), ey123)]
theorem ehs137 : stat ehb137 eha137 ehv137 eho137 = true := by kernel_rfl
theorem ehr137 : runOk (un 1 F17b eha137 (mkS ehb137) fun v S => some (v, S)) ehv137 eho137 = true := by kernel_rfl
theorem ehm137 : FOK Tryz.prog 17 (memoF ehb137 eha137 ehv137 eho137) := memo_ok K17b ehs137 ehr137
def ehb138 : List (List V) := []
def eha138 : List V := [(.i .i64 60)]
def ehv138 : V := (.sl (.i (.i (.o (.i (.o (.o (.o (.o (.o .h))))))))) 0 17 17)
def eho138 : List (Pos × List V) := [((.i (.i (.o (.i (.o (.o (.o (.o (.o .h))))))))), ey124)]
theorem ehs138 : stat ehb138 eha138 ehv138 eho138 = true := by kernel_rfl
theorem ehr138 : runOk (un 1 F66 eha138 (mkS ehb138) fun v S => some (v, S)) ehv138 eho138 = true := by kernel_rfl
theorem ehm138 : FOK Tryz.prog 66 (memoF ehb138 eha138 ehv138 eho138) := memo_ok K66 ehs138 ehr138
end
end Go.AM
