/- Sums, differences and products of these polynomials, by their runs. -/
import Derived.Test.YtpendgpnikmohaaGreatRH
import Derived.Test.YtpendgpnikmohaaGreatXM6
import Derived.Test.YtpendgpnikmohaaGreatMHD
set_option maxRecDepth 1000000
set_option linter.unusedVariables false
namespace Go.AM
open Go.Proofs
noncomputable section
def hb158 : List (List V) := [y158, y153]
def ha158 : List V := [(.sl .h 0 55 55), (.sl (.o .h) 0 53 53)]
def hv158 : V := (.sl (.i .h) 0 55 55)
def ho158 : List (Pos × List V) := [((.i .h), y159)]
theorem hs158 : stat hb158 ha158 hv158 ho158 = true := by kernel_rfl
theorem hr158 : runOk (un 2 F72 ha158 (mkS hb158) fun v S => some (v, S)) hv158 ho158 = true := by kernel_rfl
theorem hm158 : FOK Tryz.prog 72 (memoF hb158 ha158 hv158 ho158) := memo_ok K72 hs158 hr158
def hb159 : List (List V) := [y157, y159]
def ha159 : List V := [(.sl .h 0 54 54), (.sl (.o .h) 0 55 55)]
def hv159 : V := (.sl (.i .h) 0 55 55)
def ho159 : List (Pos × List V) := [((.i .h), y160)]
theorem hs159 : stat hb159 ha159 hv159 ho159 = true := by kernel_rfl
theorem hr159 : runOk (un 2 F71 ha159 (mkS hb159) fun v S => some (v, S)) hv159 ho159 = true := by kernel_rfl
theorem hm159 : FOK Tryz.prog 71 (memoF hb159 ha159 hv159 ho159) := memo_ok K71 hs159 hr159
def hb160 : List (List V) := [y0, y159]
def ha160 : List V := [(.sl .h 0 2 2), (.sl (.o .h) 0 55 55)]
def hv160 : V := (.sl (.i .h) 0 56 56)
def ho160 : List (Pos × List V) := [((.i .h), y161)]
theorem hs160 : stat hb160 ha160 hv160 ho160 = true := by kernel_rfl
theorem hr160 : runOk (un 2 F73 ha160 (mkS hb160) fun v S => some (v, S)) hv160 ho160 = true := by kernel_rfl
theorem hm160 : FOK Tryz.prog 73 (memoF hb160 ha160 hv160 ho160) := memo_ok K73 hs160 hr160
def hb161 : List (List V) := [y161, y156]
def ha161 : List V := [(.sl .h 0 56 56), (.sl (.o .h) 0 54 54)]
def hv161 : V := (.sl (.i .h) 0 56 56)
def ho161 : List (Pos × List V) := [((.i .h), y162)]
theorem hs161 : stat hb161 ha161 hv161 ho161 = true := by kernel_rfl
theorem hr161 : runOk (un 2 F72 ha161 (mkS hb161) fun v S => some (v, S)) hv161 ho161 = true := by kernel_rfl
theorem hm161 : FOK Tryz.prog 72 (memoF hb161 ha161 hv161 ho161) := memo_ok K72 hs161 hr161
def hb162 : List (List V) := [y160, y162]
def ha162 : List V := [(.sl .h 0 55 55), (.sl (.o .h) 0 56 56)]
def hv162 : V := (.sl (.i .h) 0 56 56)
def ho162 : List (Pos × List V) := [((.i .h), y163)]
theorem hs162 : stat hb162 ha162 hv162 ho162 = true := by kernel_rfl
theorem hr162 : runOk (un 2 F71 ha162 (mkS hb162) fun v S => some (v, S)) hv162 ho162 = true := by kernel_rfl
theorem hm162 : FOK Tryz.prog 71 (memoF hb162 ha162 hv162 ho162) := memo_ok K71 hs162 hr162
def hb163 : List (List V) := [y0, y162]
def ha163 : List V := [(.sl .h 0 2 2), (.sl (.o .h) 0 56 56)]
def hv163 : V := (.sl (.i .h) 0 57 57)
def ho163 : List (Pos × List V) := [((.i .h), y164)]
theorem hs163 : stat hb163 ha163 hv163 ho163 = true := by kernel_rfl
theorem hr163 : runOk (un 2 F73 ha163 (mkS hb163) fun v S => some (v, S)) hv163 ho163 = true := by kernel_rfl
theorem hm163 : FOK Tryz.prog 73 (memoF hb163 ha163 hv163 ho163) := memo_ok K73 hs163 hr163
def hb164 : List (List V) := [y164, y159]
def ha164 : List V := [(.sl .h 0 57 57), (.sl (.o .h) 0 55 55)]
def hv164 : V := (.sl (.i .h) 0 57 57)
def ho164 : List (Pos × List V) := [((.i .h), y165)]
theorem hs164 : stat hb164 ha164 hv164 ho164 = true := by kernel_rfl
theorem hr164 : runOk (un 2 F72 ha164 (mkS hb164) fun v S => some (v, S)) hv164 ho164 = true := by kernel_rfl
theorem hm164 : FOK Tryz.prog 72 (memoF hb164 ha164 hv164 ho164) := memo_ok K72 hs164 hr164
def hb165 : List (List V) := [y163, y165]
def ha165 : List V := [(.sl .h 0 56 56), (.sl (.o .h) 0 57 57)]
def hv165 : V := (.sl (.i .h) 0 57 57)
def ho165 : List (Pos × List V) := [((.i .h), y166)]
theorem hs165 : stat hb165 ha165 hv165 ho165 = true := by kernel_rfl
theorem hr165 : runOk (un 2 F71 ha165 (mkS hb165) fun v S => some (v, S)) hv165 ho165 = true := by kernel_rfl
theorem hm165 : FOK Tryz.prog 71 (memoF hb165 ha165 hv165 ho165) := memo_ok K71 hs165 hr165
def hb166 : List (List V) := [y0, y165]
def ha166 : List V := [(.sl .h 0 2 2), (.sl (.o .h) 0 57 57)]
def hv166 : V := (.sl (.i .h) 0 58 58)
def ho166 : List (Pos × List V) := [((.i .h), y167)]
theorem hs166 : stat hb166 ha166 hv166 ho166 = true := by kernel_rfl
theorem hr166 : runOk (un 2 F73 ha166 (mkS hb166) fun v S => some (v, S)) hv166 ho166 = true := by kernel_rfl
theorem hm166 : FOK Tryz.prog 73 (memoF hb166 ha166 hv166 ho166) := memo_ok K73 hs166 hr166
def hb167 : List (List V) := [y167, y162]
def ha167 : List V := [(.sl .h 0 58 58), (.sl (.o .h) 0 56 56)]
def hv167 : V := (.sl (.i .h) 0 58 58)
def ho167 : List (Pos × List V) := [((.i .h), y168)]
theorem hs167 : stat hb167 ha167 hv167 ho167 = true := by kernel_rfl
theorem hr167 : runOk (un 2 F72 ha167 (mkS hb167) fun v S => some (v, S)) hv167 ho167 = true := by kernel_rfl
theorem hm167 : FOK Tryz.prog 72 (memoF hb167 ha167 hv167 ho167) := memo_ok K72 hs167 hr167
def hb168 : List (List V) := [y166, y168]
def ha168 : List V := [(.sl .h 0 57 57), (.sl (.o .h) 0 58 58)]
def hv168 : V := (.sl (.i .h) 0 58 58)
def ho168 : List (Pos × List V) := [((.i .h), y169)]
theorem hs168 : stat hb168 ha168 hv168 ho168 = true := by kernel_rfl
theorem hr168 : runOk (un 2 F71 ha168 (mkS hb168) fun v S => some (v, S)) hv168 ho168 = true := by kernel_rfl
theorem hm168 : FOK Tryz.prog 71 (memoF hb168 ha168 hv168 ho168) := memo_ok K71 hs168 hr168
def hb169 : List (List V) := [y0, y168]
def ha169 : List V := [(.sl .h 0 2 2), (.sl (.o .h) 0 58 58)]
def hv169 : V := (.sl (.i .h) 0 59 59)
def ho169 : List (Pos × List V) := [((.i .h), y170)]
theorem hs169 : stat hb169 ha169 hv169 ho169 = true := by kernel_rfl
theorem hr169 : runOk (un 2 F73 ha169 (mkS hb169) fun v S => some (v, S)) hv169 ho169 = true := by kernel_rfl
theorem hm169 : FOK Tryz.prog 73 (memoF hb169 ha169 hv169 ho169) := memo_ok K73 hs169 hr169
def hb170 : List (List V) := [y170, y165]
def ha170 : List V := [(.sl .h 0 59 59), (.sl (.o .h) 0 57 57)]
def hv170 : V := (.sl (.i .h) 0 59 59)
def ho170 : List (Pos × List V) := [((.i .h), y171)]
theorem hs170 : stat hb170 ha170 hv170 ho170 = true := by kernel_rfl
theorem hr170 : runOk (un 2 F72 ha170 (mkS hb170) fun v S => some (v, S)) hv170 ho170 = true := by kernel_rfl
theorem hm170 : FOK Tryz.prog 72 (memoF hb170 ha170 hv170 ho170) := memo_ok K72 hs170 hr170
def hb171 : List (List V) := [y169, y171]
def ha171 : List V := [(.sl .h 0 58 58), (.sl (.o .h) 0 59 59)]
def hv171 : V := (.sl (.i .h) 0 59 59)
def ho171 : List (Pos × List V) := [((.i .h), y172)]
theorem hs171 : stat hb171 ha171 hv171 ho171 = true := by kernel_rfl
theorem hr171 : runOk (un 2 F71 ha171 (mkS hb171) fun v S => some (v, S)) hv171 ho171 = true := by kernel_rfl
theorem hm171 : FOK Tryz.prog 71 (memoF hb171 ha171 hv171 ho171) := memo_ok K71 hs171 hr171
def hb172 : List (List V) := [y0, y171]
def ha172 : List V := [(.sl .h 0 2 2), (.sl (.o .h) 0 59 59)]
def hv172 : V := (.sl (.i .h) 0 60 60)
def ho172 : List (Pos × List V) := [((.i .h), y173)]
theorem hs172 : stat hb172 ha172 hv172 ho172 = true := by kernel_rfl
theorem hr172 : runOk (un 2 F73 ha172 (mkS hb172) fun v S => some (v, S)) hv172 ho172 = true := by kernel_rfl
theorem hm172 : FOK Tryz.prog 73 (memoF hb172 ha172 hv172 ho172) := memo_ok K73 hs172 hr172
def hb173 : List (List V) := [y173, y168]
def ha173 : List V := [(.sl .h 0 60 60), (.sl (.o .h) 0 58 58)]
def hv173 : V := (.sl (.i .h) 0 60 60)
def ho173 : List (Pos × List V) := [((.i .h), y174)]
theorem hs173 : stat hb173 ha173 hv173 ho173 = true := by kernel_rfl
theorem hr173 : runOk (un 2 F72 ha173 (mkS hb173) fun v S => some (v, S)) hv173 ho173 = true := by kernel_rfl
theorem hm173 : FOK Tryz.prog 72 (memoF hb173 ha173 hv173 ho173) := memo_ok K72 hs173 hr173
def hb174 : List (List V) := [y172, y174]
def ha174 : List V := [(.sl .h 0 59 59), (.sl (.o .h) 0 60 60)]
def hv174 : V := (.sl (.i .h) 0 60 60)
def ho174 : List (Pos × List V) := [((.i .h), y175)]
theorem hs174 : stat hb174 ha174 hv174 ho174 = true := by kernel_rfl
theorem hr174 : runOk (un 2 F71 ha174 (mkS hb174) fun v S => some (v, S)) hv174 ho174 = true := by kernel_rfl
theorem hm174 : FOK Tryz.prog 71 (memoF hb174 ha174 hv174 ho174) := memo_ok K71 hs174 hr174
def hb175 : List (List V) := [y0, y174]
def ha175 : List V := [(.sl .h 0 2 2), (.sl (.o .h) 0 60 60)]
def hv175 : V := (.sl (.i .h) 0 61 61)
def ho175 : List (Pos × List V) := [((.i .h), y176)]
theorem hs175 : stat hb175 ha175 hv175 ho175 = true := by kernel_rfl
theorem hr175 : runOk (un 2 F73 ha175 (mkS hb175) fun v S => some (v, S)) hv175 ho175 = true := by kernel_rfl
theorem hm175 : FOK Tryz.prog 73 (memoF hb175 ha175 hv175 ho175) := memo_ok K73 hs175 hr175
def hb176 : List (List V) := [y176, y171]
def ha176 : List V := [(.sl .h 0 61 61), (.sl (.o .h) 0 59 59)]
def hv176 : V := (.sl (.i .h) 0 61 61)
def ho176 : List (Pos × List V) := [((.i .h), y177)]
theorem hs176 : stat hb176 ha176 hv176 ho176 = true := by kernel_rfl
theorem hr176 : runOk (un 2 F72 ha176 (mkS hb176) fun v S => some (v, S)) hv176 ho176 = true := by kernel_rfl
theorem hm176 : FOK Tryz.prog 72 (memoF hb176 ha176 hv176 ho176) := memo_ok K72 hs176 hr176
def hb177 : List (List V) := [y175, y177]
def ha177 : List V := [(.sl .h 0 60 60), (.sl (.o .h) 0 61 61)]
def hv177 : V := (.sl (.i .h) 0 61 61)
def ho177 : List (Pos × List V) := [((.i .h), y178)]
theorem hs177 : stat hb177 ha177 hv177 ho177 = true := by kernel_rfl
theorem hr177 : runOk (un 2 F71 ha177 (mkS hb177) fun v S => some (v, S)) hv177 ho177 = true := by kernel_rfl
theorem hm177 : FOK Tryz.prog 71 (memoF hb177 ha177 hv177 ho177) := memo_ok K71 hs177 hr177
def hb178 : List (List V) := [y0, y177]
def ha178 : List V := [(.sl .h 0 2 2), (.sl (.o .h) 0 61 61)]
def hv178 : V := (.sl (.i .h) 0 62 62)
def ho178 : List (Pos × List V) := [((.i .h), y179)]
theorem hs178 : stat hb178 ha178 hv178 ho178 = true := by kernel_rfl
theorem hr178 : runOk (un 2 F73 ha178 (mkS hb178) fun v S => some (v, S)) hv178 ho178 = true := by kernel_rfl
theorem hm178 : FOK Tryz.prog 73 (memoF hb178 ha178 hv178 ho178) := memo_ok K73 hs178 hr178
def hb179 : List (List V) := [y179, y174]
def ha179 : List V := [(.sl .h 0 62 62), (.sl (.o .h) 0 60 60)]
def hv179 : V := (.sl (.i .h) 0 62 62)
def ho179 : List (Pos × List V) := [((.i .h), y180)]
theorem hs179 : stat hb179 ha179 hv179 ho179 = true := by kernel_rfl
theorem hr179 : runOk (un 2 F72 ha179 (mkS hb179) fun v S => some (v, S)) hv179 ho179 = true := by kernel_rfl
theorem hm179 : FOK Tryz.prog 72 (memoF hb179 ha179 hv179 ho179) := memo_ok K72 hs179 hr179
def hb180 : List (List V) := [y178, y180]
def ha180 : List V := [(.sl .h 0 61 61), (.sl (.o .h) 0 62 62)]
def hv180 : V := (.sl (.i .h) 0 62 62)
def ho180 : List (Pos × List V) := [((.i .h), y181)]
theorem hs180 : stat hb180 ha180 hv180 ho180 = true := by kernel_rfl
theorem hr180 : runOk (un 2 F71 ha180 (mkS hb180) fun v S => some (v, S)) hv180 ho180 = true := by kernel_rfl
theorem hm180 : FOK Tryz.prog 71 (memoF hb180 ha180 hv180 ho180) := memo_ok K71 hs180 hr180
def hb181 : List (List V) := [y0, y180]
def ha181 : List V := [(.sl .h 0 2 2), (.sl (.o .h) 0 62 62)]
def hv181 : V := (.sl (.i .h) 0 63 63)
def ho181 : List (Pos × List V) := [((.i .h), y182)]
theorem hs181 : stat hb181 ha181 hv181 ho181 = true := by kernel_rfl
theorem hr181 : runOk (un 2 F73 ha181 (mkS hb181) fun v S => some (v, S)) hv181 ho181 = true := by kernel_rfl
theorem hm181 : FOK Tryz.prog 73 (memoF hb181 ha181 hv181 ho181) := memo_ok K73 hs181 hr181
def hb182 : List (List V) := [y182, y177]
def ha182 : List V := [(.sl .h 0 63 63), (.sl (.o .h) 0 61 61)]
def hv182 : V := (.sl (.i .h) 0 63 63)
def ho182 : List (Pos × List V) := [((.i .h), y183)]
theorem hs182 : stat hb182 ha182 hv182 ho182 = true := by kernel_rfl
theorem hr182 : runOk (un 2 F72 ha182 (mkS hb182) fun v S => some (v, S)) hv182 ho182 = true := by kernel_rfl
theorem hm182 : FOK Tryz.prog 72 (memoF hb182 ha182 hv182 ho182) := memo_ok K72 hs182 hr182
def hb183 : List (List V) := [y181, y183]
def ha183 : List V := [(.sl .h 0 62 62), (.sl (.o .h) 0 63 63)]
def hv183 : V := (.sl (.i .h) 0 63 63)
def ho183 : List (Pos × List V) := [((.i .h), y184)]
theorem hs183 : stat hb183 ha183 hv183 ho183 = true := by kernel_rfl
theorem hr183 : runOk (un 2 F71 ha183 (mkS hb183) fun v S => some (v, S)) hv183 ho183 = true := by kernel_rfl
theorem hm183 : FOK Tryz.prog 71 (memoF hb183 ha183 hv183 ho183) := memo_ok K71 hs183 hr183
def hb184 : List (List V) := [y0, y183]
def ha184 : List V := [(.sl .h 0 2 2), (.sl (.o .h) 0 63 63)]
def hv184 : V := (.sl (.i .h) 0 64 64)
def ho184 : List (Pos × List V) := [((.i .h), y185)]
theorem hs184 : stat hb184 ha184 hv184 ho184 = true := by kernel_rfl
theorem hr184 : runOk (un 2 F73 ha184 (mkS hb184) fun v S => some (v, S)) hv184 ho184 = true := by kernel_rfl
theorem hm184 : FOK Tryz.prog 73 (memoF hb184 ha184 hv184 ho184) := memo_ok K73 hs184 hr184
def hb185 : List (List V) := [y185, y180]
def ha185 : List V := [(.sl .h 0 64 64), (.sl (.o .h) 0 62 62)]
def hv185 : V := (.sl (.i .h) 0 64 64)
def ho185 : List (Pos × List V) := [((.i .h), y186)]
theorem hs185 : stat hb185 ha185 hv185 ho185 = true := by kernel_rfl
theorem hr185 : runOk (un 2 F72 ha185 (mkS hb185) fun v S => some (v, S)) hv185 ho185 = true := by kernel_rfl
theorem hm185 : FOK Tryz.prog 72 (memoF hb185 ha185 hv185 ho185) := memo_ok K72 hs185 hr185
def hb186 : List (List V) := [y184, y186]
def ha186 : List V := [(.sl .h 0 63 63), (.sl (.o .h) 0 64 64)]
def hv186 : V := (.sl (.i .h) 0 64 64)
def ho186 : List (Pos × List V) := [((.i .h), y187)]
theorem hs186 : stat hb186 ha186 hv186 ho186 = true := by kernel_rfl
theorem hr186 : runOk (un 2 F71 ha186 (mkS hb186) fun v S => some (v, S)) hv186 ho186 = true := by kernel_rfl
theorem hm186 : FOK Tryz.prog 71 (memoF hb186 ha186 hv186 ho186) := memo_ok K71 hs186 hr186
def hb187 : List (List V) := [y0, y186]
def ha187 : List V := [(.sl .h 0 2 2), (.sl (.o .h) 0 64 64)]
def hv187 : V := (.sl (.i .h) 0 65 65)
def ho187 : List (Pos × List V) := [((.i .h), y188)]
theorem hs187 : stat hb187 ha187 hv187 ho187 = true := by kernel_rfl
theorem hr187 : runOk (un 2 F73 ha187 (mkS hb187) fun v S => some (v, S)) hv187 ho187 = true := by kernel_rfl
theorem hm187 : FOK Tryz.prog 73 (memoF hb187 ha187 hv187 ho187) := memo_ok K73 hs187 hr187
def hb188 : List (List V) := [y188, y183]
def ha188 : List V := [(.sl .h 0 65 65), (.sl (.o .h) 0 63 63)]
def hv188 : V := (.sl (.i .h) 0 65 65)
def ho188 : List (Pos × List V) := [((.i .h), y189)]
theorem hs188 : stat hb188 ha188 hv188 ho188 = true := by kernel_rfl
theorem hr188 : runOk (un 2 F72 ha188 (mkS hb188) fun v S => some (v, S)) hv188 ho188 = true := by kernel_rfl
theorem hm188 : FOK Tryz.prog 72 (memoF hb188 ha188 hv188 ho188) := memo_ok K72 hs188 hr188
def hb189 : List (List V) := [y187, y189]
def ha189 : List V := [(.sl .h 0 64 64), (.sl (.o .h) 0 65 65)]
def hv189 : V := (.sl (.i .h) 0 65 65)
def ho189 : List (Pos × List V) := [((.i .h), y190)]
theorem hs189 : stat hb189 ha189 hv189 ho189 = true := by kernel_rfl
theorem hr189 : runOk (un 2 F71 ha189 (mkS hb189) fun v S => some (v, S)) hv189 ho189 = true := by kernel_rfl
theorem hm189 : FOK Tryz.prog 71 (memoF hb189 ha189 hv189 ho189) := memo_ok K71 hs189 hr189
def hb190 : List (List V) := [y0, y189]
def ha190 : List V := [(.sl .h 0 2 2), (.sl (.o .h) 0 65 65)]
def hv190 : V := (.sl (.i .h) 0 66 66)
def ho190 : List (Pos × List V) := [((.i .h), y191)]
theorem hs190 : stat hb190 ha190 hv190 ho190 = true := by kernel_rfl
theorem hr190 : runOk (un 2 F73 ha190 (mkS hb190) fun v S => some (v, S)) hv190 ho190 = true := by kernel_rfl
theorem hm190 : FOK Tryz.prog 73 (memoF hb190 ha190 hv190 ho190) := memo_ok K73 hs190 hr190
def hb191 : List (List V) := [y191, y186]
def ha191 : List V := [(.sl .h 0 66 66), (.sl (.o .h) 0 64 64)]
def hv191 : V := (.sl (.i .h) 0 66 66)
def ho191 : List (Pos × List V) := [((.i .h), y192)]
theorem hs191 : stat hb191 ha191 hv191 ho191 = true := by kernel_rfl
theorem hr191 : runOk (un 2 F72 ha191 (mkS hb191) fun v S => some (v, S)) hv191 ho191 = true := by kernel_rfl
theorem hm191 : FOK Tryz.prog 72 (memoF hb191 ha191 hv191 ho191) := memo_ok K72 hs191 hr191
end
end Go.AM
