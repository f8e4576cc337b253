/- Products of the reference, by their runs. -/
import Derived.Test.YtpendgpnikmohaaGreatRH
import Derived.Test.YtpendgpnikmohaaGreatXM6
import Derived.Test.YtpendgpnikmohaaGreatMHD
set_option maxRecDepth 1000000
set_option linter.unusedVariables false
namespace Go.AM
open Go.Proofs
noncomputable section
def hb192 : List (List V) := [y193, y193]
def ha192 : List V := [(.so .h 0 3 3 3), (.so (.o .h) 0 3 3 3)]
def hv192 : V := (.so (.i (.i (.i (.i (.o (.o (.o (.o .h)))))))) 0 5 5 3)
def ho192 : List (Pos × List V) := [((.i (.i (.i (.i (.o (.o (.o (.o .h)))))))), y194)]
theorem hs192 : stat hb192 ha192 hv192 ho192 = true := by kernel_rfl
theorem hr192 : runOk (un 2 F20 ha192 (mkS hb192) fun v S => some (v, S)) hv192 ho192 = true := by kernel_rfl
theorem hm192 : FOK Tryz.prog 20 (memoF hb192 ha192 hv192 ho192) := memo_ok K20 hs192 hr192
def hb193 : List (List V) := [y194, y193]
def ha193 : List V := [(.so .h 0 5 5 3), (.so (.o .h) 0 3 3 3)]
def hv193 : V := (.so (.i (.i (.o (.o (.i (.i (.o (.i .h)))))))) 0 7 7 3)
def ho193 : List (Pos × List V) := [((.i (.i (.o (.o (.i (.i (.o (.i .h)))))))), y195)]
theorem hs193 : stat hb193 ha193 hv193 ho193 = true := by kernel_rfl
theorem hr193 : runOk (un 2 F20 ha193 (mkS hb193) fun v S => some (v, S)) hv193 ho193 = true := by kernel_rfl
theorem hm193 : FOK Tryz.prog 20 (memoF hb193 ha193 hv193 ho193) := memo_ok K20 hs193 hr193
def hb194 : List (List V) := [y194, y0]
def ha194 : List V := [(.so .h 0 5 5 3), (.so (.o .h) 0 2 2 3)]
def hv194 : V := (.so (.o (.i (.o (.o (.o (.i (.o (.o .h)))))))) 0 6 6 3)
def ho194 : List (Pos × List V) := [((.o (.i (.o (.o (.o (.i (.o (.o .h)))))))), y196)]
theorem hs194 : stat hb194 ha194 hv194 ho194 = true := by kernel_rfl
theorem hr194 : runOk (un 2 F20 ha194 (mkS hb194) fun v S => some (v, S)) hv194 ho194 = true := by kernel_rfl
theorem hm194 : FOK Tryz.prog 20 (memoF hb194 ha194 hv194 ho194) := memo_ok K20 hs194 hr194
def hb195 : List (List V) := [y195, [(.b false), (.s [1]), (.s [1])]]
def ha195 : List V := [(.so .h 0 7 7 3), (.so (.o .h) 0 1 1 3)]
def hv195 : V := (.so (.i (.i (.o (.i (.o (.i (.i .h))))))) 0 7 7 3)
def ho195 : List (Pos × List V) := [((.i (.i (.o (.i (.o (.i (.i .h))))))), y195)]
theorem hs195 : stat hb195 ha195 hv195 ho195 = true := by kernel_rfl
theorem hr195 : runOk (un 2 F20 ha195 (mkS hb195) fun v S => some (v, S)) hv195 ho195 = true := by kernel_rfl
theorem hm195 : FOK Tryz.prog 20 (memoF hb195 ha195 hv195 ho195) := memo_ok K20 hs195 hr195
def hb196 : List (List V) := [y195, y193]
def ha196 : List V := [(.so .h 0 7 7 3), (.so (.o .h) 0 3 3 3)]
def hv196 : V := (.so (.i (.i (.i (.o (.i (.o (.i (.o (.o .h))))))))) 0 9 9 3)
def ho196 : List (Pos × List V) := [((.i (.i (.i (.o (.i (.o (.i (.o (.o .h))))))))), y197)]
theorem hs196 : stat hb196 ha196 hv196 ho196 = true := by kernel_rfl
theorem hr196 : runOk (un 2 F20 ha196 (mkS hb196) fun v S => some (v, S)) hv196 ho196 = true := by kernel_rfl
theorem hm196 : FOK Tryz.prog 20 (memoF hb196 ha196 hv196 ho196) := memo_ok K20 hs196 hr196
def hb197 : List (List V) := [y193, y198]
def ha197 : List V := [(.so .h 0 3 3 3), (.so (.o .h) 0 4 4 3)]
def hv197 : V := (.so (.o (.o (.o (.o (.o (.o (.i (.o .h)))))))) 0 6 6 3)
def ho197 : List (Pos × List V) := [((.o (.o (.o (.o (.o (.o (.i (.o .h)))))))), y199)]
theorem hs197 : stat hb197 ha197 hv197 ho197 = true := by kernel_rfl
theorem hr197 : runOk (un 2 F20 ha197 (mkS hb197) fun v S => some (v, S)) hv197 ho197 = true := by kernel_rfl
theorem hm197 : FOK Tryz.prog 20 (memoF hb197 ha197 hv197 ho197) := memo_ok K20 hs197 hr197
def hb198 : List (List V) := [y194, y2]
def ha198 : List V := [(.so .h 0 5 5 3), (.so (.o .h) 0 3 3 3)]
def hv198 : V := (.so (.i (.o (.o (.i (.i (.o (.o (.i .h)))))))) 0 7 7 3)
def ho198 : List (Pos × List V) := [((.i (.o (.o (.i (.i (.o (.o (.i .h)))))))), y200)]
theorem hs198 : stat hb198 ha198 hv198 ho198 = true := by kernel_rfl
theorem hr198 : runOk (un 2 F20 ha198 (mkS hb198) fun v S => some (v, S)) hv198 ho198 = true := by kernel_rfl
theorem hm198 : FOK Tryz.prog 20 (memoF hb198 ha198 hv198 ho198) := memo_ok K20 hs198 hr198
def hb199 : List (List V) := [y195, y0]
def ha199 : List V := [(.so .h 0 7 7 3), (.so (.o .h) 0 2 2 3)]
def hv199 : V := (.so (.o (.o (.o (.o (.i (.o (.o (.i .h)))))))) 0 8 8 3)
def ho199 : List (Pos × List V) := [((.o (.o (.o (.o (.i (.o (.o (.i .h)))))))), y201)]
theorem hs199 : stat hb199 ha199 hv199 ho199 = true := by kernel_rfl
theorem hr199 : runOk (un 2 F20 ha199 (mkS hb199) fun v S => some (v, S)) hv199 ho199 = true := by kernel_rfl
theorem hm199 : FOK Tryz.prog 20 (memoF hb199 ha199 hv199 ho199) := memo_ok K20 hs199 hr199
def hb200 : List (List V) := [y197, [(.b false), (.s [1]), (.s [1])]]
def ha200 : List V := [(.so .h 0 9 9 3), (.so (.o .h) 0 1 1 3)]
def hv200 : V := (.so (.i (.i (.o (.i (.o (.i (.o (.o .h)))))))) 0 9 9 3)
def ho200 : List (Pos × List V) := [((.i (.i (.o (.i (.o (.i (.o (.o .h)))))))), y197)]
theorem hs200 : stat hb200 ha200 hv200 ho200 = true := by kernel_rfl
theorem hr200 : runOk (un 2 F20 ha200 (mkS hb200) fun v S => some (v, S)) hv200 ho200 = true := by kernel_rfl
theorem hm200 : FOK Tryz.prog 20 (memoF hb200 ha200 hv200 ho200) := memo_ok K20 hs200 hr200
def hb201 : List (List V) := [y197, y193]
def ha201 : List V := [(.so .h 0 9 9 3), (.so (.o .h) 0 3 3 3)]
def hv201 : V := (.so (.i (.i (.o (.i (.i (.i (.i (.i (.o .h))))))))) 0 11 11 3)
def ho201 : List (Pos × List V) := [((.i (.i (.o (.i (.i (.i (.i (.i (.o .h))))))))), y202)]
theorem hs201 : stat hb201 ha201 hv201 ho201 = true := by kernel_rfl
theorem hr201 : runOk (un 2 F20 ha201 (mkS hb201) fun v S => some (v, S)) hv201 ho201 = true := by kernel_rfl
theorem hm201 : FOK Tryz.prog 20 (memoF hb201 ha201 hv201 ho201) := memo_ok K20 hs201 hr201
def hb202 : List (List V) := [y0, y10]
def ha202 : List V := [(.so .h 0 2 2 3), (.so (.o .h) 0 5 5 3)]
def hv202 : V := (.so (.o (.i (.o (.i (.o (.i (.o (.o .h)))))))) 0 6 6 3)
def ho202 : List (Pos × List V) := [((.o (.i (.o (.i (.o (.i (.o (.o .h)))))))), y203)]
theorem hs202 : stat hb202 ha202 hv202 ho202 = true := by kernel_rfl
theorem hr202 : runOk (un 2 F20 ha202 (mkS hb202) fun v S => some (v, S)) hv202 ho202 = true := by kernel_rfl
theorem hm202 : FOK Tryz.prog 20 (memoF hb202 ha202 hv202 ho202) := memo_ok K20 hs202 hr202
def hb203 : List (List V) := [y193, y204]
def ha203 : List V := [(.so .h 0 3 3 3), (.so (.o .h) 0 5 5 3)]
def hv203 : V := (.so (.i (.i (.o (.o (.o (.o (.o (.i .h)))))))) 0 7 7 3)
def ho203 : List (Pos × List V) := [((.i (.i (.o (.o (.o (.o (.o (.i .h)))))))), y205)]
theorem hs203 : stat hb203 ha203 hv203 ho203 = true := by kernel_rfl
theorem hr203 : runOk (un 2 F20 ha203 (mkS hb203) fun v S => some (v, S)) hv203 ho203 = true := by kernel_rfl
theorem hm203 : FOK Tryz.prog 20 (memoF hb203 ha203 hv203 ho203) := memo_ok K20 hs203 hr203
def hb204 : List (List V) := [y194, y198]
def ha204 : List V := [(.so .h 0 5 5 3), (.so (.o .h) 0 4 4 3)]
def hv204 : V := (.so (.o (.i (.o (.i (.o (.o (.o (.o (.o .h))))))))) 0 8 8 3)
def ho204 : List (Pos × List V) := [((.o (.i (.o (.i (.o (.o (.o (.o (.o .h))))))))), y206)]
theorem hs204 : stat hb204 ha204 hv204 ho204 = true := by kernel_rfl
theorem hr204 : runOk (un 2 F20 ha204 (mkS hb204) fun v S => some (v, S)) hv204 ho204 = true := by kernel_rfl
theorem hm204 : FOK Tryz.prog 20 (memoF hb204 ha204 hv204 ho204) := memo_ok K20 hs204 hr204
def hb205 : List (List V) := [y195, y2]
def ha205 : List V := [(.so .h 0 7 7 3), (.so (.o .h) 0 3 3 3)]
def hv205 : V := (.so (.i (.o (.i (.o (.i (.i (.o (.o (.o .h))))))))) 0 9 9 3)
def ho205 : List (Pos × List V) := [((.i (.o (.i (.o (.i (.i (.o (.o (.o .h))))))))), y207)]
theorem hs205 : stat hb205 ha205 hv205 ho205 = true := by kernel_rfl
theorem hr205 : runOk (un 2 F20 ha205 (mkS hb205) fun v S => some (v, S)) hv205 ho205 = true := by kernel_rfl
theorem hm205 : FOK Tryz.prog 20 (memoF hb205 ha205 hv205 ho205) := memo_ok K20 hs205 hr205
def hb206 : List (List V) := [y197, y0]
def ha206 : List V := [(.so .h 0 9 9 3), (.so (.o .h) 0 2 2 3)]
def hv206 : V := (.so (.o (.i (.i (.i (.i (.i (.i (.i .h)))))))) 0 10 10 3)
def ho206 : List (Pos × List V) := [((.o (.i (.i (.i (.i (.i (.i (.i .h)))))))), y208)]
theorem hs206 : stat hb206 ha206 hv206 ho206 = true := by kernel_rfl
theorem hr206 : runOk (un 2 F20 ha206 (mkS hb206) fun v S => some (v, S)) hv206 ho206 = true := by kernel_rfl
theorem hm206 : FOK Tryz.prog 20 (memoF hb206 ha206 hv206 ho206) := memo_ok K20 hs206 hr206
def hb207 : List (List V) := [y202, [(.b false), (.s [1]), (.s [1])]]
def ha207 : List V := [(.so .h 0 11 11 3), (.so (.o .h) 0 1 1 3)]
def hv207 : V := (.so (.i (.i (.o (.i (.o (.i (.i (.o .h)))))))) 0 11 11 3)
def ho207 : List (Pos × List V) := [((.i (.i (.o (.i (.o (.i (.i (.o .h)))))))), y202)]
theorem hs207 : stat hb207 ha207 hv207 ho207 = true := by kernel_rfl
theorem hr207 : runOk (un 2 F20 ha207 (mkS hb207) fun v S => some (v, S)) hv207 ho207 = true := by kernel_rfl
theorem hm207 : FOK Tryz.prog 20 (memoF hb207 ha207 hv207 ho207) := memo_ok K20 hs207 hr207
def hb208 : List (List V) := [y202, y193]
def ha208 : List V := [(.so .h 0 11 11 3), (.so (.o .h) 0 3 3 3)]
def hv208 : V := (.so (.i (.i (.i (.i (.i (.o (.o (.i (.i .h))))))))) 0 13 13 3)
def ho208 : List (Pos × List V) := [((.i (.i (.i (.i (.i (.o (.o (.i (.i .h))))))))), y209)]
theorem hs208 : stat hb208 ha208 hv208 ho208 = true := by kernel_rfl
theorem hr208 : runOk (un 2 F20 ha208 (mkS hb208) fun v S => some (v, S)) hv208 ho208 = true := by kernel_rfl
theorem hm208 : FOK Tryz.prog 20 (memoF hb208 ha208 hv208 ho208) := memo_ok K20 hs208 hr208
def hb209 : List (List V) := [y0, y13]
def ha209 : List V := [(.so .h 0 2 2 3), (.so (.o .h) 0 6 6 3)]
def hv209 : V := (.so (.o (.o (.i (.o (.o (.i (.i (.o .h)))))))) 0 7 7 3)
def ho209 : List (Pos × List V) := [((.o (.o (.i (.o (.o (.i (.i (.o .h)))))))), y210)]
theorem hs209 : stat hb209 ha209 hv209 ho209 = true := by kernel_rfl
theorem hr209 : runOk (un 2 F20 ha209 (mkS hb209) fun v S => some (v, S)) hv209 ho209 = true := by kernel_rfl
theorem hm209 : FOK Tryz.prog 20 (memoF hb209 ha209 hv209 ho209) := memo_ok K20 hs209 hr209
def hb210 : List (List V) := [y210, y10]
def ha210 : List V := [(.so .h 0 7 7 3), (.so (.o .h) 0 5 5 3)]
def hv210 : V := (.so (.o (.o (.o (.o (.o (.o (.o (.o .h)))))))) 0 7 7 3)
def ho210 : List (Pos × List V) := [((.o (.o (.o (.o (.o (.o (.o (.o .h)))))))), y16)]
theorem hs210 : stat hb210 ha210 hv210 ho210 = true := by kernel_rfl
theorem hr210 : runOk (un 2 F39 ha210 (mkS hb210) fun v S => some (v, S)) hv210 ho210 = true := by kernel_rfl
theorem hm210 : FOK Tryz.prog 39 (memoF hb210 ha210 hv210 ho210) := memo_ok K39 hs210 hr210
def hb211 : List (List V) := [y193, y211]
def ha211 : List V := [(.so .h 0 3 3 3), (.so (.o .h) 0 6 6 3)]
def hv211 : V := (.so (.o (.i (.i (.o (.o (.o (.i (.i .h)))))))) 0 8 8 3)
def ho211 : List (Pos × List V) := [((.o (.i (.i (.o (.o (.o (.i (.i .h)))))))), y212)]
theorem hs211 : stat hb211 ha211 hv211 ho211 = true := by kernel_rfl
theorem hr211 : runOk (un 2 F20 ha211 (mkS hb211) fun v S => some (v, S)) hv211 ho211 = true := by kernel_rfl
theorem hm211 : FOK Tryz.prog 20 (memoF hb211 ha211 hv211 ho211) := memo_ok K20 hs211 hr211
def hb212 : List (List V) := [y194, y204]
def ha212 : List V := [(.so .h 0 5 5 3), (.so (.o .h) 0 5 5 3)]
def hv212 : V := (.so (.i (.i (.o (.i (.i (.i (.i (.o (.o .h))))))))) 0 9 9 3)
def ho212 : List (Pos × List V) := [((.i (.i (.o (.i (.i (.i (.i (.o (.o .h))))))))), y213)]
theorem hs212 : stat hb212 ha212 hv212 ho212 = true := by kernel_rfl
theorem hr212 : runOk (un 2 F20 ha212 (mkS hb212) fun v S => some (v, S)) hv212 ho212 = true := by kernel_rfl
theorem hm212 : FOK Tryz.prog 20 (memoF hb212 ha212 hv212 ho212) := memo_ok K20 hs212 hr212
def hb213 : List (List V) := [y195, y198]
def ha213 : List V := [(.so .h 0 7 7 3), (.so (.o .h) 0 4 4 3)]
def hv213 : V := (.so (.o (.o (.i (.o (.i (.o (.i (.i (.o .h))))))))) 0 10 10 3)
def ho213 : List (Pos × List V) := [((.o (.o (.i (.o (.i (.o (.i (.i (.o .h))))))))), y214)]
theorem hs213 : stat hb213 ha213 hv213 ho213 = true := by kernel_rfl
theorem hr213 : runOk (un 2 F20 ha213 (mkS hb213) fun v S => some (v, S)) hv213 ho213 = true := by kernel_rfl
theorem hm213 : FOK Tryz.prog 20 (memoF hb213 ha213 hv213 ho213) := memo_ok K20 hs213 hr213
def hb214 : List (List V) := [y197, y2]
def ha214 : List V := [(.so .h 0 9 9 3), (.so (.o .h) 0 3 3 3)]
def hv214 : V := (.so (.i (.o (.o (.o (.i (.o (.i (.i (.o .h))))))))) 0 11 11 3)
def ho214 : List (Pos × List V) := [((.i (.o (.o (.o (.i (.o (.i (.i (.o .h))))))))), y215)]
theorem hs214 : stat hb214 ha214 hv214 ho214 = true := by kernel_rfl
theorem hr214 : runOk (un 2 F20 ha214 (mkS hb214) fun v S => some (v, S)) hv214 ho214 = true := by kernel_rfl
theorem hm214 : FOK Tryz.prog 20 (memoF hb214 ha214 hv214 ho214) := memo_ok K20 hs214 hr214
def hb215 : List (List V) := [y202, y0]
def ha215 : List V := [(.so .h 0 11 11 3), (.so (.o .h) 0 2 2 3)]
def hv215 : V := (.so (.o (.o (.i (.i (.o (.i (.i (.o (.o .h))))))))) 0 12 12 3)
def ho215 : List (Pos × List V) := [((.o (.o (.i (.i (.o (.i (.i (.o (.o .h))))))))), y216)]
theorem hs215 : stat hb215 ha215 hv215 ho215 = true := by kernel_rfl
theorem hr215 : runOk (un 2 F20 ha215 (mkS hb215) fun v S => some (v, S)) hv215 ho215 = true := by kernel_rfl
theorem hm215 : FOK Tryz.prog 20 (memoF hb215 ha215 hv215 ho215) := memo_ok K20 hs215 hr215
def hb216 : List (List V) := [y209, [(.b false), (.s [1]), (.s [1])]]
def ha216 : List V := [(.so .h 0 13 13 3), (.so (.o .h) 0 1 1 3)]
def hv216 : V := (.so (.i (.i (.o (.i (.o (.i (.o (.i .h)))))))) 0 13 13 3)
def ho216 : List (Pos × List V) := [((.i (.i (.o (.i (.o (.i (.o (.i .h)))))))), y209)]
theorem hs216 : stat hb216 ha216 hv216 ho216 = true := by kernel_rfl
theorem hr216 : runOk (un 2 F20 ha216 (mkS hb216) fun v S => some (v, S)) hv216 ho216 = true := by kernel_rfl
theorem hm216 : FOK Tryz.prog 20 (memoF hb216 ha216 hv216 ho216) := memo_ok K20 hs216 hr216
def hb217 : List (List V) := [y209, y193]
def ha217 : List V := [(.so .h 0 13 13 3), (.so (.o .h) 0 3 3 3)]
def hv217 : V := (.so (.i (.i (.o (.o (.o (.o (.i (.o (.o (.o .h)))))))))) 0 15 15 3)
def ho217 : List (Pos × List V) := [((.i (.i (.o (.o (.o (.o (.i (.o (.o (.o .h)))))))))), y217)]
theorem hs217 : stat hb217 ha217 hv217 ho217 = true := by kernel_rfl
theorem hr217 : runOk (un 2 F20 ha217 (mkS hb217) fun v S => some (v, S)) hv217 ho217 = true := by kernel_rfl
theorem hm217 : FOK Tryz.prog 20 (memoF hb217 ha217 hv217 ho217) := memo_ok K20 hs217 hr217
def hb218 : List (List V) := [y0, y16]
def ha218 : List V := [(.so .h 0 2 2 3), (.so (.o .h) 0 7 7 3)]
def hv218 : V := (.so (.o (.o (.i (.i (.i (.o (.o (.i .h)))))))) 0 8 8 3)
def ho218 : List (Pos × List V) := [((.o (.o (.i (.i (.i (.o (.o (.i .h)))))))), y218)]
theorem hs218 : stat hb218 ha218 hv218 ho218 = true := by kernel_rfl
theorem hr218 : runOk (un 2 F20 ha218 (mkS hb218) fun v S => some (v, S)) hv218 ho218 = true := by kernel_rfl
theorem hm218 : FOK Tryz.prog 20 (memoF hb218 ha218 hv218 ho218) := memo_ok K20 hs218 hr218
def hb219 : List (List V) := [y218, y13]
def ha219 : List V := [(.so .h 0 8 8 3), (.so (.o .h) 0 6 6 3)]
def hv219 : V := (.so (.o (.o (.o (.i (.o (.i (.o (.o .h)))))))) 0 8 8 3)
def ho219 : List (Pos × List V) := [((.o (.o (.o (.i (.o (.i (.o (.o .h)))))))), y19)]
theorem hs219 : stat hb219 ha219 hv219 ho219 = true := by kernel_rfl
theorem hr219 : runOk (un 2 F39 ha219 (mkS hb219) fun v S => some (v, S)) hv219 ho219 = true := by kernel_rfl
theorem hm219 : FOK Tryz.prog 39 (memoF hb219 ha219 hv219 ho219) := memo_ok K39 hs219 hr219
def hb220 : List (List V) := [y193, y219]
def ha220 : List V := [(.so .h 0 3 3 3), (.so (.o .h) 0 7 7 3)]
def hv220 : V := (.so (.i (.o (.o (.i (.o (.o (.o (.o (.o .h))))))))) 0 9 9 3)
def ho220 : List (Pos × List V) := [((.i (.o (.o (.i (.o (.o (.o (.o (.o .h))))))))), y220)]
theorem hs220 : stat hb220 ha220 hv220 ho220 = true := by kernel_rfl
theorem hr220 : runOk (un 2 F20 ha220 (mkS hb220) fun v S => some (v, S)) hv220 ho220 = true := by kernel_rfl
theorem hm220 : FOK Tryz.prog 20 (memoF hb220 ha220 hv220 ho220) := memo_ok K20 hs220 hr220
def hb221 : List (List V) := [y194, y211]
def ha221 : List V := [(.so .h 0 5 5 3), (.so (.o .h) 0 6 6 3)]
def hv221 : V := (.so (.o (.i (.i (.o (.o (.i (.i (.i (.o .h))))))))) 0 10 10 3)
def ho221 : List (Pos × List V) := [((.o (.i (.i (.o (.o (.i (.i (.i (.o .h))))))))), y221)]
theorem hs221 : stat hb221 ha221 hv221 ho221 = true := by kernel_rfl
theorem hr221 : runOk (un 2 F20 ha221 (mkS hb221) fun v S => some (v, S)) hv221 ho221 = true := by kernel_rfl
theorem hm221 : FOK Tryz.prog 20 (memoF hb221 ha221 hv221 ho221) := memo_ok K20 hs221 hr221
def hb222 : List (List V) := [y195, y204]
def ha222 : List V := [(.so .h 0 7 7 3), (.so (.o .h) 0 5 5 3)]
def hv222 : V := (.so (.i (.i (.o (.o (.i (.i (.i (.o (.i .h))))))))) 0 11 11 3)
def ho222 : List (Pos × List V) := [((.i (.i (.o (.o (.i (.i (.i (.o (.i .h))))))))), y222)]
theorem hs222 : stat hb222 ha222 hv222 ho222 = true := by kernel_rfl
theorem hr222 : runOk (un 2 F20 ha222 (mkS hb222) fun v S => some (v, S)) hv222 ho222 = true := by kernel_rfl
theorem hm222 : FOK Tryz.prog 20 (memoF hb222 ha222 hv222 ho222) := memo_ok K20 hs222 hr222
def hb223 : List (List V) := [y197, y198]
def ha223 : List V := [(.so .h 0 9 9 3), (.so (.o .h) 0 4 4 3)]
def hv223 : V := (.so (.o (.i (.i (.i (.i (.o (.o (.i (.i .h))))))))) 0 12 12 3)
def ho223 : List (Pos × List V) := [((.o (.i (.i (.i (.i (.o (.o (.i (.i .h))))))))), y223)]
theorem hs223 : stat hb223 ha223 hv223 ho223 = true := by kernel_rfl
theorem hr223 : runOk (un 2 F20 ha223 (mkS hb223) fun v S => some (v, S)) hv223 ho223 = true := by kernel_rfl
theorem hm223 : FOK Tryz.prog 20 (memoF hb223 ha223 hv223 ho223) := memo_ok K20 hs223 hr223
def hb224 : List (List V) := [y202, y2]
def ha224 : List V := [(.so .h 0 11 11 3), (.so (.o .h) 0 3 3 3)]
def hv224 : V := (.so (.i (.o (.i (.i (.o (.i (.i (.o (.i .h))))))))) 0 13 13 3)
def ho224 : List (Pos × List V) := [((.i (.o (.i (.i (.o (.i (.i (.o (.i .h))))))))), y224)]
theorem hs224 : stat hb224 ha224 hv224 ho224 = true := by kernel_rfl
theorem hr224 : runOk (un 2 F20 ha224 (mkS hb224) fun v S => some (v, S)) hv224 ho224 = true := by kernel_rfl
theorem hm224 : FOK Tryz.prog 20 (memoF hb224 ha224 hv224 ho224) := memo_ok K20 hs224 hr224
def hb225 : List (List V) := [y209, y0]
def ha225 : List V := [(.so .h 0 13 13 3), (.so (.o .h) 0 2 2 3)]
def hv225 : V := (.so (.o (.i (.o (.i (.i (.o (.i (.i (.o .h))))))))) 0 14 14 3)
def ho225 : List (Pos × List V) := [((.o (.i (.o (.i (.i (.o (.i (.i (.o .h))))))))), y225)]
theorem hs225 : stat hb225 ha225 hv225 ho225 = true := by kernel_rfl
theorem hr225 : runOk (un 2 F20 ha225 (mkS hb225) fun v S => some (v, S)) hv225 ho225 = true := by kernel_rfl
theorem hm225 : FOK Tryz.prog 20 (memoF hb225 ha225 hv225 ho225) := memo_ok K20 hs225 hr225
def hb226 : List (List V) := [y217, [(.b false), (.s [1]), (.s [1])]]
def ha226 : List V := [(.so .h 0 15 15 3), (.so (.o .h) 0 1 1 3)]
def hv226 : V := (.so (.i (.i (.o (.i (.o (.i (.i (.i .h)))))))) 0 15 15 3)
def ho226 : List (Pos × List V) := [((.i (.i (.o (.i (.o (.i (.i (.i .h)))))))), y217)]
theorem hs226 : stat hb226 ha226 hv226 ho226 = true := by kernel_rfl
theorem hr226 : runOk (un 2 F20 ha226 (mkS hb226) fun v S => some (v, S)) hv226 ho226 = true := by kernel_rfl
theorem hm226 : FOK Tryz.prog 20 (memoF hb226 ha226 hv226 ho226) := memo_ok K20 hs226 hr226
def hb227 : List (List V) := [y217, y193]
def ha227 : List V := [(.so .h 0 15 15 3), (.so (.o .h) 0 3 3 3)]
def hv227 : V := (.so (.i (.i (.i (.o (.o (.i (.i (.i (.o (.o .h)))))))))) 0 17 17 3)
def ho227 : List (Pos × List V) := [((.i (.i (.i (.o (.o (.i (.i (.i (.o (.o .h)))))))))), y226)]
theorem hs227 : stat hb227 ha227 hv227 ho227 = true := by kernel_rfl
theorem hr227 : runOk (un 2 F20 ha227 (mkS hb227) fun v S => some (v, S)) hv227 ho227 = true := by kernel_rfl
theorem hm227 : FOK Tryz.prog 20 (memoF hb227 ha227 hv227 ho227) := memo_ok K20 hs227 hr227
def hb228 : List (List V) := [y0, y19]
def ha228 : List V := [(.so .h 0 2 2 3), (.so (.o .h) 0 8 8 3)]
def hv228 : V := (.so (.o (.o (.i (.o (.i (.o (.i (.i .h)))))))) 0 9 9 3)
def ho228 : List (Pos × List V) := [((.o (.o (.i (.o (.i (.o (.i (.i .h)))))))), y227)]
theorem hs228 : stat hb228 ha228 hv228 ho228 = true := by kernel_rfl
theorem hr228 : runOk (un 2 F20 ha228 (mkS hb228) fun v S => some (v, S)) hv228 ho228 = true := by kernel_rfl
theorem hm228 : FOK Tryz.prog 20 (memoF hb228 ha228 hv228 ho228) := memo_ok K20 hs228 hr228
def hb229 : List (List V) := [y227, y16]
def ha229 : List V := [(.so .h 0 9 9 3), (.so (.o .h) 0 7 7 3)]
def hv229 : V := (.so (.o (.i (.o (.o (.i (.o (.i (.o .h)))))))) 0 9 9 3)
def ho229 : List (Pos × List V) := [((.o (.i (.o (.o (.i (.o (.i (.o .h)))))))), y22)]
theorem hs229 : stat hb229 ha229 hv229 ho229 = true := by kernel_rfl
theorem hr229 : runOk (un 2 F39 ha229 (mkS hb229) fun v S => some (v, S)) hv229 ho229 = true := by kernel_rfl
theorem hm229 : FOK Tryz.prog 39 (memoF hb229 ha229 hv229 ho229) := memo_ok K39 hs229 hr229
def hb230 : List (List V) := [[(.b false), (.s [1]), (.s [1])], y228]
def ha230 : List V := [(.so .h 0 1 1 3), (.so (.o .h) 0 9 9 3)]
def hv230 : V := (.so (.i (.i (.o (.o (.o (.o (.o (.o .h)))))))) 0 9 9 3)
def ho230 : List (Pos × List V) := [((.i (.i (.o (.o (.o (.o (.o (.o .h)))))))), y228)]
theorem hs230 : stat hb230 ha230 hv230 ho230 = true := by kernel_rfl
theorem hr230 : runOk (un 2 F20 ha230 (mkS hb230) fun v S => some (v, S)) hv230 ho230 = true := by kernel_rfl
theorem hm230 : FOK Tryz.prog 20 (memoF hb230 ha230 hv230 ho230) := memo_ok K20 hs230 hr230
def hb231 : List (List V) := [y193, y229]
def ha231 : List V := [(.so .h 0 3 3 3), (.so (.o .h) 0 8 8 3)]
def hv231 : V := (.so (.o (.o (.i (.i (.o (.o (.i (.o (.o .h))))))))) 0 10 10 3)
def ho231 : List (Pos × List V) := [((.o (.o (.i (.i (.o (.o (.i (.o (.o .h))))))))), y230)]
theorem hs231 : stat hb231 ha231 hv231 ho231 = true := by kernel_rfl
theorem hr231 : runOk (un 2 F20 ha231 (mkS hb231) fun v S => some (v, S)) hv231 ho231 = true := by kernel_rfl
theorem hm231 : FOK Tryz.prog 20 (memoF hb231 ha231 hv231 ho231) := memo_ok K20 hs231 hr231
def hb232 : List (List V) := [y194, y219]
def ha232 : List V := [(.so .h 0 5 5 3), (.so (.o .h) 0 7 7 3)]
def hv232 : V := (.so (.i (.o (.o (.o (.i (.o (.i (.o (.i .h))))))))) 0 11 11 3)
def ho232 : List (Pos × List V) := [((.i (.o (.o (.o (.i (.o (.i (.o (.i .h))))))))), y231)]
theorem hs232 : stat hb232 ha232 hv232 ho232 = true := by kernel_rfl
theorem hr232 : runOk (un 2 F20 ha232 (mkS hb232) fun v S => some (v, S)) hv232 ho232 = true := by kernel_rfl
theorem hm232 : FOK Tryz.prog 20 (memoF hb232 ha232 hv232 ho232) := memo_ok K20 hs232 hr232
def hb233 : List (List V) := [y195, y211]
def ha233 : List V := [(.so .h 0 7 7 3), (.so (.o .h) 0 6 6 3)]
def hv233 : V := (.so (.o (.o (.i (.i (.o (.o (.o (.o (.o (.o .h)))))))))) 0 12 12 3)
def ho233 : List (Pos × List V) := [((.o (.o (.i (.i (.o (.o (.o (.o (.o (.o .h)))))))))), y232)]
theorem hs233 : stat hb233 ha233 hv233 ho233 = true := by kernel_rfl
theorem hr233 : runOk (un 2 F20 ha233 (mkS hb233) fun v S => some (v, S)) hv233 ho233 = true := by kernel_rfl
theorem hm233 : FOK Tryz.prog 20 (memoF hb233 ha233 hv233 ho233) := memo_ok K20 hs233 hr233
def hb234 : List (List V) := [y197, y204]
def ha234 : List V := [(.so .h 0 9 9 3), (.so (.o .h) 0 5 5 3)]
def hv234 : V := (.so (.i (.i (.o (.i (.o (.i (.i (.o (.o (.o .h)))))))))) 0 13 13 3)
def ho234 : List (Pos × List V) := [((.i (.i (.o (.i (.o (.i (.i (.o (.o (.o .h)))))))))), y233)]
theorem hs234 : stat hb234 ha234 hv234 ho234 = true := by kernel_rfl
theorem hr234 : runOk (un 2 F20 ha234 (mkS hb234) fun v S => some (v, S)) hv234 ho234 = true := by kernel_rfl
theorem hm234 : FOK Tryz.prog 20 (memoF hb234 ha234 hv234 ho234) := memo_ok K20 hs234 hr234
def hb235 : List (List V) := [y202, y198]
def ha235 : List V := [(.so .h 0 11 11 3), (.so (.o .h) 0 4 4 3)]
def hv235 : V := (.so (.o (.o (.o (.i (.o (.i (.i (.o (.o (.o .h)))))))))) 0 14 14 3)
def ho235 : List (Pos × List V) := [((.o (.o (.o (.i (.o (.i (.i (.o (.o (.o .h)))))))))), y234)]
theorem hs235 : stat hb235 ha235 hv235 ho235 = true := by kernel_rfl
theorem hr235 : runOk (un 2 F20 ha235 (mkS hb235) fun v S => some (v, S)) hv235 ho235 = true := by kernel_rfl
theorem hm235 : FOK Tryz.prog 20 (memoF hb235 ha235 hv235 ho235) := memo_ok K20 hs235 hr235
def hb236 : List (List V) := [y209, y2]
def ha236 : List V := [(.so .h 0 13 13 3), (.so (.o .h) 0 3 3 3)]
def hv236 : V := (.so (.i (.o (.o (.i (.o (.o (.o (.o (.o (.o .h)))))))))) 0 15 15 3)
def ho236 : List (Pos × List V) := [((.i (.o (.o (.i (.o (.o (.o (.o (.o (.o .h)))))))))), y235)]
theorem hs236 : stat hb236 ha236 hv236 ho236 = true := by kernel_rfl
theorem hr236 : runOk (un 2 F20 ha236 (mkS hb236) fun v S => some (v, S)) hv236 ho236 = true := by kernel_rfl
theorem hm236 : FOK Tryz.prog 20 (memoF hb236 ha236 hv236 ho236) := memo_ok K20 hs236 hr236
def hb237 : List (List V) := [y217, y0]
def ha237 : List V := [(.so .h 0 15 15 3), (.so (.o .h) 0 2 2 3)]
def hv237 : V := (.so (.o (.o (.o (.i (.o (.o (.i (.o (.i .h))))))))) 0 16 16 3)
def ho237 : List (Pos × List V) := [((.o (.o (.o (.i (.o (.o (.i (.o (.i .h))))))))), y236)]
theorem hs237 : stat hb237 ha237 hv237 ho237 = true := by kernel_rfl
theorem hr237 : runOk (un 2 F20 ha237 (mkS hb237) fun v S => some (v, S)) hv237 ho237 = true := by kernel_rfl
theorem hm237 : FOK Tryz.prog 20 (memoF hb237 ha237 hv237 ho237) := memo_ok K20 hs237 hr237
def hb238 : List (List V) := [y226, [(.b false), (.s [1]), (.s [1])]]
def ha238 : List V := [(.so .h 0 17 17 3), (.so (.o .h) 0 1 1 3)]
def hv238 : V := (.so (.i (.i (.o (.i (.o (.i (.o (.o (.o .h))))))))) 0 17 17 3)
def ho238 : List (Pos × List V) := [((.i (.i (.o (.i (.o (.i (.o (.o (.o .h))))))))), y226)]
theorem hs238 : stat hb238 ha238 hv238 ho238 = true := by kernel_rfl
theorem hr238 : runOk (un 2 F20 ha238 (mkS hb238) fun v S => some (v, S)) hv238 ho238 = true := by kernel_rfl
theorem hm238 : FOK Tryz.prog 20 (memoF hb238 ha238 hv238 ho238) := memo_ok K20 hs238 hr238
def hb239 : List (List V) := [y226, y193]
def ha239 : List V := [(.so .h 0 17 17 3), (.so (.o .h) 0 3 3 3)]
def hv239 : V := (.so (.i (.i (.o (.i (.o (.o (.o (.i (.i (.o .h)))))))))) 0 19 19 3)
def ho239 : List (Pos × List V) := [((.i (.i (.o (.i (.o (.o (.o (.i (.i (.o .h)))))))))), y237)]
theorem hs239 : stat hb239 ha239 hv239 ho239 = true := by kernel_rfl
theorem hr239 : runOk (un 2 F20 ha239 (mkS hb239) fun v S => some (v, S)) hv239 ho239 = true := by kernel_rfl
theorem hm239 : FOK Tryz.prog 20 (memoF hb239 ha239 hv239 ho239) := memo_ok K20 hs239 hr239
def hb240 : List (List V) := [y0, y22]
def ha240 : List V := [(.so .h 0 2 2 3), (.so (.o .h) 0 9 9 3)]
def hv240 : V := (.so (.o (.i (.i (.i (.o (.o (.o (.o (.o .h))))))))) 0 10 10 3)
def ho240 : List (Pos × List V) := [((.o (.i (.i (.i (.o (.o (.o (.o (.o .h))))))))), y238)]
theorem hs240 : stat hb240 ha240 hv240 ho240 = true := by kernel_rfl
theorem hr240 : runOk (un 2 F20 ha240 (mkS hb240) fun v S => some (v, S)) hv240 ho240 = true := by kernel_rfl
theorem hm240 : FOK Tryz.prog 20 (memoF hb240 ha240 hv240 ho240) := memo_ok K20 hs240 hr240
def hb241 : List (List V) := [y238, y19]
def ha241 : List V := [(.so .h 0 10 10 3), (.so (.o .h) 0 8 8 3)]
def hv241 : V := (.so (.o (.i (.o (.i (.i (.i (.i (.o .h)))))))) 0 10 10 3)
def ho241 : List (Pos × List V) := [((.o (.i (.o (.i (.i (.i (.i (.o .h)))))))), y25)]
theorem hs241 : stat hb241 ha241 hv241 ho241 = true := by kernel_rfl
theorem hr241 : runOk (un 2 F39 ha241 (mkS hb241) fun v S => some (v, S)) hv241 ho241 = true := by kernel_rfl
theorem hm241 : FOK Tryz.prog 39 (memoF hb241 ha241 hv241 ho241) := memo_ok K39 hs241 hr241
def hb242 : List (List V) := [[(.b false), (.s [1]), (.s [1])], y239]
def ha242 : List V := [(.so .h 0 1 1 3), (.so (.o .h) 0 10 10 3)]
def hv242 : V := (.so (.o (.i (.i (.i (.i (.o (.o (.o .h)))))))) 0 10 10 3)
def ho242 : List (Pos × List V) := [((.o (.i (.i (.i (.i (.o (.o (.o .h)))))))), y239)]
theorem hs242 : stat hb242 ha242 hv242 ho242 = true := by kernel_rfl
theorem hr242 : runOk (un 2 F20 ha242 (mkS hb242) fun v S => some (v, S)) hv242 ho242 = true := by kernel_rfl
theorem hm242 : FOK Tryz.prog 20 (memoF hb242 ha242 hv242 ho242) := memo_ok K20 hs242 hr242
def hb243 : List (List V) := [y193, y228]
def ha243 : List V := [(.so .h 0 3 3 3), (.so (.o .h) 0 9 9 3)]
def hv243 : V := (.so (.i (.i (.i (.i (.o (.o (.o (.i (.o .h))))))))) 0 11 11 3)
def ho243 : List (Pos × List V) := [((.i (.i (.i (.i (.o (.o (.o (.i (.o .h))))))))), y240)]
theorem hs243 : stat hb243 ha243 hv243 ho243 = true := by kernel_rfl
theorem hr243 : runOk (un 2 F20 ha243 (mkS hb243) fun v S => some (v, S)) hv243 ho243 = true := by kernel_rfl
theorem hm243 : FOK Tryz.prog 20 (memoF hb243 ha243 hv243 ho243) := memo_ok K20 hs243 hr243
def hb244 : List (List V) := [y194, y229]
def ha244 : List V := [(.so .h 0 5 5 3), (.so (.o .h) 0 8 8 3)]
def hv244 : V := (.so (.o (.o (.i (.i (.i (.i (.o (.i (.i .h))))))))) 0 12 12 3)
def ho244 : List (Pos × List V) := [((.o (.o (.i (.i (.i (.i (.o (.i (.i .h))))))))), y241)]
theorem hs244 : stat hb244 ha244 hv244 ho244 = true := by kernel_rfl
theorem hr244 : runOk (un 2 F20 ha244 (mkS hb244) fun v S => some (v, S)) hv244 ho244 = true := by kernel_rfl
theorem hm244 : FOK Tryz.prog 20 (memoF hb244 ha244 hv244 ho244) := memo_ok K20 hs244 hr244
def hb245 : List (List V) := [y195, y219]
def ha245 : List V := [(.so .h 0 7 7 3), (.so (.o .h) 0 7 7 3)]
def hv245 : V := (.so (.i (.o (.i (.o (.o (.i (.o (.i (.o (.o .h)))))))))) 0 13 13 3)
def ho245 : List (Pos × List V) := [((.i (.o (.i (.o (.o (.i (.o (.i (.o (.o .h)))))))))), y242)]
theorem hs245 : stat hb245 ha245 hv245 ho245 = true := by kernel_rfl
theorem hr245 : runOk (un 2 F20 ha245 (mkS hb245) fun v S => some (v, S)) hv245 ho245 = true := by kernel_rfl
theorem hm245 : FOK Tryz.prog 20 (memoF hb245 ha245 hv245 ho245) := memo_ok K20 hs245 hr245
def hb246 : List (List V) := [y197, y211]
def ha246 : List V := [(.so .h 0 9 9 3), (.so (.o .h) 0 6 6 3)]
def hv246 : V := (.so (.o (.i (.o (.o (.i (.i (.o (.o (.i (.o .h)))))))))) 0 14 14 3)
def ho246 : List (Pos × List V) := [((.o (.i (.o (.o (.i (.i (.o (.o (.i (.o .h)))))))))), y243)]
theorem hs246 : stat hb246 ha246 hv246 ho246 = true := by kernel_rfl
theorem hr246 : runOk (un 2 F20 ha246 (mkS hb246) fun v S => some (v, S)) hv246 ho246 = true := by kernel_rfl
theorem hm246 : FOK Tryz.prog 20 (memoF hb246 ha246 hv246 ho246) := memo_ok K20 hs246 hr246
def hb247 : List (List V) := [y202, y204]
def ha247 : List V := [(.so .h 0 11 11 3), (.so (.o .h) 0 5 5 3)]
def hv247 : V := (.so (.i (.i (.o (.o (.o (.i (.i (.o (.i (.o .h)))))))))) 0 15 15 3)
def ho247 : List (Pos × List V) := [((.i (.i (.o (.o (.o (.i (.i (.o (.i (.o .h)))))))))), y244)]
theorem hs247 : stat hb247 ha247 hv247 ho247 = true := by kernel_rfl
theorem hr247 : runOk (un 2 F20 ha247 (mkS hb247) fun v S => some (v, S)) hv247 ho247 = true := by kernel_rfl
theorem hm247 : FOK Tryz.prog 20 (memoF hb247 ha247 hv247 ho247) := memo_ok K20 hs247 hr247
def hb248 : List (List V) := [y209, y198]
def ha248 : List V := [(.so .h 0 13 13 3), (.so (.o .h) 0 4 4 3)]
def hv248 : V := (.so (.o (.i (.o (.o (.i (.i (.o (.o (.i (.o .h)))))))))) 0 16 16 3)
def ho248 : List (Pos × List V) := [((.o (.i (.o (.o (.i (.i (.o (.o (.i (.o .h)))))))))), y245)]
theorem hs248 : stat hb248 ha248 hv248 ho248 = true := by kernel_rfl
theorem hr248 : runOk (un 2 F20 ha248 (mkS hb248) fun v S => some (v, S)) hv248 ho248 = true := by kernel_rfl
theorem hm248 : FOK Tryz.prog 20 (memoF hb248 ha248 hv248 ho248) := memo_ok K20 hs248 hr248
def hb249 : List (List V) := [y217, y2]
def ha249 : List V := [(.so .h 0 15 15 3), (.so (.o .h) 0 3 3 3)]
def hv249 : V := (.so (.i (.o (.i (.o (.o (.i (.o (.i (.o (.o .h)))))))))) 0 17 17 3)
def ho249 : List (Pos × List V) := [((.i (.o (.i (.o (.o (.i (.o (.i (.o (.o .h)))))))))), y246)]
theorem hs249 : stat hb249 ha249 hv249 ho249 = true := by kernel_rfl
theorem hr249 : runOk (un 2 F20 ha249 (mkS hb249) fun v S => some (v, S)) hv249 ho249 = true := by kernel_rfl
theorem hm249 : FOK Tryz.prog 20 (memoF hb249 ha249 hv249 ho249) := memo_ok K20 hs249 hr249
def hb250 : List (List V) := [y226, y0]
def ha250 : List V := [(.so .h 0 17 17 3), (.so (.o .h) 0 2 2 3)]
def hv250 : V := (.so (.o (.i (.i (.o (.i (.i (.o (.i (.i .h))))))))) 0 18 18 3)
def ho250 : List (Pos × List V) := [((.o (.i (.i (.o (.i (.i (.o (.i (.i .h))))))))), y247)]
theorem hs250 : stat hb250 ha250 hv250 ho250 = true := by kernel_rfl
theorem hr250 : runOk (un 2 F20 ha250 (mkS hb250) fun v S => some (v, S)) hv250 ho250 = true := by kernel_rfl
theorem hm250 : FOK Tryz.prog 20 (memoF hb250 ha250 hv250 ho250) := memo_ok K20 hs250 hr250
def hb251 : List (List V) := [y237, [(.b false), (.s [1]), (.s [1])]]
def ha251 : List V := [(.so .h 0 19 19 3), (.so (.o .h) 0 1 1 3)]
def hv251 : V := (.so (.i (.i (.o (.i (.o (.i (.i (.o (.o .h))))))))) 0 19 19 3)
def ho251 : List (Pos × List V) := [((.i (.i (.o (.i (.o (.i (.i (.o (.o .h))))))))), y237)]
theorem hs251 : stat hb251 ha251 hv251 ho251 = true := by kernel_rfl
theorem hr251 : runOk (un 2 F20 ha251 (mkS hb251) fun v S => some (v, S)) hv251 ho251 = true := by kernel_rfl
theorem hm251 : FOK Tryz.prog 20 (memoF hb251 ha251 hv251 ho251) := memo_ok K20 hs251 hr251
def hb252 : List (List V) := [y237, y193]
def ha252 : List V := [(.so .h 0 19 19 3), (.so (.o .h) 0 3 3 3)]
def hv252 : V := (.so (.i (.i (.i (.i (.o (.i (.o (.o (.o (.i .h)))))))))) 0 21 21 3)
def ho252 : List (Pos × List V) := [((.i (.i (.i (.i (.o (.i (.o (.o (.o (.i .h)))))))))), y248)]
theorem hs252 : stat hb252 ha252 hv252 ho252 = true := by kernel_rfl
theorem hr252 : runOk (un 2 F20 ha252 (mkS hb252) fun v S => some (v, S)) hv252 ho252 = true := by kernel_rfl
theorem hm252 : FOK Tryz.prog 20 (memoF hb252 ha252 hv252 ho252) := memo_ok K20 hs252 hr252
def hb253 : List (List V) := [y0, y25]
def ha253 : List V := [(.so .h 0 2 2 3), (.so (.o .h) 0 10 10 3)]
def hv253 : V := (.so (.o (.o (.o (.i (.o (.o (.i (.o (.o .h))))))))) 0 11 11 3)
def ho253 : List (Pos × List V) := [((.o (.o (.o (.i (.o (.o (.i (.o (.o .h))))))))), y249)]
theorem hs253 : stat hb253 ha253 hv253 ho253 = true := by kernel_rfl
theorem hr253 : runOk (un 2 F20 ha253 (mkS hb253) fun v S => some (v, S)) hv253 ho253 = true := by kernel_rfl
theorem hm253 : FOK Tryz.prog 20 (memoF hb253 ha253 hv253 ho253) := memo_ok K20 hs253 hr253
def hb254 : List (List V) := [y249, y22]
def ha254 : List V := [(.so .h 0 11 11 3), (.so (.o .h) 0 9 9 3)]
def hv254 : V := (.so (.o (.o (.o (.o (.o (.i (.o (.i .h)))))))) 0 11 11 3)
def ho254 : List (Pos × List V) := [((.o (.o (.o (.o (.o (.i (.o (.i .h)))))))), y28)]
theorem hs254 : stat hb254 ha254 hv254 ho254 = true := by kernel_rfl
theorem hr254 : runOk (un 2 F39 ha254 (mkS hb254) fun v S => some (v, S)) hv254 ho254 = true := by kernel_rfl
theorem hm254 : FOK Tryz.prog 39 (memoF hb254 ha254 hv254 ho254) := memo_ok K39 hs254 hr254
def hb255 : List (List V) := [[(.b false), (.s [1]), (.s [1])], y250]
def ha255 : List V := [(.so .h 0 1 1 3), (.so (.o .h) 0 11 11 3)]
def hv255 : V := (.so (.i (.o (.o (.i (.i (.i (.o (.o .h)))))))) 0 11 11 3)
def ho255 : List (Pos × List V) := [((.i (.o (.o (.i (.i (.i (.o (.o .h)))))))), y250)]
theorem hs255 : stat hb255 ha255 hv255 ho255 = true := by kernel_rfl
theorem hr255 : runOk (un 2 F20 ha255 (mkS hb255) fun v S => some (v, S)) hv255 ho255 = true := by kernel_rfl
theorem hm255 : FOK Tryz.prog 20 (memoF hb255 ha255 hv255 ho255) := memo_ok K20 hs255 hr255
def hb256 : List (List V) := [y193, y239]
def ha256 : List V := [(.so .h 0 3 3 3), (.so (.o .h) 0 10 10 3)]
def hv256 : V := (.so (.o (.i (.o (.o (.i (.o (.i (.i (.o .h))))))))) 0 12 12 3)
def ho256 : List (Pos × List V) := [((.o (.i (.o (.o (.i (.o (.i (.i (.o .h))))))))), y251)]
theorem hs256 : stat hb256 ha256 hv256 ho256 = true := by kernel_rfl
theorem hr256 : runOk (un 2 F20 ha256 (mkS hb256) fun v S => some (v, S)) hv256 ho256 = true := by kernel_rfl
theorem hm256 : FOK Tryz.prog 20 (memoF hb256 ha256 hv256 ho256) := memo_ok K20 hs256 hr256
def hb257 : List (List V) := [y194, y228]
def ha257 : List V := [(.so .h 0 5 5 3), (.so (.o .h) 0 9 9 3)]
def hv257 : V := (.so (.i (.i (.i (.o (.o (.i (.o (.o (.o (.o .h)))))))))) 0 13 13 3)
def ho257 : List (Pos × List V) := [((.i (.i (.i (.o (.o (.i (.o (.o (.o (.o .h)))))))))), y252)]
theorem hs257 : stat hb257 ha257 hv257 ho257 = true := by kernel_rfl
theorem hr257 : runOk (un 2 F20 ha257 (mkS hb257) fun v S => some (v, S)) hv257 ho257 = true := by kernel_rfl
theorem hm257 : FOK Tryz.prog 20 (memoF hb257 ha257 hv257 ho257) := memo_ok K20 hs257 hr257
def hb258 : List (List V) := [y195, y229]
def ha258 : List V := [(.so .h 0 7 7 3), (.so (.o .h) 0 8 8 3)]
def hv258 : V := (.so (.o (.o (.o (.i (.i (.i (.o (.o (.i (.o .h)))))))))) 0 14 14 3)
def ho258 : List (Pos × List V) := [((.o (.o (.o (.i (.i (.i (.o (.o (.i (.o .h)))))))))), y253)]
theorem hs258 : stat hb258 ha258 hv258 ho258 = true := by kernel_rfl
theorem hr258 : runOk (un 2 F20 ha258 (mkS hb258) fun v S => some (v, S)) hv258 ho258 = true := by kernel_rfl
theorem hm258 : FOK Tryz.prog 20 (memoF hb258 ha258 hv258 ho258) := memo_ok K20 hs258 hr258
def hb259 : List (List V) := [y197, y219]
def ha259 : List V := [(.so .h 0 9 9 3), (.so (.o .h) 0 7 7 3)]
def hv259 : V := (.so (.i (.o (.o (.i (.i (.i (.i (.i (.i (.o .h)))))))))) 0 15 15 3)
def ho259 : List (Pos × List V) := [((.i (.o (.o (.i (.i (.i (.i (.i (.i (.o .h)))))))))), y254)]
theorem hs259 : stat hb259 ha259 hv259 ho259 = true := by kernel_rfl
theorem hr259 : runOk (un 2 F20 ha259 (mkS hb259) fun v S => some (v, S)) hv259 ho259 = true := by kernel_rfl
theorem hm259 : FOK Tryz.prog 20 (memoF hb259 ha259 hv259 ho259) := memo_ok K20 hs259 hr259
def hb260 : List (List V) := [y202, y211]
def ha260 : List V := [(.so .h 0 11 11 3), (.so (.o .h) 0 6 6 3)]
def hv260 : V := (.so (.o (.o (.o (.i (.i (.o (.i (.o (.o (.i .h)))))))))) 0 16 16 3)
def ho260 : List (Pos × List V) := [((.o (.o (.o (.i (.i (.o (.i (.o (.o (.i .h)))))))))), y255)]
theorem hs260 : stat hb260 ha260 hv260 ho260 = true := by kernel_rfl
theorem hr260 : runOk (un 2 F20 ha260 (mkS hb260) fun v S => some (v, S)) hv260 ho260 = true := by kernel_rfl
theorem hm260 : FOK Tryz.prog 20 (memoF hb260 ha260 hv260 ho260) := memo_ok K20 hs260 hr260
def hb261 : List (List V) := [y209, y204]
def ha261 : List V := [(.so .h 0 13 13 3), (.so (.o .h) 0 5 5 3)]
def hv261 : V := (.so (.i (.i (.o (.i (.i (.o (.i (.o (.o (.i .h)))))))))) 0 17 17 3)
def ho261 : List (Pos × List V) := [((.i (.i (.o (.i (.i (.o (.i (.o (.o (.i .h)))))))))), y256)]
theorem hs261 : stat hb261 ha261 hv261 ho261 = true := by kernel_rfl
theorem hr261 : runOk (un 2 F20 ha261 (mkS hb261) fun v S => some (v, S)) hv261 ho261 = true := by kernel_rfl
theorem hm261 : FOK Tryz.prog 20 (memoF hb261 ha261 hv261 ho261) := memo_ok K20 hs261 hr261
def hb262 : List (List V) := [y217, y198]
def ha262 : List V := [(.so .h 0 15 15 3), (.so (.o .h) 0 4 4 3)]
def hv262 : V := (.so (.o (.o (.i (.i (.i (.i (.i (.i (.i (.o .h)))))))))) 0 18 18 3)
def ho262 : List (Pos × List V) := [((.o (.o (.i (.i (.i (.i (.i (.i (.i (.o .h)))))))))), y257)]
theorem hs262 : stat hb262 ha262 hv262 ho262 = true := by kernel_rfl
theorem hr262 : runOk (un 2 F20 ha262 (mkS hb262) fun v S => some (v, S)) hv262 ho262 = true := by kernel_rfl
theorem hm262 : FOK Tryz.prog 20 (memoF hb262 ha262 hv262 ho262) := memo_ok K20 hs262 hr262
def hb263 : List (List V) := [y226, y2]
def ha263 : List V := [(.so .h 0 17 17 3), (.so (.o .h) 0 3 3 3)]
def hv263 : V := (.so (.i (.o (.o (.o (.o (.o (.i (.o (.i (.o .h)))))))))) 0 19 19 3)
def ho263 : List (Pos × List V) := [((.i (.o (.o (.o (.o (.o (.i (.o (.i (.o .h)))))))))), y258)]
theorem hs263 : stat hb263 ha263 hv263 ho263 = true := by kernel_rfl
theorem hr263 : runOk (un 2 F20 ha263 (mkS hb263) fun v S => some (v, S)) hv263 ho263 = true := by kernel_rfl
theorem hm263 : FOK Tryz.prog 20 (memoF hb263 ha263 hv263 ho263) := memo_ok K20 hs263 hr263
def hb264 : List (List V) := [y237, y0]
def ha264 : List V := [(.so .h 0 19 19 3), (.so (.o .h) 0 2 2 3)]
def hv264 : V := (.so (.o (.o (.i (.o (.o (.i (.o (.o (.o (.o .h)))))))))) 0 20 20 3)
def ho264 : List (Pos × List V) := [((.o (.o (.i (.o (.o (.i (.o (.o (.o (.o .h)))))))))), y259)]
theorem hs264 : stat hb264 ha264 hv264 ho264 = true := by kernel_rfl
theorem hr264 : runOk (un 2 F20 ha264 (mkS hb264) fun v S => some (v, S)) hv264 ho264 = true := by kernel_rfl
theorem hm264 : FOK Tryz.prog 20 (memoF hb264 ha264 hv264 ho264) := memo_ok K20 hs264 hr264
def hb265 : List (List V) := [y248, [(.b false), (.s [1]), (.s [1])]]
def ha265 : List V := [(.so .h 0 21 21 3), (.so (.o .h) 0 1 1 3)]
def hv265 : V := (.so (.i (.i (.o (.i (.o (.i (.o (.i (.o .h))))))))) 0 21 21 3)
def ho265 : List (Pos × List V) := [((.i (.i (.o (.i (.o (.i (.o (.i (.o .h))))))))), y248)]
theorem hs265 : stat hb265 ha265 hv265 ho265 = true := by kernel_rfl
theorem hr265 : runOk (un 2 F20 ha265 (mkS hb265) fun v S => some (v, S)) hv265 ho265 = true := by kernel_rfl
theorem hm265 : FOK Tryz.prog 20 (memoF hb265 ha265 hv265 ho265) := memo_ok K20 hs265 hr265
def hb266 : List (List V) := [y248, y193]
def ha266 : List V := [(.so .h 0 21 21 3), (.so (.o .h) 0 3 3 3)]
def hv266 : V := (.so (.i (.i (.o (.i (.i (.o (.i (.i (.o (.i .h)))))))))) 0 23 23 3)
def ho266 : List (Pos × List V) := [((.i (.i (.o (.i (.i (.o (.i (.i (.o (.i .h)))))))))), y260)]
theorem hs266 : stat hb266 ha266 hv266 ho266 = true := by kernel_rfl
theorem hr266 : runOk (un 2 F20 ha266 (mkS hb266) fun v S => some (v, S)) hv266 ho266 = true := by kernel_rfl
theorem hm266 : FOK Tryz.prog 20 (memoF hb266 ha266 hv266 ho266) := memo_ok K20 hs266 hr266
def hb267 : List (List V) := [y0, y28]
def ha267 : List V := [(.so .h 0 2 2 3), (.so (.o .h) 0 11 11 3)]
def hv267 : V := (.so (.o (.o (.o (.o (.o (.o (.o (.i (.o .h))))))))) 0 12 12 3)
def ho267 : List (Pos × List V) := [((.o (.o (.o (.o (.o (.o (.o (.i (.o .h))))))))), y261)]
theorem hs267 : stat hb267 ha267 hv267 ho267 = true := by kernel_rfl
theorem hr267 : runOk (un 2 F20 ha267 (mkS hb267) fun v S => some (v, S)) hv267 ho267 = true := by kernel_rfl
theorem hm267 : FOK Tryz.prog 20 (memoF hb267 ha267 hv267 ho267) := memo_ok K20 hs267 hr267
def hb268 : List (List V) := [y261, y25]
def ha268 : List V := [(.so .h 0 12 12 3), (.so (.o .h) 0 10 10 3)]
def hv268 : V := (.so (.o (.o (.o (.i (.o (.o (.i (.i .h)))))))) 0 12 12 3)
def ho268 : List (Pos × List V) := [((.o (.o (.o (.i (.o (.o (.i (.i .h)))))))), y31)]
theorem hs268 : stat hb268 ha268 hv268 ho268 = true := by kernel_rfl
theorem hr268 : runOk (un 2 F39 ha268 (mkS hb268) fun v S => some (v, S)) hv268 ho268 = true := by kernel_rfl
theorem hm268 : FOK Tryz.prog 39 (memoF hb268 ha268 hv268 ho268) := memo_ok K39 hs268 hr268
def hb269 : List (List V) := [[(.b false), (.s [1]), (.s [1])], y262]
def ha269 : List V := [(.so .h 0 1 1 3), (.so (.o .h) 0 12 12 3)]
def hv269 : V := (.so (.o (.o (.i (.o (.i (.o (.i (.o .h)))))))) 0 12 12 3)
def ho269 : List (Pos × List V) := [((.o (.o (.i (.o (.i (.o (.i (.o .h)))))))), y262)]
theorem hs269 : stat hb269 ha269 hv269 ho269 = true := by kernel_rfl
theorem hr269 : runOk (un 2 F20 ha269 (mkS hb269) fun v S => some (v, S)) hv269 ho269 = true := by kernel_rfl
theorem hm269 : FOK Tryz.prog 20 (memoF hb269 ha269 hv269 ho269) := memo_ok K20 hs269 hr269
def hb270 : List (List V) := [y193, y250]
def ha270 : List V := [(.so .h 0 3 3 3), (.so (.o .h) 0 11 11 3)]
def hv270 : V := (.so (.i (.o (.i (.o (.i (.o (.o (.o (.i .h))))))))) 0 13 13 3)
def ho270 : List (Pos × List V) := [((.i (.o (.i (.o (.i (.o (.o (.o (.i .h))))))))), y263)]
theorem hs270 : stat hb270 ha270 hv270 ho270 = true := by kernel_rfl
theorem hr270 : runOk (un 2 F20 ha270 (mkS hb270) fun v S => some (v, S)) hv270 ho270 = true := by kernel_rfl
theorem hm270 : FOK Tryz.prog 20 (memoF hb270 ha270 hv270 ho270) := memo_ok K20 hs270 hr270
def hb271 : List (List V) := [y194, y239]
def ha271 : List V := [(.so .h 0 5 5 3), (.so (.o .h) 0 10 10 3)]
def hv271 : V := (.so (.o (.i (.o (.o (.i (.o (.o (.i (.o (.o .h)))))))))) 0 14 14 3)
def ho271 : List (Pos × List V) := [((.o (.i (.o (.o (.i (.o (.o (.i (.o (.o .h)))))))))), y264)]
theorem hs271 : stat hb271 ha271 hv271 ho271 = true := by kernel_rfl
theorem hr271 : runOk (un 2 F20 ha271 (mkS hb271) fun v S => some (v, S)) hv271 ho271 = true := by kernel_rfl
theorem hm271 : FOK Tryz.prog 20 (memoF hb271 ha271 hv271 ho271) := memo_ok K20 hs271 hr271
def hb272 : List (List V) := [y195, y228]
def ha272 : List V := [(.so .h 0 7 7 3), (.so (.o .h) 0 9 9 3)]
def hv272 : V := (.so (.i (.i (.o (.i (.o (.o (.i (.i (.i (.o .h)))))))))) 0 15 15 3)
def ho272 : List (Pos × List V) := [((.i (.i (.o (.i (.o (.o (.i (.i (.i (.o .h)))))))))), y265)]
theorem hs272 : stat hb272 ha272 hv272 ho272 = true := by kernel_rfl
theorem hr272 : runOk (un 2 F20 ha272 (mkS hb272) fun v S => some (v, S)) hv272 ho272 = true := by kernel_rfl
theorem hm272 : FOK Tryz.prog 20 (memoF hb272 ha272 hv272 ho272) := memo_ok K20 hs272 hr272
def hb273 : List (List V) := [y197, y229]
def ha273 : List V := [(.so .h 0 9 9 3), (.so (.o .h) 0 8 8 3)]
def hv273 : V := (.so (.o (.i (.o (.i (.i (.i (.o (.i (.o (.i .h)))))))))) 0 16 16 3)
def ho273 : List (Pos × List V) := [((.o (.i (.o (.i (.i (.i (.o (.i (.o (.i .h)))))))))), y266)]
theorem hs273 : stat hb273 ha273 hv273 ho273 = true := by kernel_rfl
theorem hr273 : runOk (un 2 F20 ha273 (mkS hb273) fun v S => some (v, S)) hv273 ho273 = true := by kernel_rfl
theorem hm273 : FOK Tryz.prog 20 (memoF hb273 ha273 hv273 ho273) := memo_ok K20 hs273 hr273
def hb274 : List (List V) := [y202, y219]
def ha274 : List V := [(.so .h 0 11 11 3), (.so (.o .h) 0 7 7 3)]
def hv274 : V := (.so (.i (.o (.i (.i (.o (.o (.i (.o (.i (.i .h)))))))))) 0 17 17 3)
def ho274 : List (Pos × List V) := [((.i (.o (.i (.i (.o (.o (.i (.o (.i (.i .h)))))))))), y267)]
theorem hs274 : stat hb274 ha274 hv274 ho274 = true := by kernel_rfl
theorem hr274 : runOk (un 2 F20 ha274 (mkS hb274) fun v S => some (v, S)) hv274 ho274 = true := by kernel_rfl
theorem hm274 : FOK Tryz.prog 20 (memoF hb274 ha274 hv274 ho274) := memo_ok K20 hs274 hr274
def hb275 : List (List V) := [y209, y211]
def ha275 : List V := [(.so .h 0 13 13 3), (.so (.o .h) 0 6 6 3)]
def hv275 : V := (.so (.o (.i (.i (.i (.i (.i (.i (.o (.i (.i .h)))))))))) 0 18 18 3)
def ho275 : List (Pos × List V) := [((.o (.i (.i (.i (.i (.i (.i (.o (.i (.i .h)))))))))), y268)]
theorem hs275 : stat hb275 ha275 hv275 ho275 = true := by kernel_rfl
theorem hr275 : runOk (un 2 F20 ha275 (mkS hb275) fun v S => some (v, S)) hv275 ho275 = true := by kernel_rfl
theorem hm275 : FOK Tryz.prog 20 (memoF hb275 ha275 hv275 ho275) := memo_ok K20 hs275 hr275
def hb276 : List (List V) := [y217, y204]
def ha276 : List V := [(.so .h 0 15 15 3), (.so (.o .h) 0 5 5 3)]
def hv276 : V := (.so (.i (.i (.o (.o (.i (.o (.i (.o (.i (.i .h)))))))))) 0 19 19 3)
def ho276 : List (Pos × List V) := [((.i (.i (.o (.o (.i (.o (.i (.o (.i (.i .h)))))))))), y269)]
theorem hs276 : stat hb276 ha276 hv276 ho276 = true := by kernel_rfl
theorem hr276 : runOk (un 2 F20 ha276 (mkS hb276) fun v S => some (v, S)) hv276 ho276 = true := by kernel_rfl
theorem hm276 : FOK Tryz.prog 20 (memoF hb276 ha276 hv276 ho276) := memo_ok K20 hs276 hr276
def hb277 : List (List V) := [y226, y198]
def ha277 : List V := [(.so .h 0 17 17 3), (.so (.o .h) 0 4 4 3)]
def hv277 : V := (.so (.o (.i (.i (.o (.o (.o (.i (.i (.o (.i .h)))))))))) 0 20 20 3)
def ho277 : List (Pos × List V) := [((.o (.i (.i (.o (.o (.o (.i (.i (.o (.i .h)))))))))), y270)]
theorem hs277 : stat hb277 ha277 hv277 ho277 = true := by kernel_rfl
theorem hr277 : runOk (un 2 F20 ha277 (mkS hb277) fun v S => some (v, S)) hv277 ho277 = true := by kernel_rfl
theorem hm277 : FOK Tryz.prog 20 (memoF hb277 ha277 hv277 ho277) := memo_ok K20 hs277 hr277
def hb278 : List (List V) := [y237, y2]
def ha278 : List V := [(.so .h 0 19 19 3), (.so (.o .h) 0 3 3 3)]
def hv278 : V := (.so (.i (.o (.i (.i (.i (.o (.i (.i (.i (.o .h)))))))))) 0 21 21 3)
def ho278 : List (Pos × List V) := [((.i (.o (.i (.i (.i (.o (.i (.i (.i (.o .h)))))))))), y271)]
theorem hs278 : stat hb278 ha278 hv278 ho278 = true := by kernel_rfl
theorem hr278 : runOk (un 2 F20 ha278 (mkS hb278) fun v S => some (v, S)) hv278 ho278 = true := by kernel_rfl
theorem hm278 : FOK Tryz.prog 20 (memoF hb278 ha278 hv278 ho278) := memo_ok K20 hs278 hr278
def hb279 : List (List V) := [y248, y0]
def ha279 : List V := [(.so .h 0 21 21 3), (.so (.o .h) 0 2 2 3)]
def hv279 : V := (.so (.o (.i (.o (.o (.i (.o (.o (.i (.o (.o .h)))))))))) 0 22 22 3)
def ho279 : List (Pos × List V) := [((.o (.i (.o (.o (.i (.o (.o (.i (.o (.o .h)))))))))), y272)]
theorem hs279 : stat hb279 ha279 hv279 ho279 = true := by kernel_rfl
theorem hr279 : runOk (un 2 F20 ha279 (mkS hb279) fun v S => some (v, S)) hv279 ho279 = true := by kernel_rfl
theorem hm279 : FOK Tryz.prog 20 (memoF hb279 ha279 hv279 ho279) := memo_ok K20 hs279 hr279
def hb280 : List (List V) := [y260, [(.b false), (.s [1]), (.s [1])]]
def ha280 : List V := [(.so .h 0 23 23 3), (.so (.o .h) 0 1 1 3)]
def hv280 : V := (.so (.i (.i (.o (.i (.i (.i (.i (.i (.o .h))))))))) 0 23 23 3)
def ho280 : List (Pos × List V) := [((.i (.i (.o (.i (.i (.i (.i (.i (.o .h))))))))), y260)]
theorem hs280 : stat hb280 ha280 hv280 ho280 = true := by kernel_rfl
theorem hr280 : runOk (un 2 F20 ha280 (mkS hb280) fun v S => some (v, S)) hv280 ho280 = true := by kernel_rfl
theorem hm280 : FOK Tryz.prog 20 (memoF hb280 ha280 hv280 ho280) := memo_ok K20 hs280 hr280
def hb281 : List (List V) := [y260, y193]
def ha281 : List V := [(.so .h 0 23 23 3), (.so (.o .h) 0 3 3 3)]
def hv281 : V := (.so (.i (.o (.o (.o (.o (.i (.o (.i (.i (.i .h)))))))))) 0 25 25 3)
def ho281 : List (Pos × List V) := [((.i (.o (.o (.o (.o (.i (.o (.i (.i (.i .h)))))))))), y273)]
theorem hs281 : stat hb281 ha281 hv281 ho281 = true := by kernel_rfl
theorem hr281 : runOk (un 2 F20 ha281 (mkS hb281) fun v S => some (v, S)) hv281 ho281 = true := by kernel_rfl
theorem hm281 : FOK Tryz.prog 20 (memoF hb281 ha281 hv281 ho281) := memo_ok K20 hs281 hr281
def hb282 : List (List V) := [y0, y31]
def ha282 : List V := [(.so .h 0 2 2 3), (.so (.o .h) 0 12 12 3)]
def hv282 : V := (.so (.o (.o (.o (.i (.i (.i (.o (.i (.o .h))))))))) 0 13 13 3)
def ho282 : List (Pos × List V) := [((.o (.o (.o (.i (.i (.i (.o (.i (.o .h))))))))), y274)]
theorem hs282 : stat hb282 ha282 hv282 ho282 = true := by kernel_rfl
theorem hr282 : runOk (un 2 F20 ha282 (mkS hb282) fun v S => some (v, S)) hv282 ho282 = true := by kernel_rfl
theorem hm282 : FOK Tryz.prog 20 (memoF hb282 ha282 hv282 ho282) := memo_ok K20 hs282 hr282
def hb283 : List (List V) := [y274, y28]
def ha283 : List V := [(.so .h 0 13 13 3), (.so (.o .h) 0 11 11 3)]
def hv283 : V := (.so (.o (.i (.o (.o (.i (.i (.i (.i .h)))))))) 0 13 13 3)
def ho283 : List (Pos × List V) := [((.o (.i (.o (.o (.i (.i (.i (.i .h)))))))), y34)]
theorem hs283 : stat hb283 ha283 hv283 ho283 = true := by kernel_rfl
theorem hr283 : runOk (un 2 F39 ha283 (mkS hb283) fun v S => some (v, S)) hv283 ho283 = true := by kernel_rfl
theorem hm283 : FOK Tryz.prog 39 (memoF hb283 ha283 hv283 ho283) := memo_ok K39 hs283 hr283
def hb284 : List (List V) := [[(.b false), (.s [1]), (.s [1])], y275]
def ha284 : List V := [(.so .h 0 1 1 3), (.so (.o .h) 0 13 13 3)]
def hv284 : V := (.so (.i (.i (.i (.i (.o (.i (.i (.o .h)))))))) 0 13 13 3)
def ho284 : List (Pos × List V) := [((.i (.i (.i (.i (.o (.i (.i (.o .h)))))))), y275)]
theorem hs284 : stat hb284 ha284 hv284 ho284 = true := by kernel_rfl
theorem hr284 : runOk (un 2 F20 ha284 (mkS hb284) fun v S => some (v, S)) hv284 ho284 = true := by kernel_rfl
theorem hm284 : FOK Tryz.prog 20 (memoF hb284 ha284 hv284 ho284) := memo_ok K20 hs284 hr284
def hb285 : List (List V) := [y193, y262]
def ha285 : List V := [(.so .h 0 3 3 3), (.so (.o .h) 0 12 12 3)]
def hv285 : V := (.so (.o (.o (.o (.i (.i (.o (.i (.o (.i .h))))))))) 0 14 14 3)
def ho285 : List (Pos × List V) := [((.o (.o (.o (.i (.i (.o (.i (.o (.i .h))))))))), y276)]
theorem hs285 : stat hb285 ha285 hv285 ho285 = true := by kernel_rfl
theorem hr285 : runOk (un 2 F20 ha285 (mkS hb285) fun v S => some (v, S)) hv285 ho285 = true := by kernel_rfl
theorem hm285 : FOK Tryz.prog 20 (memoF hb285 ha285 hv285 ho285) := memo_ok K20 hs285 hr285
def hb286 : List (List V) := [y194, y250]
def ha286 : List V := [(.so .h 0 5 5 3), (.so (.o .h) 0 11 11 3)]
def hv286 : V := (.so (.i (.o (.i (.i (.i (.i (.i (.i (.o (.o .h)))))))))) 0 15 15 3)
def ho286 : List (Pos × List V) := [((.i (.o (.i (.i (.i (.i (.i (.i (.o (.o .h)))))))))), y277)]
theorem hs286 : stat hb286 ha286 hv286 ho286 = true := by kernel_rfl
theorem hr286 : runOk (un 2 F20 ha286 (mkS hb286) fun v S => some (v, S)) hv286 ho286 = true := by kernel_rfl
theorem hm286 : FOK Tryz.prog 20 (memoF hb286 ha286 hv286 ho286) := memo_ok K20 hs286 hr286
def hb287 : List (List V) := [y195, y239]
def ha287 : List V := [(.so .h 0 7 7 3), (.so (.o .h) 0 10 10 3)]
def hv287 : V := (.so (.o (.i (.i (.i (.i (.o (.i (.o (.o (.i .h)))))))))) 0 16 16 3)
def ho287 : List (Pos × List V) := [((.o (.i (.i (.i (.i (.o (.i (.o (.o (.i .h)))))))))), y278)]
theorem hs287 : stat hb287 ha287 hv287 ho287 = true := by kernel_rfl
theorem hr287 : runOk (un 2 F20 ha287 (mkS hb287) fun v S => some (v, S)) hv287 ho287 = true := by kernel_rfl
theorem hm287 : FOK Tryz.prog 20 (memoF hb287 ha287 hv287 ho287) := memo_ok K20 hs287 hr287
def hb288 : List (List V) := [y197, y228]
def ha288 : List V := [(.so .h 0 9 9 3), (.so (.o .h) 0 9 9 3)]
def hv288 : V := (.so (.i (.i (.o (.i (.i (.i (.i (.o (.i (.i .h)))))))))) 0 17 17 3)
def ho288 : List (Pos × List V) := [((.i (.i (.o (.i (.i (.i (.i (.o (.i (.i .h)))))))))), y279)]
theorem hs288 : stat hb288 ha288 hv288 ho288 = true := by kernel_rfl
theorem hr288 : runOk (un 2 F20 ha288 (mkS hb288) fun v S => some (v, S)) hv288 ho288 = true := by kernel_rfl
theorem hm288 : FOK Tryz.prog 20 (memoF hb288 ha288 hv288 ho288) := memo_ok K20 hs288 hr288
def hb289 : List (List V) := [y202, y229]
def ha289 : List V := [(.so .h 0 11 11 3), (.so (.o .h) 0 8 8 3)]
def hv289 : V := (.so (.o (.o (.i (.i (.i (.i (.o (.o (.o (.o (.o .h))))))))))) 0 18 18 3)
def ho289 : List (Pos × List V) := [((.o (.o (.i (.i (.i (.i (.o (.o (.o (.o (.o .h))))))))))), y280)]
theorem hs289 : stat hb289 ha289 hv289 ho289 = true := by kernel_rfl
theorem hr289 : runOk (un 2 F20 ha289 (mkS hb289) fun v S => some (v, S)) hv289 ho289 = true := by kernel_rfl
theorem hm289 : FOK Tryz.prog 20 (memoF hb289 ha289 hv289 ho289) := memo_ok K20 hs289 hr289
def hb290 : List (List V) := [y209, y219]
def ha290 : List V := [(.so .h 0 13 13 3), (.so (.o .h) 0 7 7 3)]
def hv290 : V := (.so (.i (.o (.o (.o (.o (.i (.o (.i (.o (.o (.o .h))))))))))) 0 19 19 3)
def ho290 : List (Pos × List V) := [((.i (.o (.o (.o (.o (.i (.o (.i (.o (.o (.o .h))))))))))), y281)]
theorem hs290 : stat hb290 ha290 hv290 ho290 = true := by kernel_rfl
theorem hr290 : runOk (un 2 F20 ha290 (mkS hb290) fun v S => some (v, S)) hv290 ho290 = true := by kernel_rfl
theorem hm290 : FOK Tryz.prog 20 (memoF hb290 ha290 hv290 ho290) := memo_ok K20 hs290 hr290
def hb291 : List (List V) := [y217, y211]
def ha291 : List V := [(.so .h 0 15 15 3), (.so (.o .h) 0 6 6 3)]
def hv291 : V := (.so (.o (.o (.i (.o (.o (.i (.o (.i (.o (.o (.o .h))))))))))) 0 20 20 3)
def ho291 : List (Pos × List V) := [((.o (.o (.i (.o (.o (.i (.o (.i (.o (.o (.o .h))))))))))), y282)]
theorem hs291 : stat hb291 ha291 hv291 ho291 = true := by kernel_rfl
theorem hr291 : runOk (un 2 F20 ha291 (mkS hb291) fun v S => some (v, S)) hv291 ho291 = true := by kernel_rfl
theorem hm291 : FOK Tryz.prog 20 (memoF hb291 ha291 hv291 ho291) := memo_ok K20 hs291 hr291
end
end Go.AM
