/- Products of the reference, by their runs. -/
import Derived.Test.YtpendgpnikmohaaGreatRH
import Derived.Test.YtpendgpnikmohaaGreatXM6
import Derived.Test.YtpendgpnikmohaaGreatMHD
set_option maxRecDepth 1000000
set_option linter.unusedVariables false
namespace Go.AM
open Go.Proofs
noncomputable section
def hb292 : List (List V) := [y226, y204]
def ha292 : List V := [(.so .h 0 17 17 3), (.so (.o .h) 0 5 5 3)]
def hv292 : V := (.so (.i (.i (.o (.i (.o (.o (.i (.o (.o (.o (.o .h))))))))))) 0 21 21 3)
def ho292 : List (Pos × List V) := [((.i (.i (.o (.i (.o (.o (.i (.o (.o (.o (.o .h))))))))))), y283)]
theorem hs292 : stat hb292 ha292 hv292 ho292 = true := by kernel_rfl
theorem hr292 : runOk (un 2 F20 ha292 (mkS hb292) fun v S => some (v, S)) hv292 ho292 = true := by kernel_rfl
theorem hm292 : FOK Tryz.prog 20 (memoF hb292 ha292 hv292 ho292) := memo_ok K20 hs292 hr292
def hb293 : List (List V) := [y237, y198]
def ha293 : List V := [(.so .h 0 19 19 3), (.so (.o .h) 0 4 4 3)]
def hv293 : V := (.so (.o (.o (.o (.o (.i (.o (.o (.i (.i (.i .h)))))))))) 0 22 22 3)
def ho293 : List (Pos × List V) := [((.o (.o (.o (.o (.i (.o (.o (.i (.i (.i .h)))))))))), y284)]
theorem hs293 : stat hb293 ha293 hv293 ho293 = true := by kernel_rfl
theorem hr293 : runOk (un 2 F20 ha293 (mkS hb293) fun v S => some (v, S)) hv293 ho293 = true := by kernel_rfl
theorem hm293 : FOK Tryz.prog 20 (memoF hb293 ha293 hv293 ho293) := memo_ok K20 hs293 hr293
def hb294 : List (List V) := [y248, y2]
def ha294 : List V := [(.so .h 0 21 21 3), (.so (.o .h) 0 3 3 3)]
def hv294 : V := (.so (.i (.o (.o (.i (.i (.i (.i (.o (.o (.i .h)))))))))) 0 23 23 3)
def ho294 : List (Pos × List V) := [((.i (.o (.o (.i (.i (.i (.i (.o (.o (.i .h)))))))))), y285)]
theorem hs294 : stat hb294 ha294 hv294 ho294 = true := by kernel_rfl
theorem hr294 : runOk (un 2 F20 ha294 (mkS hb294) fun v S => some (v, S)) hv294 ho294 = true := by kernel_rfl
theorem hm294 : FOK Tryz.prog 20 (memoF hb294 ha294 hv294 ho294) := memo_ok K20 hs294 hr294
def hb295 : List (List V) := [y260, y0]
def ha295 : List V := [(.so .h 0 23 23 3), (.so (.o .h) 0 2 2 3)]
def hv295 : V := (.so (.o (.o (.o (.i (.i (.o (.o (.o (.i (.o .h)))))))))) 0 24 24 3)
def ho295 : List (Pos × List V) := [((.o (.o (.o (.i (.i (.o (.o (.o (.i (.o .h)))))))))), y286)]
theorem hs295 : stat hb295 ha295 hv295 ho295 = true := by kernel_rfl
theorem hr295 : runOk (un 2 F20 ha295 (mkS hb295) fun v S => some (v, S)) hv295 ho295 = true := by kernel_rfl
theorem hm295 : FOK Tryz.prog 20 (memoF hb295 ha295 hv295 ho295) := memo_ok K20 hs295 hr295
def hb296 : List (List V) := [y273, [(.b false), (.s [1]), (.s [1])]]
def ha296 : List V := [(.so .h 0 25 25 3), (.so (.o .h) 0 1 1 3)]
def hv296 : V := (.so (.i (.i (.i (.i (.i (.i (.o (.o (.i .h))))))))) 0 25 25 3)
def ho296 : List (Pos × List V) := [((.i (.i (.i (.i (.i (.i (.o (.o (.i .h))))))))), y273)]
theorem hs296 : stat hb296 ha296 hv296 ho296 = true := by kernel_rfl
theorem hr296 : runOk (un 2 F20 ha296 (mkS hb296) fun v S => some (v, S)) hv296 ho296 = true := by kernel_rfl
theorem hm296 : FOK Tryz.prog 20 (memoF hb296 ha296 hv296 ho296) := memo_ok K20 hs296 hr296
def hb297 : List (List V) := [y273, y193]
def ha297 : List V := [(.so .h 0 25 25 3), (.so (.o .h) 0 3 3 3)]
def hv297 : V := (.so (.i (.i (.o (.o (.i (.o (.i (.o (.o (.o (.o .h))))))))))) 0 27 27 3)
def ho297 : List (Pos × List V) := [((.i (.i (.o (.o (.i (.o (.i (.o (.o (.o (.o .h))))))))))), y287)]
theorem hs297 : stat hb297 ha297 hv297 ho297 = true := by kernel_rfl
theorem hr297 : runOk (un 2 F20 ha297 (mkS hb297) fun v S => some (v, S)) hv297 ho297 = true := by kernel_rfl
theorem hm297 : FOK Tryz.prog 20 (memoF hb297 ha297 hv297 ho297) := memo_ok K20 hs297 hr297
def hb298 : List (List V) := [y0, y34]
def ha298 : List V := [(.so .h 0 2 2 3), (.so (.o .h) 0 13 13 3)]
def hv298 : V := (.so (.o (.i (.o (.o (.i (.i (.i (.i (.o .h))))))))) 0 14 14 3)
def ho298 : List (Pos × List V) := [((.o (.i (.o (.o (.i (.i (.i (.i (.o .h))))))))), y288)]
theorem hs298 : stat hb298 ha298 hv298 ho298 = true := by kernel_rfl
theorem hr298 : runOk (un 2 F20 ha298 (mkS hb298) fun v S => some (v, S)) hv298 ho298 = true := by kernel_rfl
theorem hm298 : FOK Tryz.prog 20 (memoF hb298 ha298 hv298 ho298) := memo_ok K20 hs298 hr298
def hb299 : List (List V) := [y288, y31]
def ha299 : List V := [(.so .h 0 14 14 3), (.so (.o .h) 0 12 12 3)]
def hv299 : V := (.so (.o (.i (.o (.i (.i (.o (.o (.o (.o .h))))))))) 0 14 14 3)
def ho299 : List (Pos × List V) := [((.o (.i (.o (.i (.i (.o (.o (.o (.o .h))))))))), y37)]
theorem hs299 : stat hb299 ha299 hv299 ho299 = true := by kernel_rfl
theorem hr299 : runOk (un 2 F39 ha299 (mkS hb299) fun v S => some (v, S)) hv299 ho299 = true := by kernel_rfl
theorem hm299 : FOK Tryz.prog 39 (memoF hb299 ha299 hv299 ho299) := memo_ok K39 hs299 hr299
def hb300 : List (List V) := [[(.b false), (.s [1]), (.s [1])], y289]
def ha300 : List V := [(.so .h 0 1 1 3), (.so (.o .h) 0 14 14 3)]
def hv300 : V := (.so (.o (.i (.o (.i (.o (.o (.o (.i .h)))))))) 0 14 14 3)
def ho300 : List (Pos × List V) := [((.o (.i (.o (.i (.o (.o (.o (.i .h)))))))), y289)]
theorem hs300 : stat hb300 ha300 hv300 ho300 = true := by kernel_rfl
theorem hr300 : runOk (un 2 F20 ha300 (mkS hb300) fun v S => some (v, S)) hv300 ho300 = true := by kernel_rfl
theorem hm300 : FOK Tryz.prog 20 (memoF hb300 ha300 hv300 ho300) := memo_ok K20 hs300 hr300
def hb301 : List (List V) := [y193, y275]
def ha301 : List V := [(.so .h 0 3 3 3), (.so (.o .h) 0 13 13 3)]
def hv301 : V := (.so (.i (.i (.o (.i (.i (.o (.o (.i (.i .h))))))))) 0 15 15 3)
def ho301 : List (Pos × List V) := [((.i (.i (.o (.i (.i (.o (.o (.i (.i .h))))))))), y290)]
theorem hs301 : stat hb301 ha301 hv301 ho301 = true := by kernel_rfl
theorem hr301 : runOk (un 2 F20 ha301 (mkS hb301) fun v S => some (v, S)) hv301 ho301 = true := by kernel_rfl
theorem hm301 : FOK Tryz.prog 20 (memoF hb301 ha301 hv301 ho301) := memo_ok K20 hs301 hr301
def hb302 : List (List V) := [y194, y262]
def ha302 : List V := [(.so .h 0 5 5 3), (.so (.o .h) 0 12 12 3)]
def hv302 : V := (.so (.o (.o (.o (.i (.o (.i (.i (.o (.i (.o .h)))))))))) 0 16 16 3)
def ho302 : List (Pos × List V) := [((.o (.o (.o (.i (.o (.i (.i (.o (.i (.o .h)))))))))), y291)]
theorem hs302 : stat hb302 ha302 hv302 ho302 = true := by kernel_rfl
theorem hr302 : runOk (un 2 F20 ha302 (mkS hb302) fun v S => some (v, S)) hv302 ho302 = true := by kernel_rfl
theorem hm302 : FOK Tryz.prog 20 (memoF hb302 ha302 hv302 ho302) := memo_ok K20 hs302 hr302
def hb303 : List (List V) := [y195, y250]
def ha303 : List V := [(.so .h 0 7 7 3), (.so (.o .h) 0 11 11 3)]
def hv303 : V := (.so (.i (.o (.o (.o (.i (.i (.i (.i (.o (.i .h)))))))))) 0 17 17 3)
def ho303 : List (Pos × List V) := [((.i (.o (.o (.o (.i (.i (.i (.i (.o (.i .h)))))))))), y292)]
theorem hs303 : stat hb303 ha303 hv303 ho303 = true := by kernel_rfl
theorem hr303 : runOk (un 2 F20 ha303 (mkS hb303) fun v S => some (v, S)) hv303 ho303 = true := by kernel_rfl
theorem hm303 : FOK Tryz.prog 20 (memoF hb303 ha303 hv303 ho303) := memo_ok K20 hs303 hr303
def hb304 : List (List V) := [y197, y239]
def ha304 : List V := [(.so .h 0 9 9 3), (.so (.o .h) 0 10 10 3)]
def hv304 : V := (.so (.o (.i (.i (.o (.i (.i (.o (.o (.o (.o (.o .h))))))))))) 0 18 18 3)
def ho304 : List (Pos × List V) := [((.o (.i (.i (.o (.i (.i (.o (.o (.o (.o (.o .h))))))))))), y293)]
theorem hs304 : stat hb304 ha304 hv304 ho304 = true := by kernel_rfl
theorem hr304 : runOk (un 2 F20 ha304 (mkS hb304) fun v S => some (v, S)) hv304 ho304 = true := by kernel_rfl
theorem hm304 : FOK Tryz.prog 20 (memoF hb304 ha304 hv304 ho304) := memo_ok K20 hs304 hr304
def hb305 : List (List V) := [y202, y228]
def ha305 : List V := [(.so .h 0 11 11 3), (.so (.o .h) 0 9 9 3)]
def hv305 : V := (.so (.i (.i (.o (.i (.o (.i (.o (.o (.i (.o (.o .h))))))))))) 0 19 19 3)
def ho305 : List (Pos × List V) := [((.i (.i (.o (.i (.o (.i (.o (.o (.i (.o (.o .h))))))))))), y294)]
theorem hs305 : stat hb305 ha305 hv305 ho305 = true := by kernel_rfl
theorem hr305 : runOk (un 2 F20 ha305 (mkS hb305) fun v S => some (v, S)) hv305 ho305 = true := by kernel_rfl
theorem hm305 : FOK Tryz.prog 20 (memoF hb305 ha305 hv305 ho305) := memo_ok K20 hs305 hr305
def hb306 : List (List V) := [y209, y229]
def ha306 : List V := [(.so .h 0 13 13 3), (.so (.o .h) 0 8 8 3)]
def hv306 : V := (.so (.o (.i (.i (.i (.i (.i (.o (.i (.i (.o (.o .h))))))))))) 0 20 20 3)
def ho306 : List (Pos × List V) := [((.o (.i (.i (.i (.i (.i (.o (.i (.i (.o (.o .h))))))))))), y295)]
theorem hs306 : stat hb306 ha306 hv306 ho306 = true := by kernel_rfl
theorem hr306 : runOk (un 2 F20 ha306 (mkS hb306) fun v S => some (v, S)) hv306 ho306 = true := by kernel_rfl
theorem hm306 : FOK Tryz.prog 20 (memoF hb306 ha306 hv306 ho306) := memo_ok K20 hs306 hr306
def hb307 : List (List V) := [y217, y219]
def ha307 : List V := [(.so .h 0 15 15 3), (.so (.o .h) 0 7 7 3)]
def hv307 : V := (.so (.i (.o (.i (.o (.i (.i (.i (.i (.i (.o (.o .h))))))))))) 0 21 21 3)
def ho307 : List (Pos × List V) := [((.i (.o (.i (.o (.i (.i (.i (.i (.i (.o (.o .h))))))))))), y296)]
theorem hs307 : stat hb307 ha307 hv307 ho307 = true := by kernel_rfl
theorem hr307 : runOk (un 2 F20 ha307 (mkS hb307) fun v S => some (v, S)) hv307 ho307 = true := by kernel_rfl
theorem hm307 : FOK Tryz.prog 20 (memoF hb307 ha307 hv307 ho307) := memo_ok K20 hs307 hr307
def hb308 : List (List V) := [y226, y211]
def ha308 : List V := [(.so .h 0 17 17 3), (.so (.o .h) 0 6 6 3)]
def hv308 : V := (.so (.o (.i (.o (.i (.o (.o (.i (.i (.i (.o (.o .h))))))))))) 0 22 22 3)
def ho308 : List (Pos × List V) := [((.o (.i (.o (.i (.o (.o (.i (.i (.i (.o (.o .h))))))))))), y297)]
theorem hs308 : stat hb308 ha308 hv308 ho308 = true := by kernel_rfl
theorem hr308 : runOk (un 2 F20 ha308 (mkS hb308) fun v S => some (v, S)) hv308 ho308 = true := by kernel_rfl
theorem hm308 : FOK Tryz.prog 20 (memoF hb308 ha308 hv308 ho308) := memo_ok K20 hs308 hr308
def hb309 : List (List V) := [y237, y204]
def ha309 : List V := [(.so .h 0 19 19 3), (.so (.o .h) 0 5 5 3)]
def hv309 : V := (.so (.i (.i (.o (.o (.o (.o (.i (.o (.i (.o (.o .h))))))))))) 0 23 23 3)
def ho309 : List (Pos × List V) := [((.i (.i (.o (.o (.o (.o (.i (.o (.i (.o (.o .h))))))))))), y298)]
theorem hs309 : stat hb309 ha309 hv309 ho309 = true := by kernel_rfl
theorem hr309 : runOk (un 2 F20 ha309 (mkS hb309) fun v S => some (v, S)) hv309 ho309 = true := by kernel_rfl
theorem hm309 : FOK Tryz.prog 20 (memoF hb309 ha309 hv309 ho309) := memo_ok K20 hs309 hr309
def hb310 : List (List V) := [y248, y198]
def ha310 : List V := [(.so .h 0 21 21 3), (.so (.o .h) 0 4 4 3)]
def hv310 : V := (.so (.o (.i (.o (.i (.i (.o (.i (.o (.o (.o (.o .h))))))))))) 0 24 24 3)
def ho310 : List (Pos × List V) := [((.o (.i (.o (.i (.i (.o (.i (.o (.o (.o (.o .h))))))))))), y299)]
theorem hs310 : stat hb310 ha310 hv310 ho310 = true := by kernel_rfl
theorem hr310 : runOk (un 2 F20 ha310 (mkS hb310) fun v S => some (v, S)) hv310 ho310 = true := by kernel_rfl
theorem hm310 : FOK Tryz.prog 20 (memoF hb310 ha310 hv310 ho310) := memo_ok K20 hs310 hr310
def hb311 : List (List V) := [y260, y2]
def ha311 : List V := [(.so .h 0 23 23 3), (.so (.o .h) 0 3 3 3)]
def hv311 : V := (.so (.i (.o (.i (.o (.i (.i (.o (.o (.i (.i .h)))))))))) 0 25 25 3)
def ho311 : List (Pos × List V) := [((.i (.o (.i (.o (.i (.i (.o (.o (.i (.i .h)))))))))), y300)]
theorem hs311 : stat hb311 ha311 hv311 ho311 = true := by kernel_rfl
theorem hr311 : runOk (un 2 F20 ha311 (mkS hb311) fun v S => some (v, S)) hv311 ho311 = true := by kernel_rfl
theorem hm311 : FOK Tryz.prog 20 (memoF hb311 ha311 hv311 ho311) := memo_ok K20 hs311 hr311
def hb312 : List (List V) := [y273, y0]
def ha312 : List V := [(.so .h 0 25 25 3), (.so (.o .h) 0 2 2 3)]
def hv312 : V := (.so (.o (.o (.i (.i (.o (.o (.o (.i (.i (.o .h)))))))))) 0 26 26 3)
def ho312 : List (Pos × List V) := [((.o (.o (.i (.i (.o (.o (.o (.i (.i (.o .h)))))))))), y301)]
theorem hs312 : stat hb312 ha312 hv312 ho312 = true := by kernel_rfl
theorem hr312 : runOk (un 2 F20 ha312 (mkS hb312) fun v S => some (v, S)) hv312 ho312 = true := by kernel_rfl
theorem hm312 : FOK Tryz.prog 20 (memoF hb312 ha312 hv312 ho312) := memo_ok K20 hs312 hr312
def hb313 : List (List V) := [y287, [(.b false), (.s [1]), (.s [1])]]
def ha313 : List V := [(.so .h 0 27 27 3), (.so (.o .h) 0 1 1 3)]
def hv313 : V := (.so (.i (.i (.o (.i (.o (.o (.o (.i (.i .h))))))))) 0 27 27 3)
def ho313 : List (Pos × List V) := [((.i (.i (.o (.i (.o (.o (.o (.i (.i .h))))))))), y287)]
theorem hs313 : stat hb313 ha313 hv313 ho313 = true := by kernel_rfl
theorem hr313 : runOk (un 2 F20 ha313 (mkS hb313) fun v S => some (v, S)) hv313 ho313 = true := by kernel_rfl
theorem hm313 : FOK Tryz.prog 20 (memoF hb313 ha313 hv313 ho313) := memo_ok K20 hs313 hr313
def hb314 : List (List V) := [y287, y193]
def ha314 : List V := [(.so .h 0 27 27 3), (.so (.o .h) 0 3 3 3)]
def hv314 : V := (.so (.i (.o (.o (.o (.i (.o (.o (.o (.i (.o (.o .h))))))))))) 0 29 29 3)
def ho314 : List (Pos × List V) := [((.i (.o (.o (.o (.i (.o (.o (.o (.i (.o (.o .h))))))))))), y302)]
theorem hs314 : stat hb314 ha314 hv314 ho314 = true := by kernel_rfl
theorem hr314 : runOk (un 2 F20 ha314 (mkS hb314) fun v S => some (v, S)) hv314 ho314 = true := by kernel_rfl
theorem hm314 : FOK Tryz.prog 20 (memoF hb314 ha314 hv314 ho314) := memo_ok K20 hs314 hr314
def hb315 : List (List V) := [y0, y37]
def ha315 : List V := [(.so .h 0 2 2 3), (.so (.o .h) 0 14 14 3)]
def hv315 : V := (.so (.o (.o (.i (.i (.o (.i (.o (.o (.i .h))))))))) 0 15 15 3)
def ho315 : List (Pos × List V) := [((.o (.o (.i (.i (.o (.i (.o (.o (.i .h))))))))), y303)]
theorem hs315 : stat hb315 ha315 hv315 ho315 = true := by kernel_rfl
theorem hr315 : runOk (un 2 F20 ha315 (mkS hb315) fun v S => some (v, S)) hv315 ho315 = true := by kernel_rfl
theorem hm315 : FOK Tryz.prog 20 (memoF hb315 ha315 hv315 ho315) := memo_ok K20 hs315 hr315
def hb316 : List (List V) := [y303, y34]
def ha316 : List V := [(.so .h 0 15 15 3), (.so (.o .h) 0 13 13 3)]
def hv316 : V := (.so (.o (.o (.o (.o (.o (.o (.i (.o (.o .h))))))))) 0 15 15 3)
def ho316 : List (Pos × List V) := [((.o (.o (.o (.o (.o (.o (.i (.o (.o .h))))))))), y40)]
theorem hs316 : stat hb316 ha316 hv316 ho316 = true := by kernel_rfl
theorem hr316 : runOk (un 2 F39 ha316 (mkS hb316) fun v S => some (v, S)) hv316 ho316 = true := by kernel_rfl
theorem hm316 : FOK Tryz.prog 39 (memoF hb316 ha316 hv316 ho316) := memo_ok K39 hs316 hr316
def hb317 : List (List V) := [[(.b false), (.s [1]), (.s [1])], y304]
def ha317 : List V := [(.so .h 0 1 1 3), (.so (.o .h) 0 15 15 3)]
def hv317 : V := (.so (.i (.o (.i (.o (.o (.i (.o (.i .h)))))))) 0 15 15 3)
def ho317 : List (Pos × List V) := [((.i (.o (.i (.o (.o (.i (.o (.i .h)))))))), y304)]
theorem hs317 : stat hb317 ha317 hv317 ho317 = true := by kernel_rfl
theorem hr317 : runOk (un 2 F20 ha317 (mkS hb317) fun v S => some (v, S)) hv317 ho317 = true := by kernel_rfl
theorem hm317 : FOK Tryz.prog 20 (memoF hb317 ha317 hv317 ho317) := memo_ok K20 hs317 hr317
def hb318 : List (List V) := [y193, y289]
def ha318 : List V := [(.so .h 0 3 3 3), (.so (.o .h) 0 14 14 3)]
def hv318 : V := (.so (.o (.i (.i (.i (.i (.o (.i (.i (.i .h))))))))) 0 16 16 3)
def ho318 : List (Pos × List V) := [((.o (.i (.i (.i (.i (.o (.i (.i (.i .h))))))))), y305)]
theorem hs318 : stat hb318 ha318 hv318 ho318 = true := by kernel_rfl
theorem hr318 : runOk (un 2 F20 ha318 (mkS hb318) fun v S => some (v, S)) hv318 ho318 = true := by kernel_rfl
theorem hm318 : FOK Tryz.prog 20 (memoF hb318 ha318 hv318 ho318) := memo_ok K20 hs318 hr318
def hb319 : List (List V) := [y194, y275]
def ha319 : List V := [(.so .h 0 5 5 3), (.so (.o .h) 0 13 13 3)]
def hv319 : V := (.so (.i (.i (.o (.o (.i (.o (.i (.i (.i (.o .h)))))))))) 0 17 17 3)
def ho319 : List (Pos × List V) := [((.i (.i (.o (.o (.i (.o (.i (.i (.i (.o .h)))))))))), y306)]
theorem hs319 : stat hb319 ha319 hv319 ho319 = true := by kernel_rfl
theorem hr319 : runOk (un 2 F20 ha319 (mkS hb319) fun v S => some (v, S)) hv319 ho319 = true := by kernel_rfl
theorem hm319 : FOK Tryz.prog 20 (memoF hb319 ha319 hv319 ho319) := memo_ok K20 hs319 hr319
def hb320 : List (List V) := [y195, y262]
def ha320 : List V := [(.so .h 0 7 7 3), (.so (.o .h) 0 12 12 3)]
def hv320 : V := (.so (.o (.o (.i (.o (.o (.o (.o (.i (.i (.i .h)))))))))) 0 18 18 3)
def ho320 : List (Pos × List V) := [((.o (.o (.i (.o (.o (.o (.o (.i (.i (.i .h)))))))))), y307)]
theorem hs320 : stat hb320 ha320 hv320 ho320 = true := by kernel_rfl
theorem hr320 : runOk (un 2 F20 ha320 (mkS hb320) fun v S => some (v, S)) hv320 ho320 = true := by kernel_rfl
theorem hm320 : FOK Tryz.prog 20 (memoF hb320 ha320 hv320 ho320) := memo_ok K20 hs320 hr320
def hb321 : List (List V) := [y197, y250]
def ha321 : List V := [(.so .h 0 9 9 3), (.so (.o .h) 0 11 11 3)]
def hv321 : V := (.so (.i (.o (.o (.o (.i (.i (.i (.i (.o (.o (.o .h))))))))))) 0 19 19 3)
def ho321 : List (Pos × List V) := [((.i (.o (.o (.o (.i (.i (.i (.i (.o (.o (.o .h))))))))))), y308)]
theorem hs321 : stat hb321 ha321 hv321 ho321 = true := by kernel_rfl
theorem hr321 : runOk (un 2 F20 ha321 (mkS hb321) fun v S => some (v, S)) hv321 ho321 = true := by kernel_rfl
theorem hm321 : FOK Tryz.prog 20 (memoF hb321 ha321 hv321 ho321) := memo_ok K20 hs321 hr321
def hb322 : List (List V) := [y202, y239]
def ha322 : List V := [(.so .h 0 11 11 3), (.so (.o .h) 0 10 10 3)]
def hv322 : V := (.so (.o (.o (.i (.o (.i (.o (.o (.o (.o (.i (.o .h))))))))))) 0 20 20 3)
def ho322 : List (Pos × List V) := [((.o (.o (.i (.o (.i (.o (.o (.o (.o (.i (.o .h))))))))))), y309)]
theorem hs322 : stat hb322 ha322 hv322 ho322 = true := by kernel_rfl
theorem hr322 : runOk (un 2 F20 ha322 (mkS hb322) fun v S => some (v, S)) hv322 ho322 = true := by kernel_rfl
theorem hm322 : FOK Tryz.prog 20 (memoF hb322 ha322 hv322 ho322) := memo_ok K20 hs322 hr322
def hb323 : List (List V) := [y209, y228]
def ha323 : List V := [(.so .h 0 13 13 3), (.so (.o .h) 0 9 9 3)]
def hv323 : V := (.so (.i (.i (.o (.i (.i (.o (.i (.i (.o (.i (.o .h))))))))))) 0 21 21 3)
def ho323 : List (Pos × List V) := [((.i (.i (.o (.i (.i (.o (.i (.i (.o (.i (.o .h))))))))))), y310)]
theorem hs323 : stat hb323 ha323 hv323 ho323 = true := by kernel_rfl
theorem hr323 : runOk (un 2 F20 ha323 (mkS hb323) fun v S => some (v, S)) hv323 ho323 = true := by kernel_rfl
theorem hm323 : FOK Tryz.prog 20 (memoF hb323 ha323 hv323 ho323) := memo_ok K20 hs323 hr323
def hb324 : List (List V) := [y217, y229]
def ha324 : List V := [(.so .h 0 15 15 3), (.so (.o .h) 0 8 8 3)]
def hv324 : V := (.so (.o (.o (.o (.o (.o (.o (.i (.o (.i (.i (.o .h))))))))))) 0 22 22 3)
def ho324 : List (Pos × List V) := [((.o (.o (.o (.o (.o (.o (.i (.o (.i (.i (.o .h))))))))))), y311)]
theorem hs324 : stat hb324 ha324 hv324 ho324 = true := by kernel_rfl
theorem hr324 : runOk (un 2 F20 ha324 (mkS hb324) fun v S => some (v, S)) hv324 ho324 = true := by kernel_rfl
theorem hm324 : FOK Tryz.prog 20 (memoF hb324 ha324 hv324 ho324) := memo_ok K20 hs324 hr324
def hb325 : List (List V) := [y226, y219]
def ha325 : List V := [(.so .h 0 17 17 3), (.so (.o .h) 0 7 7 3)]
def hv325 : V := (.so (.i (.o (.o (.i (.o (.o (.i (.o (.i (.i (.o .h))))))))))) 0 23 23 3)
def ho325 : List (Pos × List V) := [((.i (.o (.o (.i (.o (.o (.i (.o (.i (.i (.o .h))))))))))), y312)]
theorem hs325 : stat hb325 ha325 hv325 ho325 = true := by kernel_rfl
theorem hr325 : runOk (un 2 F20 ha325 (mkS hb325) fun v S => some (v, S)) hv325 ho325 = true := by kernel_rfl
theorem hm325 : FOK Tryz.prog 20 (memoF hb325 ha325 hv325 ho325) := memo_ok K20 hs325 hr325
def hb326 : List (List V) := [y237, y211]
def ha326 : List V := [(.so .h 0 19 19 3), (.so (.o .h) 0 6 6 3)]
def hv326 : V := (.so (.o (.o (.o (.o (.i (.i (.i (.i (.o (.i (.o .h))))))))))) 0 24 24 3)
def ho326 : List (Pos × List V) := [((.o (.o (.o (.o (.i (.i (.i (.i (.o (.i (.o .h))))))))))), y313)]
theorem hs326 : stat hb326 ha326 hv326 ho326 = true := by kernel_rfl
theorem hr326 : runOk (un 2 F20 ha326 (mkS hb326) fun v S => some (v, S)) hv326 ho326 = true := by kernel_rfl
theorem hm326 : FOK Tryz.prog 20 (memoF hb326 ha326 hv326 ho326) := memo_ok K20 hs326 hr326
def hb327 : List (List V) := [y248, y204]
def ha327 : List V := [(.so .h 0 21 21 3), (.so (.o .h) 0 5 5 3)]
def hv327 : V := (.so (.i (.i (.o (.i (.i (.i (.o (.o (.o (.i (.o .h))))))))))) 0 25 25 3)
def ho327 : List (Pos × List V) := [((.i (.i (.o (.i (.i (.i (.o (.o (.o (.i (.o .h))))))))))), y314)]
theorem hs327 : stat hb327 ha327 hv327 ho327 = true := by kernel_rfl
theorem hr327 : runOk (un 2 F20 ha327 (mkS hb327) fun v S => some (v, S)) hv327 ho327 = true := by kernel_rfl
theorem hm327 : FOK Tryz.prog 20 (memoF hb327 ha327 hv327 ho327) := memo_ok K20 hs327 hr327
def hb328 : List (List V) := [y260, y198]
def ha328 : List V := [(.so .h 0 23 23 3), (.so (.o .h) 0 4 4 3)]
def hv328 : V := (.so (.o (.o (.i (.i (.o (.o (.i (.o (.i (.o (.o .h))))))))))) 0 26 26 3)
def ho328 : List (Pos × List V) := [((.o (.o (.i (.i (.o (.o (.i (.o (.i (.o (.o .h))))))))))), y315)]
theorem hs328 : stat hb328 ha328 hv328 ho328 = true := by kernel_rfl
theorem hr328 : runOk (un 2 F20 ha328 (mkS hb328) fun v S => some (v, S)) hv328 ho328 = true := by kernel_rfl
theorem hm328 : FOK Tryz.prog 20 (memoF hb328 ha328 hv328 ho328) := memo_ok K20 hs328 hr328
def hb329 : List (List V) := [y273, y2]
def ha329 : List V := [(.so .h 0 25 25 3), (.so (.o .h) 0 3 3 3)]
def hv329 : V := (.so (.i (.o (.o (.i (.i (.o (.i (.i (.i (.i .h)))))))))) 0 27 27 3)
def ho329 : List (Pos × List V) := [((.i (.o (.o (.i (.i (.o (.i (.i (.i (.i .h)))))))))), y316)]
theorem hs329 : stat hb329 ha329 hv329 ho329 = true := by kernel_rfl
theorem hr329 : runOk (un 2 F20 ha329 (mkS hb329) fun v S => some (v, S)) hv329 ho329 = true := by kernel_rfl
theorem hm329 : FOK Tryz.prog 20 (memoF hb329 ha329 hv329 ho329) := memo_ok K20 hs329 hr329
def hb330 : List (List V) := [y287, y0]
def ha330 : List V := [(.so .h 0 27 27 3), (.so (.o .h) 0 2 2 3)]
def hv330 : V := (.so (.o (.o (.i (.i (.o (.o (.o (.o (.o (.i .h)))))))))) 0 28 28 3)
def ho330 : List (Pos × List V) := [((.o (.o (.i (.i (.o (.o (.o (.o (.o (.i .h)))))))))), y317)]
theorem hs330 : stat hb330 ha330 hv330 ho330 = true := by kernel_rfl
theorem hr330 : runOk (un 2 F20 ha330 (mkS hb330) fun v S => some (v, S)) hv330 ho330 = true := by kernel_rfl
theorem hm330 : FOK Tryz.prog 20 (memoF hb330 ha330 hv330 ho330) := memo_ok K20 hs330 hr330
def hb331 : List (List V) := [y302, [(.b false), (.s [1]), (.s [1])]]
def ha331 : List V := [(.so .h 0 29 29 3), (.so (.o .h) 0 1 1 3)]
def hv331 : V := (.so (.i (.i (.i (.i (.o (.o (.i (.i (.i .h))))))))) 0 29 29 3)
def ho331 : List (Pos × List V) := [((.i (.i (.i (.i (.o (.o (.i (.i (.i .h))))))))), y302)]
theorem hs331 : stat hb331 ha331 hv331 ho331 = true := by kernel_rfl
theorem hr331 : runOk (un 2 F20 ha331 (mkS hb331) fun v S => some (v, S)) hv331 ho331 = true := by kernel_rfl
theorem hm331 : FOK Tryz.prog 20 (memoF hb331 ha331 hv331 ho331) := memo_ok K20 hs331 hr331
def hb332 : List (List V) := [y302, y193]
def ha332 : List V := [(.so .h 0 29 29 3), (.so (.o .h) 0 3 3 3)]
def hv332 : V := (.so (.i (.i (.i (.i (.i (.i (.o (.i (.i (.o (.o .h))))))))))) 0 31 31 3)
def ho332 : List (Pos × List V) := [((.i (.i (.i (.i (.i (.i (.o (.i (.i (.o (.o .h))))))))))), y318)]
theorem hs332 : stat hb332 ha332 hv332 ho332 = true := by kernel_rfl
theorem hr332 : runOk (un 2 F20 ha332 (mkS hb332) fun v S => some (v, S)) hv332 ho332 = true := by kernel_rfl
theorem hm332 : FOK Tryz.prog 20 (memoF hb332 ha332 hv332 ho332) := memo_ok K20 hs332 hr332
def hb333 : List (List V) := [y0, y40]
def ha333 : List V := [(.so .h 0 2 2 3), (.so (.o .h) 0 15 15 3)]
def hv333 : V := (.so (.o (.o (.i (.o (.o (.i (.i (.o (.i .h))))))))) 0 16 16 3)
def ho333 : List (Pos × List V) := [((.o (.o (.i (.o (.o (.i (.i (.o (.i .h))))))))), y319)]
theorem hs333 : stat hb333 ha333 hv333 ho333 = true := by kernel_rfl
theorem hr333 : runOk (un 2 F20 ha333 (mkS hb333) fun v S => some (v, S)) hv333 ho333 = true := by kernel_rfl
theorem hm333 : FOK Tryz.prog 20 (memoF hb333 ha333 hv333 ho333) := memo_ok K20 hs333 hr333
def hb334 : List (List V) := [y319, y37]
def ha334 : List V := [(.so .h 0 16 16 3), (.so (.o .h) 0 14 14 3)]
def hv334 : V := (.so (.o (.i (.o (.i (.o (.i (.i (.o (.o .h))))))))) 0 16 16 3)
def ho334 : List (Pos × List V) := [((.o (.i (.o (.i (.o (.i (.i (.o (.o .h))))))))), y43)]
theorem hs334 : stat hb334 ha334 hv334 ho334 = true := by kernel_rfl
theorem hr334 : runOk (un 2 F39 ha334 (mkS hb334) fun v S => some (v, S)) hv334 ho334 = true := by kernel_rfl
theorem hm334 : FOK Tryz.prog 39 (memoF hb334 ha334 hv334 ho334) := memo_ok K39 hs334 hr334
def hb335 : List (List V) := [[(.b false), (.s [1]), (.s [1])], y320]
def ha335 : List V := [(.so .h 0 1 1 3), (.so (.o .h) 0 16 16 3)]
def hv335 : V := (.so (.o (.o (.o (.o (.o (.o (.i (.i .h)))))))) 0 16 16 3)
def ho335 : List (Pos × List V) := [((.o (.o (.o (.o (.o (.o (.i (.i .h)))))))), y320)]
theorem hs335 : stat hb335 ha335 hv335 ho335 = true := by kernel_rfl
theorem hr335 : runOk (un 2 F20 ha335 (mkS hb335) fun v S => some (v, S)) hv335 ho335 = true := by kernel_rfl
theorem hm335 : FOK Tryz.prog 20 (memoF hb335 ha335 hv335 ho335) := memo_ok K20 hs335 hr335
def hb336 : List (List V) := [y193, y304]
def ha336 : List V := [(.so .h 0 3 3 3), (.so (.o .h) 0 15 15 3)]
def hv336 : V := (.so (.i (.o (.o (.o (.o (.i (.o (.o (.o (.o .h)))))))))) 0 17 17 3)
def ho336 : List (Pos × List V) := [((.i (.o (.o (.o (.o (.i (.o (.o (.o (.o .h)))))))))), y321)]
theorem hs336 : stat hb336 ha336 hv336 ho336 = true := by kernel_rfl
theorem hr336 : runOk (un 2 F20 ha336 (mkS hb336) fun v S => some (v, S)) hv336 ho336 = true := by kernel_rfl
theorem hm336 : FOK Tryz.prog 20 (memoF hb336 ha336 hv336 ho336) := memo_ok K20 hs336 hr336
def hb337 : List (List V) := [y194, y289]
def ha337 : List V := [(.so .h 0 5 5 3), (.so (.o .h) 0 14 14 3)]
def hv337 : V := (.so (.o (.i (.i (.i (.i (.i (.o (.o (.o (.i .h)))))))))) 0 18 18 3)
def ho337 : List (Pos × List V) := [((.o (.i (.i (.i (.i (.i (.o (.o (.o (.i .h)))))))))), y322)]
theorem hs337 : stat hb337 ha337 hv337 ho337 = true := by kernel_rfl
theorem hr337 : runOk (un 2 F20 ha337 (mkS hb337) fun v S => some (v, S)) hv337 ho337 = true := by kernel_rfl
theorem hm337 : FOK Tryz.prog 20 (memoF hb337 ha337 hv337 ho337) := memo_ok K20 hs337 hr337
def hb338 : List (List V) := [y195, y275]
def ha338 : List V := [(.so .h 0 7 7 3), (.so (.o .h) 0 13 13 3)]
def hv338 : V := (.so (.i (.i (.i (.o (.i (.o (.o (.o (.o (.o (.o .h))))))))))) 0 19 19 3)
def ho338 : List (Pos × List V) := [((.i (.i (.i (.o (.i (.o (.o (.o (.o (.o (.o .h))))))))))), y323)]
theorem hs338 : stat hb338 ha338 hv338 ho338 = true := by kernel_rfl
theorem hr338 : runOk (un 2 F20 ha338 (mkS hb338) fun v S => some (v, S)) hv338 ho338 = true := by kernel_rfl
theorem hm338 : FOK Tryz.prog 20 (memoF hb338 ha338 hv338 ho338) := memo_ok K20 hs338 hr338
def hb339 : List (List V) := [y197, y262]
def ha339 : List V := [(.so .h 0 9 9 3), (.so (.o .h) 0 12 12 3)]
def hv339 : V := (.so (.o (.o (.i (.i (.o (.i (.o (.i (.i (.o (.o .h))))))))))) 0 20 20 3)
def ho339 : List (Pos × List V) := [((.o (.o (.i (.i (.o (.i (.o (.i (.i (.o (.o .h))))))))))), y324)]
theorem hs339 : stat hb339 ha339 hv339 ho339 = true := by kernel_rfl
theorem hr339 : runOk (un 2 F20 ha339 (mkS hb339) fun v S => some (v, S)) hv339 ho339 = true := by kernel_rfl
theorem hm339 : FOK Tryz.prog 20 (memoF hb339 ha339 hv339 ho339) := memo_ok K20 hs339 hr339
def hb340 : List (List V) := [y202, y250]
def ha340 : List V := [(.so .h 0 11 11 3), (.so (.o .h) 0 11 11 3)]
def hv340 : V := (.so (.i (.o (.i (.i (.i (.i (.i (.i (.o (.i (.o .h))))))))))) 0 21 21 3)
def ho340 : List (Pos × List V) := [((.i (.o (.i (.i (.i (.i (.i (.i (.o (.i (.o .h))))))))))), y325)]
theorem hs340 : stat hb340 ha340 hv340 ho340 = true := by kernel_rfl
theorem hr340 : runOk (un 2 F20 ha340 (mkS hb340) fun v S => some (v, S)) hv340 ho340 = true := by kernel_rfl
theorem hm340 : FOK Tryz.prog 20 (memoF hb340 ha340 hv340 ho340) := memo_ok K20 hs340 hr340
def hb341 : List (List V) := [y209, y239]
def ha341 : List V := [(.so .h 0 13 13 3), (.so (.o .h) 0 10 10 3)]
def hv341 : V := (.so (.o (.i (.o (.o (.i (.i (.i (.i (.i (.i (.o .h))))))))))) 0 22 22 3)
def ho341 : List (Pos × List V) := [((.o (.i (.o (.o (.i (.i (.i (.i (.i (.i (.o .h))))))))))), y326)]
theorem hs341 : stat hb341 ha341 hv341 ho341 = true := by kernel_rfl
theorem hr341 : runOk (un 2 F20 ha341 (mkS hb341) fun v S => some (v, S)) hv341 ho341 = true := by kernel_rfl
theorem hm341 : FOK Tryz.prog 20 (memoF hb341 ha341 hv341 ho341) := memo_ok K20 hs341 hr341
def hb342 : List (List V) := [y217, y228]
def ha342 : List V := [(.so .h 0 15 15 3), (.so (.o .h) 0 9 9 3)]
def hv342 : V := (.so (.i (.i (.o (.i (.o (.o (.o (.i (.o (.o (.i .h))))))))))) 0 23 23 3)
def ho342 : List (Pos × List V) := [((.i (.i (.o (.i (.o (.o (.o (.i (.o (.o (.i .h))))))))))), y327)]
theorem hs342 : stat hb342 ha342 hv342 ho342 = true := by kernel_rfl
theorem hr342 : runOk (un 2 F20 ha342 (mkS hb342) fun v S => some (v, S)) hv342 ho342 = true := by kernel_rfl
theorem hm342 : FOK Tryz.prog 20 (memoF hb342 ha342 hv342 ho342) := memo_ok K20 hs342 hr342
end
end Go.AM
