/- Products of the reference, by their runs. -/
import Derived.Test.YtpendgpnikmohaaGreatRH
import Derived.Test.YtpendgpnikmohaaGreatXM6
import Derived.Test.YtpendgpnikmohaaGreatMHD
set_option maxRecDepth 1000000
set_option linter.unusedVariables false
namespace Go.AM
open Go.Proofs
noncomputable section
def hb343 : List (List V) := [y226, y229]
def ha343 : List V := [(.so .h 0 17 17 3), (.so (.o .h) 0 8 8 3)]
def hv343 : V := (.so (.o (.i (.o (.o (.o (.o (.i (.i (.o (.o (.i .h))))))))))) 0 24 24 3)
def ho343 : List (Pos × List V) := [((.o (.i (.o (.o (.o (.o (.i (.i (.o (.o (.i .h))))))))))), y328)]
theorem hs343 : stat hb343 ha343 hv343 ho343 = true := by kernel_rfl
theorem hr343 : runOk (un 2 F20 ha343 (mkS hb343) fun v S => some (v, S)) hv343 ho343 = true := by kernel_rfl
theorem hm343 : FOK Tryz.prog 20 (memoF hb343 ha343 hv343 ho343) := memo_ok K20 hs343 hr343
def hb344 : List (List V) := [y237, y219]
def ha344 : List V := [(.so .h 0 19 19 3), (.so (.o .h) 0 7 7 3)]
def hv344 : V := (.so (.i (.o (.i (.i (.i (.o (.o (.i (.o (.o (.i .h))))))))))) 0 25 25 3)
def ho344 : List (Pos × List V) := [((.i (.o (.i (.i (.i (.o (.o (.i (.o (.o (.i .h))))))))))), y329)]
theorem hs344 : stat hb344 ha344 hv344 ho344 = true := by kernel_rfl
theorem hr344 : runOk (un 2 F20 ha344 (mkS hb344) fun v S => some (v, S)) hv344 ho344 = true := by kernel_rfl
theorem hm344 : FOK Tryz.prog 20 (memoF hb344 ha344 hv344 ho344) := memo_ok K20 hs344 hr344
def hb345 : List (List V) := [y248, y211]
def ha345 : List V := [(.so .h 0 21 21 3), (.so (.o .h) 0 6 6 3)]
def hv345 : V := (.so (.o (.i (.i (.o (.i (.o (.o (.o (.o (.o (.i .h))))))))))) 0 26 26 3)
def ho345 : List (Pos × List V) := [((.o (.i (.i (.o (.i (.o (.o (.o (.o (.o (.i .h))))))))))), y330)]
theorem hs345 : stat hb345 ha345 hv345 ho345 = true := by kernel_rfl
theorem hr345 : runOk (un 2 F20 ha345 (mkS hb345) fun v S => some (v, S)) hv345 ho345 = true := by kernel_rfl
theorem hm345 : FOK Tryz.prog 20 (memoF hb345 ha345 hv345 ho345) := memo_ok K20 hs345 hr345
def hb346 : List (List V) := [y260, y204]
def ha346 : List V := [(.so .h 0 23 23 3), (.so (.o .h) 0 5 5 3)]
def hv346 : V := (.so (.i (.i (.o (.o (.o (.i (.i (.o (.i (.i (.o .h))))))))))) 0 27 27 3)
def ho346 : List (Pos × List V) := [((.i (.i (.o (.o (.o (.i (.i (.o (.i (.i (.o .h))))))))))), y331)]
theorem hs346 : stat hb346 ha346 hv346 ho346 = true := by kernel_rfl
theorem hr346 : runOk (un 2 F20 ha346 (mkS hb346) fun v S => some (v, S)) hv346 ho346 = true := by kernel_rfl
theorem hm346 : FOK Tryz.prog 20 (memoF hb346 ha346 hv346 ho346) := memo_ok K20 hs346 hr346
def hb347 : List (List V) := [y273, y198]
def ha347 : List V := [(.so .h 0 25 25 3), (.so (.o .h) 0 4 4 3)]
def hv347 : V := (.so (.o (.o (.o (.o (.o (.i (.o (.o (.o (.i (.o .h))))))))))) 0 28 28 3)
def ho347 : List (Pos × List V) := [((.o (.o (.o (.o (.o (.i (.o (.o (.o (.i (.o .h))))))))))), y332)]
theorem hs347 : stat hb347 ha347 hv347 ho347 = true := by kernel_rfl
theorem hr347 : runOk (un 2 F20 ha347 (mkS hb347) fun v S => some (v, S)) hv347 ho347 = true := by kernel_rfl
theorem hm347 : FOK Tryz.prog 20 (memoF hb347 ha347 hv347 ho347) := memo_ok K20 hs347 hr347
def hb348 : List (List V) := [y287, y2]
def ha348 : List V := [(.so .h 0 27 27 3), (.so (.o .h) 0 3 3 3)]
def hv348 : V := (.so (.i (.o (.i (.i (.o (.o (.o (.i (.o (.o (.o .h))))))))))) 0 29 29 3)
def ho348 : List (Pos × List V) := [((.i (.o (.i (.i (.o (.o (.o (.i (.o (.o (.o .h))))))))))), y333)]
theorem hs348 : stat hb348 ha348 hv348 ho348 = true := by kernel_rfl
theorem hr348 : runOk (un 2 F20 ha348 (mkS hb348) fun v S => some (v, S)) hv348 ho348 = true := by kernel_rfl
theorem hm348 : FOK Tryz.prog 20 (memoF hb348 ha348 hv348 ho348) := memo_ok K20 hs348 hr348
def hb349 : List (List V) := [y302, y0]
def ha349 : List V := [(.so .h 0 29 29 3), (.so (.o .h) 0 2 2 3)]
def hv349 : V := (.so (.o (.o (.o (.o (.o (.o (.o (.i (.o (.i .h)))))))))) 0 30 30 3)
def ho349 : List (Pos × List V) := [((.o (.o (.o (.o (.o (.o (.o (.i (.o (.i .h)))))))))), y334)]
theorem hs349 : stat hb349 ha349 hv349 ho349 = true := by kernel_rfl
theorem hr349 : runOk (un 2 F20 ha349 (mkS hb349) fun v S => some (v, S)) hv349 ho349 = true := by kernel_rfl
theorem hm349 : FOK Tryz.prog 20 (memoF hb349 ha349 hv349 ho349) := memo_ok K20 hs349 hr349
def hb350 : List (List V) := [y318, [(.b false), (.s [1]), (.s [1])]]
def ha350 : List V := [(.so .h 0 31 31 3), (.so (.o .h) 0 1 1 3)]
def hv350 : V := (.so (.i (.i (.o (.o (.i (.o (.o (.o (.o (.o .h)))))))))) 0 31 31 3)
def ho350 : List (Pos × List V) := [((.i (.i (.o (.o (.i (.o (.o (.o (.o (.o .h)))))))))), y318)]
theorem hs350 : stat hb350 ha350 hv350 ho350 = true := by kernel_rfl
theorem hr350 : runOk (un 2 F20 ha350 (mkS hb350) fun v S => some (v, S)) hv350 ho350 = true := by kernel_rfl
theorem hm350 : FOK Tryz.prog 20 (memoF hb350 ha350 hv350 ho350) := memo_ok K20 hs350 hr350
def hb351 : List (List V) := [y318, y193]
def ha351 : List V := [(.so .h 0 31 31 3), (.so (.o .h) 0 3 3 3)]
def hv351 : V := (.so (.i (.o (.i (.i (.o (.i (.i (.o (.o (.i (.o .h))))))))))) 0 33 33 3)
def ho351 : List (Pos × List V) := [((.i (.o (.i (.i (.o (.i (.i (.o (.o (.i (.o .h))))))))))), y335)]
theorem hs351 : stat hb351 ha351 hv351 ho351 = true := by kernel_rfl
theorem hr351 : runOk (un 2 F20 ha351 (mkS hb351) fun v S => some (v, S)) hv351 ho351 = true := by kernel_rfl
theorem hm351 : FOK Tryz.prog 20 (memoF hb351 ha351 hv351 ho351) := memo_ok K20 hs351 hr351
def hb352 : List (List V) := [y0, y43]
def ha352 : List V := [(.so .h 0 2 2 3), (.so (.o .h) 0 16 16 3)]
def hv352 : V := (.so (.o (.o (.o (.o (.o (.i (.o (.i (.i .h))))))))) 0 17 17 3)
def ho352 : List (Pos × List V) := [((.o (.o (.o (.o (.o (.i (.o (.i (.i .h))))))))), y336)]
theorem hs352 : stat hb352 ha352 hv352 ho352 = true := by kernel_rfl
theorem hr352 : runOk (un 2 F20 ha352 (mkS hb352) fun v S => some (v, S)) hv352 ho352 = true := by kernel_rfl
theorem hm352 : FOK Tryz.prog 20 (memoF hb352 ha352 hv352 ho352) := memo_ok K20 hs352 hr352
def hb353 : List (List V) := [y336, y40]
def ha353 : List V := [(.so .h 0 17 17 3), (.so (.o .h) 0 15 15 3)]
def hv353 : V := (.so (.o (.i (.o (.i (.i (.o (.o (.i (.o .h))))))))) 0 17 17 3)
def ho353 : List (Pos × List V) := [((.o (.i (.o (.i (.i (.o (.o (.i (.o .h))))))))), y46)]
theorem hs353 : stat hb353 ha353 hv353 ho353 = true := by kernel_rfl
theorem hr353 : runOk (un 2 F39 ha353 (mkS hb353) fun v S => some (v, S)) hv353 ho353 = true := by kernel_rfl
theorem hm353 : FOK Tryz.prog 39 (memoF hb353 ha353 hv353 ho353) := memo_ok K39 hs353 hr353
def hb354 : List (List V) := [[(.b false), (.s [1]), (.s [1])], y337]
def ha354 : List V := [(.so .h 0 1 1 3), (.so (.o .h) 0 17 17 3)]
def hv354 : V := (.so (.i (.i (.o (.i (.i (.o (.i (.i .h)))))))) 0 17 17 3)
def ho354 : List (Pos × List V) := [((.i (.i (.o (.i (.i (.o (.i (.i .h)))))))), y337)]
theorem hs354 : stat hb354 ha354 hv354 ho354 = true := by kernel_rfl
theorem hr354 : runOk (un 2 F20 ha354 (mkS hb354) fun v S => some (v, S)) hv354 ho354 = true := by kernel_rfl
theorem hm354 : FOK Tryz.prog 20 (memoF hb354 ha354 hv354 ho354) := memo_ok K20 hs354 hr354
def hb355 : List (List V) := [y193, y320]
def ha355 : List V := [(.so .h 0 3 3 3), (.so (.o .h) 0 16 16 3)]
def hv355 : V := (.so (.o (.o (.i (.o (.o (.i (.i (.o (.o (.o .h)))))))))) 0 18 18 3)
def ho355 : List (Pos × List V) := [((.o (.o (.i (.o (.o (.i (.i (.o (.o (.o .h)))))))))), y338)]
theorem hs355 : stat hb355 ha355 hv355 ho355 = true := by kernel_rfl
theorem hr355 : runOk (un 2 F20 ha355 (mkS hb355) fun v S => some (v, S)) hv355 ho355 = true := by kernel_rfl
theorem hm355 : FOK Tryz.prog 20 (memoF hb355 ha355 hv355 ho355) := memo_ok K20 hs355 hr355
def hb356 : List (List V) := [y194, y304]
def ha356 : List V := [(.so .h 0 5 5 3), (.so (.o .h) 0 15 15 3)]
def hv356 : V := (.so (.i (.o (.o (.i (.o (.i (.o (.i (.o (.i .h)))))))))) 0 19 19 3)
def ho356 : List (Pos × List V) := [((.i (.o (.o (.i (.o (.i (.o (.i (.o (.i .h)))))))))), y339)]
theorem hs356 : stat hb356 ha356 hv356 ho356 = true := by kernel_rfl
theorem hr356 : runOk (un 2 F20 ha356 (mkS hb356) fun v S => some (v, S)) hv356 ho356 = true := by kernel_rfl
theorem hm356 : FOK Tryz.prog 20 (memoF hb356 ha356 hv356 ho356) := memo_ok K20 hs356 hr356
def hb357 : List (List V) := [y195, y289]
def ha357 : List V := [(.so .h 0 7 7 3), (.so (.o .h) 0 14 14 3)]
def hv357 : V := (.so (.o (.i (.o (.i (.o (.i (.o (.i (.o (.o (.o .h))))))))))) 0 20 20 3)
def ho357 : List (Pos × List V) := [((.o (.i (.o (.i (.o (.i (.o (.i (.o (.o (.o .h))))))))))), y340)]
theorem hs357 : stat hb357 ha357 hv357 ho357 = true := by kernel_rfl
theorem hr357 : runOk (un 2 F20 ha357 (mkS hb357) fun v S => some (v, S)) hv357 ho357 = true := by kernel_rfl
theorem hm357 : FOK Tryz.prog 20 (memoF hb357 ha357 hv357 ho357) := memo_ok K20 hs357 hr357
def hb358 : List (List V) := [y197, y275]
def ha358 : List V := [(.so .h 0 9 9 3), (.so (.o .h) 0 13 13 3)]
def hv358 : V := (.so (.i (.i (.i (.o (.o (.i (.i (.o (.o (.i (.o .h))))))))))) 0 21 21 3)
def ho358 : List (Pos × List V) := [((.i (.i (.i (.o (.o (.i (.i (.o (.o (.i (.o .h))))))))))), y341)]
theorem hs358 : stat hb358 ha358 hv358 ho358 = true := by kernel_rfl
theorem hr358 : runOk (un 2 F20 ha358 (mkS hb358) fun v S => some (v, S)) hv358 ho358 = true := by kernel_rfl
theorem hm358 : FOK Tryz.prog 20 (memoF hb358 ha358 hv358 ho358) := memo_ok K20 hs358 hr358
def hb359 : List (List V) := [y202, y262]
def ha359 : List V := [(.so .h 0 11 11 3), (.so (.o .h) 0 12 12 3)]
def hv359 : V := (.so (.o (.o (.o (.o (.o (.i (.i (.i (.i (.i (.o .h))))))))))) 0 22 22 3)
def ho359 : List (Pos × List V) := [((.o (.o (.o (.o (.o (.i (.i (.i (.i (.i (.o .h))))))))))), y342)]
theorem hs359 : stat hb359 ha359 hv359 ho359 = true := by kernel_rfl
theorem hr359 : runOk (un 2 F20 ha359 (mkS hb359) fun v S => some (v, S)) hv359 ho359 = true := by kernel_rfl
theorem hm359 : FOK Tryz.prog 20 (memoF hb359 ha359 hv359 ho359) := memo_ok K20 hs359 hr359
def hb360 : List (List V) := [y209, y250]
def ha360 : List V := [(.so .h 0 13 13 3), (.so (.o .h) 0 11 11 3)]
def hv360 : V := (.so (.i (.o (.o (.i (.o (.o (.o (.o (.i (.o (.i .h))))))))))) 0 23 23 3)
def ho360 : List (Pos × List V) := [((.i (.o (.o (.i (.o (.o (.o (.o (.i (.o (.i .h))))))))))), y343)]
theorem hs360 : stat hb360 ha360 hv360 ho360 = true := by kernel_rfl
theorem hr360 : runOk (un 2 F20 ha360 (mkS hb360) fun v S => some (v, S)) hv360 ho360 = true := by kernel_rfl
theorem hm360 : FOK Tryz.prog 20 (memoF hb360 ha360 hv360 ho360) := memo_ok K20 hs360 hr360
def hb361 : List (List V) := [y217, y239]
def ha361 : List V := [(.so .h 0 15 15 3), (.so (.o .h) 0 10 10 3)]
def hv361 : V := (.so (.o (.o (.o (.o (.i (.o (.i (.i (.i (.o (.i .h))))))))))) 0 24 24 3)
def ho361 : List (Pos × List V) := [((.o (.o (.o (.o (.i (.o (.i (.i (.i (.o (.i .h))))))))))), y344)]
theorem hs361 : stat hb361 ha361 hv361 ho361 = true := by kernel_rfl
theorem hr361 : runOk (un 2 F20 ha361 (mkS hb361) fun v S => some (v, S)) hv361 ho361 = true := by kernel_rfl
theorem hm361 : FOK Tryz.prog 20 (memoF hb361 ha361 hv361 ho361) := memo_ok K20 hs361 hr361
def hb362 : List (List V) := [y226, y228]
def ha362 : List V := [(.so .h 0 17 17 3), (.so (.o .h) 0 9 9 3)]
def hv362 : V := (.so (.i (.i (.o (.i (.i (.i (.o (.o (.o (.i (.i .h))))))))))) 0 25 25 3)
def ho362 : List (Pos × List V) := [((.i (.i (.o (.i (.i (.i (.o (.o (.o (.i (.i .h))))))))))), y345)]
theorem hs362 : stat hb362 ha362 hv362 ho362 = true := by kernel_rfl
theorem hr362 : runOk (un 2 F20 ha362 (mkS hb362) fun v S => some (v, S)) hv362 ho362 = true := by kernel_rfl
theorem hm362 : FOK Tryz.prog 20 (memoF hb362 ha362 hv362 ho362) := memo_ok K20 hs362 hr362
def hb363 : List (List V) := [y237, y229]
def ha363 : List V := [(.so .h 0 19 19 3), (.so (.o .h) 0 8 8 3)]
def hv363 : V := (.so (.o (.o (.i (.o (.o (.o (.i (.o (.o (.i (.i .h))))))))))) 0 26 26 3)
def ho363 : List (Pos × List V) := [((.o (.o (.i (.o (.o (.o (.i (.o (.o (.i (.i .h))))))))))), y346)]
theorem hs363 : stat hb363 ha363 hv363 ho363 = true := by kernel_rfl
theorem hr363 : runOk (un 2 F20 ha363 (mkS hb363) fun v S => some (v, S)) hv363 ho363 = true := by kernel_rfl
theorem hm363 : FOK Tryz.prog 20 (memoF hb363 ha363 hv363 ho363) := memo_ok K20 hs363 hr363
def hb364 : List (List V) := [y248, y219]
def ha364 : List V := [(.so .h 0 21 21 3), (.so (.o .h) 0 7 7 3)]
def hv364 : V := (.so (.i (.o (.o (.o (.i (.i (.i (.i (.i (.o (.i .h))))))))))) 0 27 27 3)
def ho364 : List (Pos × List V) := [((.i (.o (.o (.o (.i (.i (.i (.i (.i (.o (.i .h))))))))))), y347)]
theorem hs364 : stat hb364 ha364 hv364 ho364 = true := by kernel_rfl
theorem hr364 : runOk (un 2 F20 ha364 (mkS hb364) fun v S => some (v, S)) hv364 ho364 = true := by kernel_rfl
theorem hm364 : FOK Tryz.prog 20 (memoF hb364 ha364 hv364 ho364) := memo_ok K20 hs364 hr364
def hb365 : List (List V) := [y260, y211]
def ha365 : List V := [(.so .h 0 23 23 3), (.so (.o .h) 0 6 6 3)]
def hv365 : V := (.so (.o (.o (.i (.o (.i (.i (.i (.o (.i (.o (.i .h))))))))))) 0 28 28 3)
def ho365 : List (Pos × List V) := [((.o (.o (.i (.o (.i (.i (.i (.o (.i (.o (.i .h))))))))))), y348)]
theorem hs365 : stat hb365 ha365 hv365 ho365 = true := by kernel_rfl
theorem hr365 : runOk (un 2 F20 ha365 (mkS hb365) fun v S => some (v, S)) hv365 ho365 = true := by kernel_rfl
theorem hm365 : FOK Tryz.prog 20 (memoF hb365 ha365 hv365 ho365) := memo_ok K20 hs365 hr365
def hb366 : List (List V) := [y273, y204]
def ha366 : List V := [(.so .h 0 25 25 3), (.so (.o .h) 0 5 5 3)]
def hv366 : V := (.so (.i (.i (.i (.o (.o (.i (.i (.o (.o (.o (.i .h))))))))))) 0 29 29 3)
def ho366 : List (Pos × List V) := [((.i (.i (.i (.o (.o (.i (.i (.o (.o (.o (.i .h))))))))))), y349)]
theorem hs366 : stat hb366 ha366 hv366 ho366 = true := by kernel_rfl
theorem hr366 : runOk (un 2 F20 ha366 (mkS hb366) fun v S => some (v, S)) hv366 ho366 = true := by kernel_rfl
theorem hm366 : FOK Tryz.prog 20 (memoF hb366 ha366 hv366 ho366) := memo_ok K20 hs366 hr366
def hb367 : List (List V) := [y287, y198]
def ha367 : List V := [(.so .h 0 27 27 3), (.so (.o .h) 0 4 4 3)]
def hv367 : V := (.so (.o (.o (.o (.i (.o (.o (.o (.o (.i (.i (.o .h))))))))))) 0 30 30 3)
def ho367 : List (Pos × List V) := [((.o (.o (.o (.i (.o (.o (.o (.o (.i (.i (.o .h))))))))))), y350)]
theorem hs367 : stat hb367 ha367 hv367 ho367 = true := by kernel_rfl
theorem hr367 : runOk (un 2 F20 ha367 (mkS hb367) fun v S => some (v, S)) hv367 ho367 = true := by kernel_rfl
theorem hm367 : FOK Tryz.prog 20 (memoF hb367 ha367 hv367 ho367) := memo_ok K20 hs367 hr367
def hb368 : List (List V) := [y302, y2]
def ha368 : List V := [(.so .h 0 29 29 3), (.so (.o .h) 0 3 3 3)]
def hv368 : V := (.so (.i (.o (.o (.o (.i (.i (.o (.o (.i (.o (.o .h))))))))))) 0 31 31 3)
def ho368 : List (Pos × List V) := [((.i (.o (.o (.o (.i (.i (.o (.o (.i (.o (.o .h))))))))))), y351)]
theorem hs368 : stat hb368 ha368 hv368 ho368 = true := by kernel_rfl
theorem hr368 : runOk (un 2 F20 ha368 (mkS hb368) fun v S => some (v, S)) hv368 ho368 = true := by kernel_rfl
theorem hm368 : FOK Tryz.prog 20 (memoF hb368 ha368 hv368 ho368) := memo_ok K20 hs368 hr368
def hb369 : List (List V) := [y318, y0]
def ha369 : List V := [(.so .h 0 31 31 3), (.so (.o .h) 0 2 2 3)]
def hv369 : V := (.so (.o (.o (.i (.o (.i (.i (.i (.i (.o (.i .h)))))))))) 0 32 32 3)
def ho369 : List (Pos × List V) := [((.o (.o (.i (.o (.i (.i (.i (.i (.o (.i .h)))))))))), y352)]
theorem hs369 : stat hb369 ha369 hv369 ho369 = true := by kernel_rfl
theorem hr369 : runOk (un 2 F20 ha369 (mkS hb369) fun v S => some (v, S)) hv369 ho369 = true := by kernel_rfl
theorem hm369 : FOK Tryz.prog 20 (memoF hb369 ha369 hv369 ho369) := memo_ok K20 hs369 hr369
def hb370 : List (List V) := [y335, [(.b false), (.s [1]), (.s [1])]]
def ha370 : List V := [(.so .h 0 33 33 3), (.so (.o .h) 0 1 1 3)]
def hv370 : V := (.so (.i (.i (.i (.o (.i (.o (.i (.o (.o (.o .h)))))))))) 0 33 33 3)
def ho370 : List (Pos × List V) := [((.i (.i (.i (.o (.i (.o (.i (.o (.o (.o .h)))))))))), y335)]
theorem hs370 : stat hb370 ha370 hv370 ho370 = true := by kernel_rfl
theorem hr370 : runOk (un 2 F20 ha370 (mkS hb370) fun v S => some (v, S)) hv370 ho370 = true := by kernel_rfl
theorem hm370 : FOK Tryz.prog 20 (memoF hb370 ha370 hv370 ho370) := memo_ok K20 hs370 hr370
def hb371 : List (List V) := [y335, y193]
def ha371 : List V := [(.so .h 0 33 33 3), (.so (.o .h) 0 3 3 3)]
def hv371 : V := (.so (.i (.i (.o (.i (.i (.o (.o (.o (.i (.i (.o .h))))))))))) 0 35 35 3)
def ho371 : List (Pos × List V) := [((.i (.i (.o (.i (.i (.o (.o (.o (.i (.i (.o .h))))))))))), y353)]
theorem hs371 : stat hb371 ha371 hv371 ho371 = true := by kernel_rfl
theorem hr371 : runOk (un 2 F20 ha371 (mkS hb371) fun v S => some (v, S)) hv371 ho371 = true := by kernel_rfl
theorem hm371 : FOK Tryz.prog 20 (memoF hb371 ha371 hv371 ho371) := memo_ok K20 hs371 hr371
def hb372 : List (List V) := [y0, y46]
def ha372 : List V := [(.so .h 0 2 2 3), (.so (.o .h) 0 17 17 3)]
def hv372 : V := (.so (.o (.i (.i (.o (.o (.i (.i (.i (.i .h))))))))) 0 18 18 3)
def ho372 : List (Pos × List V) := [((.o (.i (.i (.o (.o (.i (.i (.i (.i .h))))))))), y354)]
theorem hs372 : stat hb372 ha372 hv372 ho372 = true := by kernel_rfl
theorem hr372 : runOk (un 2 F20 ha372 (mkS hb372) fun v S => some (v, S)) hv372 ho372 = true := by kernel_rfl
theorem hm372 : FOK Tryz.prog 20 (memoF hb372 ha372 hv372 ho372) := memo_ok K20 hs372 hr372
def hb373 : List (List V) := [y354, y43]
def ha373 : List V := [(.so .h 0 18 18 3), (.so (.o .h) 0 16 16 3)]
def hv373 : V := (.so (.o (.i (.o (.i (.o (.o (.i (.i (.o .h))))))))) 0 18 18 3)
def ho373 : List (Pos × List V) := [((.o (.i (.o (.i (.o (.o (.i (.i (.o .h))))))))), y49)]
theorem hs373 : stat hb373 ha373 hv373 ho373 = true := by kernel_rfl
theorem hr373 : runOk (un 2 F39 ha373 (mkS hb373) fun v S => some (v, S)) hv373 ho373 = true := by kernel_rfl
theorem hm373 : FOK Tryz.prog 39 (memoF hb373 ha373 hv373 ho373) := memo_ok K39 hs373 hr373
def hb374 : List (List V) := [[(.b false), (.s [1]), (.s [1])], y355]
def ha374 : List V := [(.so .h 0 1 1 3), (.so (.o .h) 0 18 18 3)]
def hv374 : V := (.so (.o (.i (.i (.o (.i (.i (.i (.i .h)))))))) 0 18 18 3)
def ho374 : List (Pos × List V) := [((.o (.i (.i (.o (.i (.i (.i (.i .h)))))))), y355)]
theorem hs374 : stat hb374 ha374 hv374 ho374 = true := by kernel_rfl
theorem hr374 : runOk (un 2 F20 ha374 (mkS hb374) fun v S => some (v, S)) hv374 ho374 = true := by kernel_rfl
theorem hm374 : FOK Tryz.prog 20 (memoF hb374 ha374 hv374 ho374) := memo_ok K20 hs374 hr374
def hb375 : List (List V) := [y193, y337]
def ha375 : List V := [(.so .h 0 3 3 3), (.so (.o .h) 0 17 17 3)]
def hv375 : V := (.so (.i (.i (.i (.o (.o (.i (.o (.i (.o (.o .h)))))))))) 0 19 19 3)
def ho375 : List (Pos × List V) := [((.i (.i (.i (.o (.o (.i (.o (.i (.o (.o .h)))))))))), y356)]
theorem hs375 : stat hb375 ha375 hv375 ho375 = true := by kernel_rfl
theorem hr375 : runOk (un 2 F20 ha375 (mkS hb375) fun v S => some (v, S)) hv375 ho375 = true := by kernel_rfl
theorem hm375 : FOK Tryz.prog 20 (memoF hb375 ha375 hv375 ho375) := memo_ok K20 hs375 hr375
def hb376 : List (List V) := [y194, y320]
def ha376 : List V := [(.so .h 0 5 5 3), (.so (.o .h) 0 16 16 3)]
def hv376 : V := (.so (.o (.o (.i (.o (.i (.o (.o (.o (.i (.i .h)))))))))) 0 20 20 3)
def ho376 : List (Pos × List V) := [((.o (.o (.i (.o (.i (.o (.o (.o (.i (.i .h)))))))))), y357)]
theorem hs376 : stat hb376 ha376 hv376 ho376 = true := by kernel_rfl
theorem hr376 : runOk (un 2 F20 ha376 (mkS hb376) fun v S => some (v, S)) hv376 ho376 = true := by kernel_rfl
theorem hm376 : FOK Tryz.prog 20 (memoF hb376 ha376 hv376 ho376) := memo_ok K20 hs376 hr376
def hb377 : List (List V) := [y195, y304]
def ha377 : List V := [(.so .h 0 7 7 3), (.so (.o .h) 0 15 15 3)]
def hv377 : V := (.so (.i (.o (.i (.i (.i (.i (.o (.o (.i (.o (.o .h))))))))))) 0 21 21 3)
def ho377 : List (Pos × List V) := [((.i (.o (.i (.i (.i (.i (.o (.o (.i (.o (.o .h))))))))))), y358)]
theorem hs377 : stat hb377 ha377 hv377 ho377 = true := by kernel_rfl
theorem hr377 : runOk (un 2 F20 ha377 (mkS hb377) fun v S => some (v, S)) hv377 ho377 = true := by kernel_rfl
theorem hm377 : FOK Tryz.prog 20 (memoF hb377 ha377 hv377 ho377) := memo_ok K20 hs377 hr377
def hb378 : List (List V) := [y197, y289]
def ha378 : List V := [(.so .h 0 9 9 3), (.so (.o .h) 0 14 14 3)]
def hv378 : V := (.so (.o (.i (.o (.o (.o (.i (.o (.o (.i (.i (.o .h))))))))))) 0 22 22 3)
def ho378 : List (Pos × List V) := [((.o (.i (.o (.o (.o (.i (.o (.o (.i (.i (.o .h))))))))))), y359)]
theorem hs378 : stat hb378 ha378 hv378 ho378 = true := by kernel_rfl
theorem hr378 : runOk (un 2 F20 ha378 (mkS hb378) fun v S => some (v, S)) hv378 ho378 = true := by kernel_rfl
theorem hm378 : FOK Tryz.prog 20 (memoF hb378 ha378 hv378 ho378) := memo_ok K20 hs378 hr378
def hb379 : List (List V) := [y202, y275]
def ha379 : List V := [(.so .h 0 11 11 3), (.so (.o .h) 0 13 13 3)]
def hv379 : V := (.so (.i (.i (.o (.o (.o (.o (.i (.i (.o (.o (.i .h))))))))))) 0 23 23 3)
def ho379 : List (Pos × List V) := [((.i (.i (.o (.o (.o (.o (.i (.i (.o (.o (.i .h))))))))))), y360)]
theorem hs379 : stat hb379 ha379 hv379 ho379 = true := by kernel_rfl
theorem hr379 : runOk (un 2 F20 ha379 (mkS hb379) fun v S => some (v, S)) hv379 ho379 = true := by kernel_rfl
theorem hm379 : FOK Tryz.prog 20 (memoF hb379 ha379 hv379 ho379) := memo_ok K20 hs379 hr379
def hb380 : List (List V) := [y209, y262]
def ha380 : List V := [(.so .h 0 13 13 3), (.so (.o .h) 0 12 12 3)]
def hv380 : V := (.so (.o (.i (.o (.i (.i (.o (.o (.o (.o (.i (.i .h))))))))))) 0 24 24 3)
def ho380 : List (Pos × List V) := [((.o (.i (.o (.i (.i (.o (.o (.o (.o (.i (.i .h))))))))))), y361)]
theorem hs380 : stat hb380 ha380 hv380 ho380 = true := by kernel_rfl
theorem hr380 : runOk (un 2 F20 ha380 (mkS hb380) fun v S => some (v, S)) hv380 ho380 = true := by kernel_rfl
theorem hm380 : FOK Tryz.prog 20 (memoF hb380 ha380 hv380 ho380) := memo_ok K20 hs380 hr380
def hb381 : List (List V) := [y217, y250]
def ha381 : List V := [(.so .h 0 15 15 3), (.so (.o .h) 0 11 11 3)]
def hv381 : V := (.so (.i (.o (.i (.o (.i (.o (.o (.o (.i (.i (.i .h))))))))))) 0 25 25 3)
def ho381 : List (Pos × List V) := [((.i (.o (.i (.o (.i (.o (.o (.o (.i (.i (.i .h))))))))))), y362)]
theorem hs381 : stat hb381 ha381 hv381 ho381 = true := by kernel_rfl
theorem hr381 : runOk (un 2 F20 ha381 (mkS hb381) fun v S => some (v, S)) hv381 ho381 = true := by kernel_rfl
theorem hm381 : FOK Tryz.prog 20 (memoF hb381 ha381 hv381 ho381) := memo_ok K20 hs381 hr381
end
end Go.AM
