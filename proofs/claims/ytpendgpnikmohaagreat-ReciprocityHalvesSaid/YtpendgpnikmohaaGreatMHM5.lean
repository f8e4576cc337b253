/- Products of the reference, by their runs. -/
import Derived.Test.YtpendgpnikmohaaGreatRH
import Derived.Test.YtpendgpnikmohaaGreatXM6
import Derived.Test.YtpendgpnikmohaaGreatMHD
set_option maxRecDepth 1000000
set_option linter.unusedVariables false
namespace Go.AM
open Go.Proofs
noncomputable section
def hb451 : List (List V) := [y0, y55]
def ha451 : List V := [(.so .h 0 2 2 3), (.so (.o .h) 0 20 20 3)]
def hv451 : V := (.so (.o (.o (.o (.i (.o (.i (.o (.i (.o (.o .h)))))))))) 0 21 21 3)
def ho451 : List (Pos × List V) := [((.o (.o (.o (.i (.o (.i (.o (.i (.o (.o .h)))))))))), y438)]
theorem hs451 : stat hb451 ha451 hv451 ho451 = true := by kernel_rfl
theorem hr451 : runOk (un 2 F20 ha451 (mkS hb451) fun v S => some (v, S)) hv451 ho451 = true := by kernel_rfl
theorem hm451 : FOK Tryz.prog 20 (memoF hb451 ha451 hv451 ho451) := memo_ok K20 hs451 hr451
def hb452 : List (List V) := [y438, y52]
def ha452 : List V := [(.so .h 0 21 21 3), (.so (.o .h) 0 19 19 3)]
def hv452 : V := (.so (.o (.i (.o (.i (.i (.o (.i (.o (.i .h))))))))) 0 21 21 3)
def ho452 : List (Pos × List V) := [((.o (.i (.o (.i (.i (.o (.i (.o (.i .h))))))))), y58)]
theorem hs452 : stat hb452 ha452 hv452 ho452 = true := by kernel_rfl
theorem hr452 : runOk (un 2 F39 ha452 (mkS hb452) fun v S => some (v, S)) hv452 ho452 = true := by kernel_rfl
theorem hm452 : FOK Tryz.prog 39 (memoF hb452 ha452 hv452 ho452) := memo_ok K39 hs452 hr452
def hb453 : List (List V) := [[(.b false), (.s [1]), (.s [1])], y439]
def ha453 : List V := [(.so .h 0 1 1 3), (.so (.o .h) 0 21 21 3)]
def hv453 : V := (.so (.i (.i (.i (.o (.o (.o (.i (.o (.o .h))))))))) 0 21 21 3)
def ho453 : List (Pos × List V) := [((.i (.i (.i (.o (.o (.o (.i (.o (.o .h))))))))), y439)]
theorem hs453 : stat hb453 ha453 hv453 ho453 = true := by kernel_rfl
theorem hr453 : runOk (un 2 F20 ha453 (mkS hb453) fun v S => some (v, S)) hv453 ho453 = true := by kernel_rfl
theorem hm453 : FOK Tryz.prog 20 (memoF hb453 ha453 hv453 ho453) := memo_ok K20 hs453 hr453
def hb454 : List (List V) := [y193, y405]
def ha454 : List V := [(.so .h 0 3 3 3), (.so (.o .h) 0 20 20 3)]
def hv454 : V := (.so (.o (.o (.o (.o (.i (.i (.i (.o (.i (.o .h)))))))))) 0 22 22 3)
def ho454 : List (Pos × List V) := [((.o (.o (.o (.o (.i (.i (.i (.o (.i (.o .h)))))))))), y440)]
theorem hs454 : stat hb454 ha454 hv454 ho454 = true := by kernel_rfl
theorem hr454 : runOk (un 2 F20 ha454 (mkS hb454) fun v S => some (v, S)) hv454 ho454 = true := by kernel_rfl
theorem hm454 : FOK Tryz.prog 20 (memoF hb454 ha454 hv454 ho454) := memo_ok K20 hs454 hr454
def hb455 : List (List V) := [y194, y374]
def ha455 : List V := [(.so .h 0 5 5 3), (.so (.o .h) 0 19 19 3)]
def hv455 : V := (.so (.i (.o (.i (.o (.i (.o (.i (.o (.o (.o (.o .h))))))))))) 0 23 23 3)
def ho455 : List (Pos × List V) := [((.i (.o (.i (.o (.i (.o (.i (.o (.o (.o (.o .h))))))))))), y441)]
theorem hs455 : stat hb455 ha455 hv455 ho455 = true := by kernel_rfl
theorem hr455 : runOk (un 2 F20 ha455 (mkS hb455) fun v S => some (v, S)) hv455 ho455 = true := by kernel_rfl
theorem hm455 : FOK Tryz.prog 20 (memoF hb455 ha455 hv455 ho455) := memo_ok K20 hs455 hr455
def hb456 : List (List V) := [y195, y355]
def ha456 : List V := [(.so .h 0 7 7 3), (.so (.o .h) 0 18 18 3)]
def hv456 : V := (.so (.o (.i (.i (.o (.i (.i (.i (.i (.o (.i (.o .h))))))))))) 0 24 24 3)
def ho456 : List (Pos × List V) := [((.o (.i (.i (.o (.i (.i (.i (.i (.o (.i (.o .h))))))))))), y442)]
theorem hs456 : stat hb456 ha456 hv456 ho456 = true := by kernel_rfl
theorem hr456 : runOk (un 2 F20 ha456 (mkS hb456) fun v S => some (v, S)) hv456 ho456 = true := by kernel_rfl
theorem hm456 : FOK Tryz.prog 20 (memoF hb456 ha456 hv456 ho456) := memo_ok K20 hs456 hr456
def hb457 : List (List V) := [y197, y337]
def ha457 : List V := [(.so .h 0 9 9 3), (.so (.o .h) 0 17 17 3)]
def hv457 : V := (.so (.i (.i (.o (.o (.i (.o (.i (.o (.i (.o (.i .h))))))))))) 0 25 25 3)
def ho457 : List (Pos × List V) := [((.i (.i (.o (.o (.i (.o (.i (.o (.i (.o (.i .h))))))))))), y443)]
theorem hs457 : stat hb457 ha457 hv457 ho457 = true := by kernel_rfl
theorem hr457 : runOk (un 2 F20 ha457 (mkS hb457) fun v S => some (v, S)) hv457 ho457 = true := by kernel_rfl
theorem hm457 : FOK Tryz.prog 20 (memoF hb457 ha457 hv457 ho457) := memo_ok K20 hs457 hr457
def hb458 : List (List V) := [y202, y320]
def ha458 : List V := [(.so .h 0 11 11 3), (.so (.o .h) 0 16 16 3)]
def hv458 : V := (.so (.o (.o (.i (.i (.o (.i (.i (.o (.i (.i (.i .h))))))))))) 0 26 26 3)
def ho458 : List (Pos × List V) := [((.o (.o (.i (.i (.o (.i (.i (.o (.i (.i (.i .h))))))))))), y444)]
theorem hs458 : stat hb458 ha458 hv458 ho458 = true := by kernel_rfl
theorem hr458 : runOk (un 2 F20 ha458 (mkS hb458) fun v S => some (v, S)) hv458 ho458 = true := by kernel_rfl
theorem hm458 : FOK Tryz.prog 20 (memoF hb458 ha458 hv458 ho458) := memo_ok K20 hs458 hr458
def hb459 : List (List V) := [y209, y304]
def ha459 : List V := [(.so .h 0 13 13 3), (.so (.o .h) 0 15 15 3)]
def hv459 : V := (.so (.i (.o (.o (.o (.o (.o (.i (.o (.i (.o (.o (.o .h)))))))))))) 0 27 27 3)
def ho459 : List (Pos × List V) := [((.i (.o (.o (.o (.o (.o (.i (.o (.i (.o (.o (.o .h)))))))))))), y445)]
theorem hs459 : stat hb459 ha459 hv459 ho459 = true := by kernel_rfl
theorem hr459 : runOk (un 2 F20 ha459 (mkS hb459) fun v S => some (v, S)) hv459 ho459 = true := by kernel_rfl
theorem hm459 : FOK Tryz.prog 20 (memoF hb459 ha459 hv459 ho459) := memo_ok K20 hs459 hr459
def hb460 : List (List V) := [y217, y289]
def ha460 : List V := [(.so .h 0 15 15 3), (.so (.o .h) 0 14 14 3)]
def hv460 : V := (.so (.o (.o (.i (.i (.o (.o (.i (.i (.o (.i (.o (.o .h)))))))))))) 0 28 28 3)
def ho460 : List (Pos × List V) := [((.o (.o (.i (.i (.o (.o (.i (.i (.o (.i (.o (.o .h)))))))))))), y446)]
theorem hs460 : stat hb460 ha460 hv460 ho460 = true := by kernel_rfl
theorem hr460 : runOk (un 2 F20 ha460 (mkS hb460) fun v S => some (v, S)) hv460 ho460 = true := by kernel_rfl
theorem hm460 : FOK Tryz.prog 20 (memoF hb460 ha460 hv460 ho460) := memo_ok K20 hs460 hr460
def hb461 : List (List V) := [y226, y275]
def ha461 : List V := [(.so .h 0 17 17 3), (.so (.o .h) 0 13 13 3)]
def hv461 : V := (.so (.i (.i (.o (.i (.i (.i (.i (.i (.i (.i (.o (.o .h)))))))))))) 0 29 29 3)
def ho461 : List (Pos × List V) := [((.i (.i (.o (.i (.i (.i (.i (.i (.i (.i (.o (.o .h)))))))))))), y447)]
theorem hs461 : stat hb461 ha461 hv461 ho461 = true := by kernel_rfl
theorem hr461 : runOk (un 2 F20 ha461 (mkS hb461) fun v S => some (v, S)) hv461 ho461 = true := by kernel_rfl
theorem hm461 : FOK Tryz.prog 20 (memoF hb461 ha461 hv461 ho461) := memo_ok K20 hs461 hr461
def hb462 : List (List V) := [y237, y262]
def ha462 : List V := [(.so .h 0 19 19 3), (.so (.o .h) 0 12 12 3)]
def hv462 : V := (.so (.o (.o (.o (.i (.o (.o (.i (.i (.o (.o (.i (.o .h)))))))))))) 0 30 30 3)
def ho462 : List (Pos × List V) := [((.o (.o (.o (.i (.o (.o (.i (.i (.o (.o (.i (.o .h)))))))))))), y448)]
theorem hs462 : stat hb462 ha462 hv462 ho462 = true := by kernel_rfl
theorem hr462 : runOk (un 2 F20 ha462 (mkS hb462) fun v S => some (v, S)) hv462 ho462 = true := by kernel_rfl
theorem hm462 : FOK Tryz.prog 20 (memoF hb462 ha462 hv462 ho462) := memo_ok K20 hs462 hr462
def hb463 : List (List V) := [y248, y250]
def ha463 : List V := [(.so .h 0 21 21 3), (.so (.o .h) 0 11 11 3)]
def hv463 : V := (.so (.i (.o (.o (.i (.i (.i (.o (.o (.i (.o (.i (.o .h)))))))))))) 0 31 31 3)
def ho463 : List (Pos × List V) := [((.i (.o (.o (.i (.i (.i (.o (.o (.i (.o (.i (.o .h)))))))))))), y449)]
theorem hs463 : stat hb463 ha463 hv463 ho463 = true := by kernel_rfl
theorem hr463 : runOk (un 2 F20 ha463 (mkS hb463) fun v S => some (v, S)) hv463 ho463 = true := by kernel_rfl
theorem hm463 : FOK Tryz.prog 20 (memoF hb463 ha463 hv463 ho463) := memo_ok K20 hs463 hr463
def hb464 : List (List V) := [y260, y239]
def ha464 : List V := [(.so .h 0 23 23 3), (.so (.o .h) 0 10 10 3)]
def hv464 : V := (.so (.o (.i (.i (.i (.i (.o (.o (.i (.i (.o (.i (.o .h)))))))))))) 0 32 32 3)
def ho464 : List (Pos × List V) := [((.o (.i (.i (.i (.i (.o (.o (.i (.i (.o (.i (.o .h)))))))))))), y450)]
theorem hs464 : stat hb464 ha464 hv464 ho464 = true := by kernel_rfl
theorem hr464 : runOk (un 2 F20 ha464 (mkS hb464) fun v S => some (v, S)) hv464 ho464 = true := by kernel_rfl
theorem hm464 : FOK Tryz.prog 20 (memoF hb464 ha464 hv464 ho464) := memo_ok K20 hs464 hr464
def hb465 : List (List V) := [y273, y228]
def ha465 : List V := [(.so .h 0 25 25 3), (.so (.o .h) 0 9 9 3)]
def hv465 : V := (.so (.i (.i (.i (.i (.i (.o (.i (.o (.i (.o (.i (.o .h)))))))))))) 0 33 33 3)
def ho465 : List (Pos × List V) := [((.i (.i (.i (.i (.i (.o (.i (.o (.i (.o (.i (.o .h)))))))))))), y451)]
theorem hs465 : stat hb465 ha465 hv465 ho465 = true := by kernel_rfl
theorem hr465 : runOk (un 2 F20 ha465 (mkS hb465) fun v S => some (v, S)) hv465 ho465 = true := by kernel_rfl
theorem hm465 : FOK Tryz.prog 20 (memoF hb465 ha465 hv465 ho465) := memo_ok K20 hs465 hr465
def hb466 : List (List V) := [y287, y229]
def ha466 : List V := [(.so .h 0 27 27 3), (.so (.o .h) 0 8 8 3)]
def hv466 : V := (.so (.o (.i (.o (.i (.i (.o (.i (.i (.o (.o (.i (.o .h)))))))))))) 0 34 34 3)
def ho466 : List (Pos × List V) := [((.o (.i (.o (.i (.i (.o (.i (.i (.o (.o (.i (.o .h)))))))))))), y452)]
theorem hs466 : stat hb466 ha466 hv466 ho466 = true := by kernel_rfl
theorem hr466 : runOk (un 2 F20 ha466 (mkS hb466) fun v S => some (v, S)) hv466 ho466 = true := by kernel_rfl
theorem hm466 : FOK Tryz.prog 20 (memoF hb466 ha466 hv466 ho466) := memo_ok K20 hs466 hr466
def hb467 : List (List V) := [y453, y454]
def ha467 : List V := [(.so .h 0 33 33 3), (.so (.o .h) 0 34 34 3)]
def hv467 : V := (.so (.i (.o (.o (.i (.i (.i (.o (.i (.o .h))))))))) 0 34 34 3)
def ho467 : List (Pos × List V) := [((.i (.o (.o (.i (.i (.i (.o (.i (.o .h))))))))), y455)]
theorem hs467 : stat hb467 ha467 hv467 ho467 = true := by kernel_rfl
theorem hr467 : runOk (un 2 F42 ha467 (mkS hb467) fun v S => some (v, S)) hv467 ho467 = true := by kernel_rfl
theorem hm467 : FOK Tryz.prog 42 (memoF hb467 ha467 hv467 ho467) := memo_ok K42 hs467 hr467
def hb468 : List (List V) := [y302, y219]
def ha468 : List V := [(.so .h 0 29 29 3), (.so (.o .h) 0 7 7 3)]
def hv468 : V := (.so (.i (.o (.o (.o (.i (.o (.i (.i (.i (.i (.o (.o .h)))))))))))) 0 35 35 3)
def ho468 : List (Pos × List V) := [((.i (.o (.o (.o (.i (.o (.i (.i (.i (.i (.o (.o .h)))))))))))), y456)]
theorem hs468 : stat hb468 ha468 hv468 ho468 = true := by kernel_rfl
theorem hr468 : runOk (un 2 F20 ha468 (mkS hb468) fun v S => some (v, S)) hv468 ho468 = true := by kernel_rfl
theorem hm468 : FOK Tryz.prog 20 (memoF hb468 ha468 hv468 ho468) := memo_ok K20 hs468 hr468
def hb469 : List (List V) := [y455, y457]
def ha469 : List V := [(.so .h 0 34 34 3), (.so (.o .h) 0 35 35 3)]
def hv469 : V := (.so (.o (.i (.o (.i (.i (.i (.o (.i (.o .h))))))))) 0 35 35 3)
def ho469 : List (Pos × List V) := [((.o (.i (.o (.i (.i (.i (.o (.i (.o .h))))))))), y458)]
theorem hs469 : stat hb469 ha469 hv469 ho469 = true := by kernel_rfl
theorem hr469 : runOk (un 2 F42 ha469 (mkS hb469) fun v S => some (v, S)) hv469 ho469 = true := by kernel_rfl
theorem hm469 : FOK Tryz.prog 42 (memoF hb469 ha469 hv469 ho469) := memo_ok K42 hs469 hr469
def hb470 : List (List V) := [y318, y211]
def ha470 : List V := [(.so .h 0 31 31 3), (.so (.o .h) 0 6 6 3)]
def hv470 : V := (.so (.o (.o (.o (.o (.o (.i (.i (.o (.o (.i (.o (.o .h)))))))))))) 0 36 36 3)
def ho470 : List (Pos × List V) := [((.o (.o (.o (.o (.o (.i (.i (.o (.o (.i (.o (.o .h)))))))))))), y459)]
theorem hs470 : stat hb470 ha470 hv470 ho470 = true := by kernel_rfl
theorem hr470 : runOk (un 2 F20 ha470 (mkS hb470) fun v S => some (v, S)) hv470 ho470 = true := by kernel_rfl
theorem hm470 : FOK Tryz.prog 20 (memoF hb470 ha470 hv470 ho470) := memo_ok K20 hs470 hr470
def hb471 : List (List V) := [y458, y460]
def ha471 : List V := [(.so .h 0 35 35 3), (.so (.o .h) 0 36 36 3)]
def hv471 : V := (.so (.i (.o (.i (.o (.i (.o (.i (.i (.o .h))))))))) 0 36 36 3)
def ho471 : List (Pos × List V) := [((.i (.o (.i (.o (.i (.o (.i (.i (.o .h))))))))), y461)]
theorem hs471 : stat hb471 ha471 hv471 ho471 = true := by kernel_rfl
theorem hr471 : runOk (un 2 F42 ha471 (mkS hb471) fun v S => some (v, S)) hv471 ho471 = true := by kernel_rfl
theorem hm471 : FOK Tryz.prog 42 (memoF hb471 ha471 hv471 ho471) := memo_ok K42 hs471 hr471
def hb472 : List (List V) := [y335, y204]
def ha472 : List V := [(.so .h 0 33 33 3), (.so (.o .h) 0 5 5 3)]
def hv472 : V := (.so (.i (.i (.i (.i (.o (.o (.o (.i (.o (.o (.o (.o .h)))))))))))) 0 37 37 3)
def ho472 : List (Pos × List V) := [((.i (.i (.i (.i (.o (.o (.o (.i (.o (.o (.o (.o .h)))))))))))), y462)]
theorem hs472 : stat hb472 ha472 hv472 ho472 = true := by kernel_rfl
theorem hr472 : runOk (un 2 F20 ha472 (mkS hb472) fun v S => some (v, S)) hv472 ho472 = true := by kernel_rfl
theorem hm472 : FOK Tryz.prog 20 (memoF hb472 ha472 hv472 ho472) := memo_ok K20 hs472 hr472
def hb473 : List (List V) := [y461, y463]
def ha473 : List V := [(.so .h 0 36 36 3), (.so (.o .h) 0 37 37 3)]
def hv473 : V := (.so (.o (.o (.i (.i (.o (.o (.o (.o (.i .h))))))))) 0 37 37 3)
def ho473 : List (Pos × List V) := [((.o (.o (.i (.i (.o (.o (.o (.o (.i .h))))))))), y464)]
theorem hs473 : stat hb473 ha473 hv473 ho473 = true := by kernel_rfl
theorem hr473 : runOk (un 2 F42 ha473 (mkS hb473) fun v S => some (v, S)) hv473 ho473 = true := by kernel_rfl
theorem hm473 : FOK Tryz.prog 42 (memoF hb473 ha473 hv473 ho473) := memo_ok K42 hs473 hr473
def hb474 : List (List V) := [y353, y198]
def ha474 : List V := [(.so .h 0 35 35 3), (.so (.o .h) 0 4 4 3)]
def hv474 : V := (.so (.o (.o (.o (.i (.i (.o (.i (.o (.o (.i (.i .h))))))))))) 0 38 38 3)
def ho474 : List (Pos × List V) := [((.o (.o (.o (.i (.i (.o (.i (.o (.o (.i (.i .h))))))))))), y465)]
theorem hs474 : stat hb474 ha474 hv474 ho474 = true := by kernel_rfl
theorem hr474 : runOk (un 2 F20 ha474 (mkS hb474) fun v S => some (v, S)) hv474 ho474 = true := by kernel_rfl
theorem hm474 : FOK Tryz.prog 20 (memoF hb474 ha474 hv474 ho474) := memo_ok K20 hs474 hr474
def hb475 : List (List V) := [y464, y466]
def ha475 : List V := [(.so .h 0 37 37 3), (.so (.o .h) 0 38 38 3)]
def hv475 : V := (.so (.i (.o (.o (.i (.i (.o (.o (.o (.i .h))))))))) 0 38 38 3)
def ho475 : List (Pos × List V) := [((.i (.o (.o (.i (.i (.o (.o (.o (.i .h))))))))), y467)]
theorem hs475 : stat hb475 ha475 hv475 ho475 = true := by kernel_rfl
theorem hr475 : runOk (un 2 F42 ha475 (mkS hb475) fun v S => some (v, S)) hv475 ho475 = true := by kernel_rfl
theorem hm475 : FOK Tryz.prog 42 (memoF hb475 ha475 hv475 ho475) := memo_ok K42 hs475 hr475
def hb476 : List (List V) := [y372, y2]
def ha476 : List V := [(.so .h 0 37 37 3), (.so (.o .h) 0 3 3 3)]
def hv476 : V := (.so (.i (.o (.o (.o (.o (.o (.i (.i (.i (.i (.o .h))))))))))) 0 39 39 3)
def ho476 : List (Pos × List V) := [((.i (.o (.o (.o (.o (.o (.i (.i (.i (.i (.o .h))))))))))), y468)]
theorem hs476 : stat hb476 ha476 hv476 ho476 = true := by kernel_rfl
theorem hr476 : runOk (un 2 F20 ha476 (mkS hb476) fun v S => some (v, S)) hv476 ho476 = true := by kernel_rfl
theorem hm476 : FOK Tryz.prog 20 (memoF hb476 ha476 hv476 ho476) := memo_ok K20 hs476 hr476
def hb477 : List (List V) := [y467, y469]
def ha477 : List V := [(.so .h 0 38 38 3), (.so (.o .h) 0 39 39 3)]
def hv477 : V := (.so (.o (.i (.o (.i (.o (.o (.o (.o (.i .h))))))))) 0 39 39 3)
def ho477 : List (Pos × List V) := [((.o (.i (.o (.i (.o (.o (.o (.o (.i .h))))))))), y470)]
theorem hs477 : stat hb477 ha477 hv477 ho477 = true := by kernel_rfl
theorem hr477 : runOk (un 2 F42 ha477 (mkS hb477) fun v S => some (v, S)) hv477 ho477 = true := by kernel_rfl
theorem hm477 : FOK Tryz.prog 42 (memoF hb477 ha477 hv477 ho477) := memo_ok K42 hs477 hr477
def hb478 : List (List V) := [y403, y0]
def ha478 : List V := [(.so .h 0 39 39 3), (.so (.o .h) 0 2 2 3)]
def hv478 : V := (.so (.o (.o (.i (.i (.i (.o (.i (.i (.o (.o (.o .h))))))))))) 0 40 40 3)
def ho478 : List (Pos × List V) := [((.o (.o (.i (.i (.i (.o (.i (.i (.o (.o (.o .h))))))))))), y471)]
theorem hs478 : stat hb478 ha478 hv478 ho478 = true := by kernel_rfl
theorem hr478 : runOk (un 2 F20 ha478 (mkS hb478) fun v S => some (v, S)) hv478 ho478 = true := by kernel_rfl
theorem hm478 : FOK Tryz.prog 20 (memoF hb478 ha478 hv478 ho478) := memo_ok K20 hs478 hr478
def hb479 : List (List V) := [y470, y471]
def ha479 : List V := [(.so .h 0 39 39 3), (.so (.o .h) 0 40 40 3)]
def hv479 : V := (.so (.i (.o (.o (.o (.o (.o (.o (.o (.i .h))))))))) 0 40 40 3)
def ho479 : List (Pos × List V) := [((.i (.o (.o (.o (.o (.o (.o (.o (.i .h))))))))), y472)]
theorem hs479 : stat hb479 ha479 hv479 ho479 = true := by kernel_rfl
theorem hr479 : runOk (un 2 F42 ha479 (mkS hb479) fun v S => some (v, S)) hv479 ho479 = true := by kernel_rfl
theorem hm479 : FOK Tryz.prog 42 (memoF hb479 ha479 hv479 ho479) := memo_ok K42 hs479 hr479
def hb480 : List (List V) := [y437, [(.b false), (.s [1]), (.s [1])]]
def ha480 : List V := [(.so .h 0 41 41 3), (.so (.o .h) 0 1 1 3)]
def hv480 : V := (.so (.i (.i (.o (.o (.o (.o (.o (.i (.i (.o .h)))))))))) 0 41 41 3)
def ho480 : List (Pos × List V) := [((.i (.i (.o (.o (.o (.o (.o (.i (.i (.o .h)))))))))), y437)]
theorem hs480 : stat hb480 ha480 hv480 ho480 = true := by kernel_rfl
theorem hr480 : runOk (un 2 F20 ha480 (mkS hb480) fun v S => some (v, S)) hv480 ho480 = true := by kernel_rfl
theorem hm480 : FOK Tryz.prog 20 (memoF hb480 ha480 hv480 ho480) := memo_ok K20 hs480 hr480
def hb481 : List (List V) := [y472, y437]
def ha481 : List V := [(.so .h 0 40 40 3), (.so (.o .h) 0 41 41 3)]
def hv481 : V := (.so (.o (.o (.i (.o (.i (.o (.o (.o (.i .h))))))))) 0 41 41 3)
def ho481 : List (Pos × List V) := [((.o (.o (.i (.o (.i (.o (.o (.o (.i .h))))))))), y473)]
theorem hs481 : stat hb481 ha481 hv481 ho481 = true := by kernel_rfl
theorem hr481 : runOk (un 2 F42 ha481 (mkS hb481) fun v S => some (v, S)) hv481 ho481 = true := by kernel_rfl
theorem hm481 : FOK Tryz.prog 42 (memoF hb481 ha481 hv481 ho481) := memo_ok K42 hs481 hr481
def hb482 : List (List V) := [y437, y193]
def ha482 : List V := [(.so .h 0 41 41 3), (.so (.o .h) 0 3 3 3)]
def hv482 : V := (.so (.i (.i (.o (.i (.i (.o (.o (.o (.o (.i (.i .h))))))))))) 0 43 43 3)
def ho482 : List (Pos × List V) := [((.i (.i (.o (.i (.i (.o (.o (.o (.o (.i (.i .h))))))))))), y474)]
theorem hs482 : stat hb482 ha482 hv482 ho482 = true := by kernel_rfl
theorem hr482 : runOk (un 2 F20 ha482 (mkS hb482) fun v S => some (v, S)) hv482 ho482 = true := by kernel_rfl
theorem hm482 : FOK Tryz.prog 20 (memoF hb482 ha482 hv482 ho482) := memo_ok K20 hs482 hr482
end
end Go.AM
