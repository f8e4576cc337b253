/- Products of the reference, by their runs. -/
import Derived.Test.YtpendgpnikmohaaGreatRH
import Derived.Test.YtpendgpnikmohaaGreatXM6
import Derived.Test.YtpendgpnikmohaaGreatMHD
set_option maxRecDepth 1000000
set_option linter.unusedVariables false
namespace Go.AM
open Go.Proofs
noncomputable section
def hb413 : List (List V) := [y393, y395]
def ha413 : List V := [(.so .h 0 33 33 3), (.so (.o .h) 0 34 34 3)]
def hv413 : V := (.so (.i (.o (.i (.o (.i (.i (.o (.i (.o .h))))))))) 0 34 34 3)
def ho413 : List (Pos × List V) := [((.i (.o (.i (.o (.i (.i (.o (.i (.o .h))))))))), y396)]
theorem hs413 : stat hb413 ha413 hv413 ho413 = true := by kernel_rfl
theorem hr413 : runOk (un 2 F42 ha413 (mkS hb413) fun v S => some (v, S)) hv413 ho413 = true := by kernel_rfl
theorem hm413 : FOK Tryz.prog 42 (memoF hb413 ha413 hv413 ho413) := memo_ok K42 hs413 hr413
def hb414 : List (List V) := [y335, y2]
def ha414 : List V := [(.so .h 0 33 33 3), (.so (.o .h) 0 3 3 3)]
def hv414 : V := (.so (.i (.o (.o (.i (.i (.i (.i (.o (.o (.i (.o .h))))))))))) 0 35 35 3)
def ho414 : List (Pos × List V) := [((.i (.o (.o (.i (.i (.i (.i (.o (.o (.i (.o .h))))))))))), y397)]
theorem hs414 : stat hb414 ha414 hv414 ho414 = true := by kernel_rfl
theorem hr414 : runOk (un 2 F20 ha414 (mkS hb414) fun v S => some (v, S)) hv414 ho414 = true := by kernel_rfl
theorem hm414 : FOK Tryz.prog 20 (memoF hb414 ha414 hv414 ho414) := memo_ok K20 hs414 hr414
def hb415 : List (List V) := [y396, y398]
def ha415 : List V := [(.so .h 0 34 34 3), (.so (.o .h) 0 35 35 3)]
def hv415 : V := (.so (.o (.o (.i (.o (.o (.i (.o (.i (.o .h))))))))) 0 35 35 3)
def ho415 : List (Pos × List V) := [((.o (.o (.i (.o (.o (.i (.o (.i (.o .h))))))))), y399)]
theorem hs415 : stat hb415 ha415 hv415 ho415 = true := by kernel_rfl
theorem hr415 : runOk (un 2 F42 ha415 (mkS hb415) fun v S => some (v, S)) hv415 ho415 = true := by kernel_rfl
theorem hm415 : FOK Tryz.prog 42 (memoF hb415 ha415 hv415 ho415) := memo_ok K42 hs415 hr415
def hb416 : List (List V) := [y353, y0]
def ha416 : List V := [(.so .h 0 35 35 3), (.so (.o .h) 0 2 2 3)]
def hv416 : V := (.so (.o (.o (.i (.i (.i (.o (.i (.i (.i (.i .h)))))))))) 0 36 36 3)
def ho416 : List (Pos × List V) := [((.o (.o (.i (.i (.i (.o (.i (.i (.i (.i .h)))))))))), y400)]
theorem hs416 : stat hb416 ha416 hv416 ho416 = true := by kernel_rfl
theorem hr416 : runOk (un 2 F20 ha416 (mkS hb416) fun v S => some (v, S)) hv416 ho416 = true := by kernel_rfl
theorem hm416 : FOK Tryz.prog 20 (memoF hb416 ha416 hv416 ho416) := memo_ok K20 hs416 hr416
def hb417 : List (List V) := [y399, y400]
def ha417 : List V := [(.so .h 0 35 35 3), (.so (.o .h) 0 36 36 3)]
def hv417 : V := (.so (.i (.i (.i (.o (.o (.i (.o (.i (.o .h))))))))) 0 36 36 3)
def ho417 : List (Pos × List V) := [((.i (.i (.i (.o (.o (.i (.o (.i (.o .h))))))))), y401)]
theorem hs417 : stat hb417 ha417 hv417 ho417 = true := by kernel_rfl
theorem hr417 : runOk (un 2 F42 ha417 (mkS hb417) fun v S => some (v, S)) hv417 ho417 = true := by kernel_rfl
theorem hm417 : FOK Tryz.prog 42 (memoF hb417 ha417 hv417 ho417) := memo_ok K42 hs417 hr417
def hb418 : List (List V) := [y372, [(.b false), (.s [1]), (.s [1])]]
def ha418 : List V := [(.so .h 0 37 37 3), (.so (.o .h) 0 1 1 3)]
def hv418 : V := (.so (.i (.i (.i (.i (.i (.o (.i (.i (.o (.o .h)))))))))) 0 37 37 3)
def ho418 : List (Pos × List V) := [((.i (.i (.i (.i (.i (.o (.i (.i (.o (.o .h)))))))))), y372)]
theorem hs418 : stat hb418 ha418 hv418 ho418 = true := by kernel_rfl
theorem hr418 : runOk (un 2 F20 ha418 (mkS hb418) fun v S => some (v, S)) hv418 ho418 = true := by kernel_rfl
theorem hm418 : FOK Tryz.prog 20 (memoF hb418 ha418 hv418 ho418) := memo_ok K20 hs418 hr418
def hb419 : List (List V) := [y401, y372]
def ha419 : List V := [(.so .h 0 36 36 3), (.so (.o .h) 0 37 37 3)]
def hv419 : V := (.so (.o (.o (.o (.i (.o (.o (.i (.i (.o .h))))))))) 0 37 37 3)
def ho419 : List (Pos × List V) := [((.o (.o (.o (.i (.o (.o (.i (.i (.o .h))))))))), y402)]
theorem hs419 : stat hb419 ha419 hv419 ho419 = true := by kernel_rfl
theorem hr419 : runOk (un 2 F42 ha419 (mkS hb419) fun v S => some (v, S)) hv419 ho419 = true := by kernel_rfl
theorem hm419 : FOK Tryz.prog 42 (memoF hb419 ha419 hv419 ho419) := memo_ok K42 hs419 hr419
def hb420 : List (List V) := [y372, y193]
def ha420 : List V := [(.so .h 0 37 37 3), (.so (.o .h) 0 3 3 3)]
def hv420 : V := (.so (.i (.i (.i (.i (.i (.i (.i (.o (.o (.o (.i .h))))))))))) 0 39 39 3)
def ho420 : List (Pos × List V) := [((.i (.i (.i (.i (.i (.i (.i (.o (.o (.o (.i .h))))))))))), y403)]
theorem hs420 : stat hb420 ha420 hv420 ho420 = true := by kernel_rfl
theorem hr420 : runOk (un 2 F20 ha420 (mkS hb420) fun v S => some (v, S)) hv420 ho420 = true := by kernel_rfl
theorem hm420 : FOK Tryz.prog 20 (memoF hb420 ha420 hv420 ho420) := memo_ok K20 hs420 hr420
def hb421 : List (List V) := [y0, y52]
def ha421 : List V := [(.so .h 0 2 2 3), (.so (.o .h) 0 19 19 3)]
def hv421 : V := (.so (.o (.o (.i (.i (.o (.i (.i (.o (.o (.o .h)))))))))) 0 20 20 3)
def ho421 : List (Pos × List V) := [((.o (.o (.i (.i (.o (.i (.i (.o (.o (.o .h)))))))))), y404)]
theorem hs421 : stat hb421 ha421 hv421 ho421 = true := by kernel_rfl
theorem hr421 : runOk (un 2 F20 ha421 (mkS hb421) fun v S => some (v, S)) hv421 ho421 = true := by kernel_rfl
theorem hm421 : FOK Tryz.prog 20 (memoF hb421 ha421 hv421 ho421) := memo_ok K20 hs421 hr421
def hb422 : List (List V) := [y404, y49]
def ha422 : List V := [(.so .h 0 20 20 3), (.so (.o .h) 0 18 18 3)]
def hv422 : V := (.so (.o (.i (.o (.i (.o (.i (.o (.o (.i .h))))))))) 0 20 20 3)
def ho422 : List (Pos × List V) := [((.o (.i (.o (.i (.o (.i (.o (.o (.i .h))))))))), y55)]
theorem hs422 : stat hb422 ha422 hv422 ho422 = true := by kernel_rfl
theorem hr422 : runOk (un 2 F39 ha422 (mkS hb422) fun v S => some (v, S)) hv422 ho422 = true := by kernel_rfl
theorem hm422 : FOK Tryz.prog 39 (memoF hb422 ha422 hv422 ho422) := memo_ok K39 hs422 hr422
def hb423 : List (List V) := [[(.b false), (.s [1]), (.s [1])], y405]
def ha423 : List V := [(.so .h 0 1 1 3), (.so (.o .h) 0 20 20 3)]
def hv423 : V := (.so (.o (.o (.i (.i (.o (.i (.o (.o (.o .h))))))))) 0 20 20 3)
def ho423 : List (Pos × List V) := [((.o (.o (.i (.i (.o (.i (.o (.o (.o .h))))))))), y405)]
theorem hs423 : stat hb423 ha423 hv423 ho423 = true := by kernel_rfl
theorem hr423 : runOk (un 2 F20 ha423 (mkS hb423) fun v S => some (v, S)) hv423 ho423 = true := by kernel_rfl
theorem hm423 : FOK Tryz.prog 20 (memoF hb423 ha423 hv423 ho423) := memo_ok K20 hs423 hr423
def hb424 : List (List V) := [y193, y374]
def ha424 : List V := [(.so .h 0 3 3 3), (.so (.o .h) 0 19 19 3)]
def hv424 : V := (.so (.i (.o (.i (.i (.o (.i (.o (.o (.i (.o .h)))))))))) 0 21 21 3)
def ho424 : List (Pos × List V) := [((.i (.o (.i (.i (.o (.i (.o (.o (.i (.o .h)))))))))), y406)]
theorem hs424 : stat hb424 ha424 hv424 ho424 = true := by kernel_rfl
theorem hr424 : runOk (un 2 F20 ha424 (mkS hb424) fun v S => some (v, S)) hv424 ho424 = true := by kernel_rfl
theorem hm424 : FOK Tryz.prog 20 (memoF hb424 ha424 hv424 ho424) := memo_ok K20 hs424 hr424
def hb425 : List (List V) := [y194, y355]
def ha425 : List V := [(.so .h 0 5 5 3), (.so (.o .h) 0 18 18 3)]
def hv425 : V := (.so (.o (.i (.o (.i (.o (.i (.i (.i (.i (.i .h)))))))))) 0 22 22 3)
def ho425 : List (Pos × List V) := [((.o (.i (.o (.i (.o (.i (.i (.i (.i (.i .h)))))))))), y407)]
theorem hs425 : stat hb425 ha425 hv425 ho425 = true := by kernel_rfl
theorem hr425 : runOk (un 2 F20 ha425 (mkS hb425) fun v S => some (v, S)) hv425 ho425 = true := by kernel_rfl
theorem hm425 : FOK Tryz.prog 20 (memoF hb425 ha425 hv425 ho425) := memo_ok K20 hs425 hr425
def hb426 : List (List V) := [y195, y337]
def ha426 : List V := [(.so .h 0 7 7 3), (.so (.o .h) 0 17 17 3)]
def hv426 : V := (.so (.i (.i (.o (.o (.o (.i (.i (.o (.o (.i (.o .h))))))))))) 0 23 23 3)
def ho426 : List (Pos × List V) := [((.i (.i (.o (.o (.o (.i (.i (.o (.o (.i (.o .h))))))))))), y408)]
theorem hs426 : stat hb426 ha426 hv426 ho426 = true := by kernel_rfl
theorem hr426 : runOk (un 2 F20 ha426 (mkS hb426) fun v S => some (v, S)) hv426 ho426 = true := by kernel_rfl
theorem hm426 : FOK Tryz.prog 20 (memoF hb426 ha426 hv426 ho426) := memo_ok K20 hs426 hr426
def hb427 : List (List V) := [y197, y320]
def ha427 : List V := [(.so .h 0 9 9 3), (.so (.o .h) 0 16 16 3)]
def hv427 : V := (.so (.o (.o (.o (.i (.i (.o (.o (.i (.o (.o (.i .h))))))))))) 0 24 24 3)
def ho427 : List (Pos × List V) := [((.o (.o (.o (.i (.i (.o (.o (.i (.o (.o (.i .h))))))))))), y409)]
theorem hs427 : stat hb427 ha427 hv427 ho427 = true := by kernel_rfl
theorem hr427 : runOk (un 2 F20 ha427 (mkS hb427) fun v S => some (v, S)) hv427 ho427 = true := by kernel_rfl
theorem hm427 : FOK Tryz.prog 20 (memoF hb427 ha427 hv427 ho427) := memo_ok K20 hs427 hr427
def hb428 : List (List V) := [y202, y304]
def ha428 : List V := [(.so .h 0 11 11 3), (.so (.o .h) 0 15 15 3)]
def hv428 : V := (.so (.i (.o (.o (.i (.o (.o (.o (.i (.o (.i (.i .h))))))))))) 0 25 25 3)
def ho428 : List (Pos × List V) := [((.i (.o (.o (.i (.o (.o (.o (.i (.o (.i (.i .h))))))))))), y410)]
theorem hs428 : stat hb428 ha428 hv428 ho428 = true := by kernel_rfl
theorem hr428 : runOk (un 2 F20 ha428 (mkS hb428) fun v S => some (v, S)) hv428 ho428 = true := by kernel_rfl
theorem hm428 : FOK Tryz.prog 20 (memoF hb428 ha428 hv428 ho428) := memo_ok K20 hs428 hr428
def hb429 : List (List V) := [y209, y289]
def ha429 : List V := [(.so .h 0 13 13 3), (.so (.o .h) 0 14 14 3)]
def hv429 : V := (.so (.o (.i (.i (.o (.i (.i (.o (.o (.o (.o (.o (.o .h)))))))))))) 0 26 26 3)
def ho429 : List (Pos × List V) := [((.o (.i (.i (.o (.i (.i (.o (.o (.o (.o (.o (.o .h)))))))))))), y411)]
theorem hs429 : stat hb429 ha429 hv429 ho429 = true := by kernel_rfl
theorem hr429 : runOk (un 2 F20 ha429 (mkS hb429) fun v S => some (v, S)) hv429 ho429 = true := by kernel_rfl
theorem hm429 : FOK Tryz.prog 20 (memoF hb429 ha429 hv429 ho429) := memo_ok K20 hs429 hr429
def hb430 : List (List V) := [y217, y275]
def ha430 : List V := [(.so .h 0 15 15 3), (.so (.o .h) 0 13 13 3)]
def hv430 : V := (.so (.i (.i (.o (.o (.i (.o (.o (.i (.i (.o (.o (.o .h)))))))))))) 0 27 27 3)
def ho430 : List (Pos × List V) := [((.i (.i (.o (.o (.i (.o (.o (.i (.i (.o (.o (.o .h)))))))))))), y412)]
theorem hs430 : stat hb430 ha430 hv430 ho430 = true := by kernel_rfl
theorem hr430 : runOk (un 2 F20 ha430 (mkS hb430) fun v S => some (v, S)) hv430 ho430 = true := by kernel_rfl
theorem hm430 : FOK Tryz.prog 20 (memoF hb430 ha430 hv430 ho430) := memo_ok K20 hs430 hr430
def hb431 : List (List V) := [y226, y262]
def ha431 : List V := [(.so .h 0 17 17 3), (.so (.o .h) 0 12 12 3)]
def hv431 : V := (.so (.o (.i (.i (.i (.o (.o (.o (.i (.o (.i (.o (.o .h)))))))))))) 0 28 28 3)
def ho431 : List (Pos × List V) := [((.o (.i (.i (.i (.o (.o (.o (.i (.o (.i (.o (.o .h)))))))))))), y413)]
theorem hs431 : stat hb431 ha431 hv431 ho431 = true := by kernel_rfl
theorem hr431 : runOk (un 2 F20 ha431 (mkS hb431) fun v S => some (v, S)) hv431 ho431 = true := by kernel_rfl
theorem hm431 : FOK Tryz.prog 20 (memoF hb431 ha431 hv431 ho431) := memo_ok K20 hs431 hr431
def hb432 : List (List V) := [y237, y250]
def ha432 : List V := [(.so .h 0 19 19 3), (.so (.o .h) 0 11 11 3)]
def hv432 : V := (.so (.i (.o (.i (.i (.o (.i (.o (.o (.i (.i (.o (.o .h)))))))))))) 0 29 29 3)
def ho432 : List (Pos × List V) := [((.i (.o (.i (.i (.o (.i (.o (.o (.i (.i (.o (.o .h)))))))))))), y414)]
theorem hs432 : stat hb432 ha432 hv432 ho432 = true := by kernel_rfl
theorem hr432 : runOk (un 2 F20 ha432 (mkS hb432) fun v S => some (v, S)) hv432 ho432 = true := by kernel_rfl
theorem hm432 : FOK Tryz.prog 20 (memoF hb432 ha432 hv432 ho432) := memo_ok K20 hs432 hr432
def hb433 : List (List V) := [y248, y239]
def ha433 : List V := [(.so .h 0 21 21 3), (.so (.o .h) 0 10 10 3)]
def hv433 : V := (.so (.o (.i (.o (.i (.o (.i (.i (.o (.i (.i (.o (.o .h)))))))))))) 0 30 30 3)
def ho433 : List (Pos × List V) := [((.o (.i (.o (.i (.o (.i (.i (.o (.i (.i (.o (.o .h)))))))))))), y415)]
theorem hs433 : stat hb433 ha433 hv433 ho433 = true := by kernel_rfl
theorem hr433 : runOk (un 2 F20 ha433 (mkS hb433) fun v S => some (v, S)) hv433 ho433 = true := by kernel_rfl
theorem hm433 : FOK Tryz.prog 20 (memoF hb433 ha433 hv433 ho433) := memo_ok K20 hs433 hr433
def hb434 : List (List V) := [y260, y228]
def ha434 : List V := [(.so .h 0 23 23 3), (.so (.o .h) 0 9 9 3)]
def hv434 : V := (.so (.i (.i (.o (.i (.i (.o (.o (.i (.i (.i (.o (.o .h)))))))))))) 0 31 31 3)
def ho434 : List (Pos × List V) := [((.i (.i (.o (.i (.i (.o (.o (.i (.i (.i (.o (.o .h)))))))))))), y416)]
theorem hs434 : stat hb434 ha434 hv434 ho434 = true := by kernel_rfl
theorem hr434 : runOk (un 2 F20 ha434 (mkS hb434) fun v S => some (v, S)) hv434 ho434 = true := by kernel_rfl
theorem hm434 : FOK Tryz.prog 20 (memoF hb434 ha434 hv434 ho434) := memo_ok K20 hs434 hr434
def hb435 : List (List V) := [y273, y229]
def ha435 : List V := [(.so .h 0 25 25 3), (.so (.o .h) 0 8 8 3)]
def hv435 : V := (.so (.o (.o (.i (.o (.o (.i (.o (.o (.i (.i (.o (.o .h)))))))))))) 0 32 32 3)
def ho435 : List (Pos × List V) := [((.o (.o (.i (.o (.o (.i (.o (.o (.i (.i (.o (.o .h)))))))))))), y417)]
theorem hs435 : stat hb435 ha435 hv435 ho435 = true := by kernel_rfl
theorem hr435 : runOk (un 2 F20 ha435 (mkS hb435) fun v S => some (v, S)) hv435 ho435 = true := by kernel_rfl
theorem hm435 : FOK Tryz.prog 20 (memoF hb435 ha435 hv435 ho435) := memo_ok K20 hs435 hr435
def hb436 : List (List V) := [y287, y219]
def ha436 : List V := [(.so .h 0 27 27 3), (.so (.o .h) 0 7 7 3)]
def hv436 : V := (.so (.i (.o (.i (.i (.o (.i (.i (.o (.o (.i (.o (.o .h)))))))))))) 0 33 33 3)
def ho436 : List (Pos × List V) := [((.i (.o (.i (.i (.o (.i (.i (.o (.o (.i (.o (.o .h)))))))))))), y418)]
theorem hs436 : stat hb436 ha436 hv436 ho436 = true := by kernel_rfl
theorem hr436 : runOk (un 2 F20 ha436 (mkS hb436) fun v S => some (v, S)) hv436 ho436 = true := by kernel_rfl
theorem hm436 : FOK Tryz.prog 20 (memoF hb436 ha436 hv436 ho436) := memo_ok K20 hs436 hr436
def hb437 : List (List V) := [y419, y420]
def ha437 : List V := [(.so .h 0 32 32 3), (.so (.o .h) 0 33 33 3)]
def hv437 : V := (.so (.o (.i (.o (.i (.o (.o (.o (.i (.o .h))))))))) 0 33 33 3)
def ho437 : List (Pos × List V) := [((.o (.i (.o (.i (.o (.o (.o (.i (.o .h))))))))), y421)]
theorem hs437 : stat hb437 ha437 hv437 ho437 = true := by kernel_rfl
theorem hr437 : runOk (un 2 F42 ha437 (mkS hb437) fun v S => some (v, S)) hv437 ho437 = true := by kernel_rfl
theorem hm437 : FOK Tryz.prog 42 (memoF hb437 ha437 hv437 ho437) := memo_ok K42 hs437 hr437
def hb438 : List (List V) := [y302, y211]
def ha438 : List V := [(.so .h 0 29 29 3), (.so (.o .h) 0 6 6 3)]
def hv438 : V := (.so (.o (.o (.i (.i (.o (.i (.o (.o (.i (.o (.o (.o .h)))))))))))) 0 34 34 3)
def ho438 : List (Pos × List V) := [((.o (.o (.i (.i (.o (.i (.o (.o (.i (.o (.o (.o .h)))))))))))), y422)]
theorem hs438 : stat hb438 ha438 hv438 ho438 = true := by kernel_rfl
theorem hr438 : runOk (un 2 F20 ha438 (mkS hb438) fun v S => some (v, S)) hv438 ho438 = true := by kernel_rfl
theorem hm438 : FOK Tryz.prog 20 (memoF hb438 ha438 hv438 ho438) := memo_ok K20 hs438 hr438
def hb439 : List (List V) := [y421, y423]
def ha439 : List V := [(.so .h 0 33 33 3), (.so (.o .h) 0 34 34 3)]
def hv439 : V := (.so (.i (.o (.i (.o (.o (.i (.o (.i (.o .h))))))))) 0 34 34 3)
def ho439 : List (Pos × List V) := [((.i (.o (.i (.o (.o (.i (.o (.i (.o .h))))))))), y424)]
theorem hs439 : stat hb439 ha439 hv439 ho439 = true := by kernel_rfl
theorem hr439 : runOk (un 2 F42 ha439 (mkS hb439) fun v S => some (v, S)) hv439 ho439 = true := by kernel_rfl
theorem hm439 : FOK Tryz.prog 42 (memoF hb439 ha439 hv439 ho439) := memo_ok K42 hs439 hr439
def hb440 : List (List V) := [y318, y204]
def ha440 : List V := [(.so .h 0 31 31 3), (.so (.o .h) 0 5 5 3)]
def hv440 : V := (.so (.i (.i (.o (.i (.o (.o (.o (.i (.i (.i (.i .h))))))))))) 0 35 35 3)
def ho440 : List (Pos × List V) := [((.i (.i (.o (.i (.o (.o (.o (.i (.i (.i (.i .h))))))))))), y425)]
theorem hs440 : stat hb440 ha440 hv440 ho440 = true := by kernel_rfl
theorem hr440 : runOk (un 2 F20 ha440 (mkS hb440) fun v S => some (v, S)) hv440 ho440 = true := by kernel_rfl
theorem hm440 : FOK Tryz.prog 20 (memoF hb440 ha440 hv440 ho440) := memo_ok K20 hs440 hr440
def hb441 : List (List V) := [y424, y426]
def ha441 : List V := [(.so .h 0 34 34 3), (.so (.o .h) 0 35 35 3)]
def hv441 : V := (.so (.o (.i (.o (.i (.i (.o (.i (.i (.o .h))))))))) 0 35 35 3)
def ho441 : List (Pos × List V) := [((.o (.i (.o (.i (.i (.o (.i (.i (.o .h))))))))), y427)]
theorem hs441 : stat hb441 ha441 hv441 ho441 = true := by kernel_rfl
theorem hr441 : runOk (un 2 F42 ha441 (mkS hb441) fun v S => some (v, S)) hv441 ho441 = true := by kernel_rfl
theorem hm441 : FOK Tryz.prog 42 (memoF hb441 ha441 hv441 ho441) := memo_ok K42 hs441 hr441
def hb442 : List (List V) := [y335, y198]
def ha442 : List V := [(.so .h 0 33 33 3), (.so (.o .h) 0 4 4 3)]
def hv442 : V := (.so (.o (.o (.i (.o (.o (.o (.o (.i (.i (.o (.i .h))))))))))) 0 36 36 3)
def ho442 : List (Pos × List V) := [((.o (.o (.i (.o (.o (.o (.o (.i (.i (.o (.i .h))))))))))), y428)]
theorem hs442 : stat hb442 ha442 hv442 ho442 = true := by kernel_rfl
theorem hr442 : runOk (un 2 F20 ha442 (mkS hb442) fun v S => some (v, S)) hv442 ho442 = true := by kernel_rfl
theorem hm442 : FOK Tryz.prog 20 (memoF hb442 ha442 hv442 ho442) := memo_ok K20 hs442 hr442
def hb443 : List (List V) := [y427, y429]
def ha443 : List V := [(.so .h 0 35 35 3), (.so (.o .h) 0 36 36 3)]
def hv443 : V := (.so (.i (.o (.i (.o (.o (.i (.i (.i (.o .h))))))))) 0 36 36 3)
def ho443 : List (Pos × List V) := [((.i (.o (.i (.o (.o (.i (.i (.i (.o .h))))))))), y430)]
theorem hs443 : stat hb443 ha443 hv443 ho443 = true := by kernel_rfl
theorem hr443 : runOk (un 2 F42 ha443 (mkS hb443) fun v S => some (v, S)) hv443 ho443 = true := by kernel_rfl
theorem hm443 : FOK Tryz.prog 42 (memoF hb443 ha443 hv443 ho443) := memo_ok K42 hs443 hr443
def hb444 : List (List V) := [y353, y2]
def ha444 : List V := [(.so .h 0 35 35 3), (.so (.o .h) 0 3 3 3)]
def hv444 : V := (.so (.i (.o (.i (.i (.i (.o (.o (.o (.i (.i (.o .h))))))))))) 0 37 37 3)
def ho444 : List (Pos × List V) := [((.i (.o (.i (.i (.i (.o (.o (.o (.i (.i (.o .h))))))))))), y431)]
theorem hs444 : stat hb444 ha444 hv444 ho444 = true := by kernel_rfl
theorem hr444 : runOk (un 2 F20 ha444 (mkS hb444) fun v S => some (v, S)) hv444 ho444 = true := by kernel_rfl
theorem hm444 : FOK Tryz.prog 20 (memoF hb444 ha444 hv444 ho444) := memo_ok K20 hs444 hr444
def hb445 : List (List V) := [y430, y432]
def ha445 : List V := [(.so .h 0 36 36 3), (.so (.o .h) 0 37 37 3)]
def hv445 : V := (.so (.o (.o (.i (.o (.i (.o (.i (.i (.o .h))))))))) 0 37 37 3)
def ho445 : List (Pos × List V) := [((.o (.o (.i (.o (.i (.o (.i (.i (.o .h))))))))), y433)]
theorem hs445 : stat hb445 ha445 hv445 ho445 = true := by kernel_rfl
theorem hr445 : runOk (un 2 F42 ha445 (mkS hb445) fun v S => some (v, S)) hv445 ho445 = true := by kernel_rfl
theorem hm445 : FOK Tryz.prog 42 (memoF hb445 ha445 hv445 ho445) := memo_ok K42 hs445 hr445
def hb446 : List (List V) := [y372, y0]
def ha446 : List V := [(.so .h 0 37 37 3), (.so (.o .h) 0 2 2 3)]
def hv446 : V := (.so (.o (.o (.o (.o (.i (.o (.i (.o (.o (.o (.o .h))))))))))) 0 38 38 3)
def ho446 : List (Pos × List V) := [((.o (.o (.o (.o (.i (.o (.i (.o (.o (.o (.o .h))))))))))), y434)]
theorem hs446 : stat hb446 ha446 hv446 ho446 = true := by kernel_rfl
theorem hr446 : runOk (un 2 F20 ha446 (mkS hb446) fun v S => some (v, S)) hv446 ho446 = true := by kernel_rfl
theorem hm446 : FOK Tryz.prog 20 (memoF hb446 ha446 hv446 ho446) := memo_ok K20 hs446 hr446
def hb447 : List (List V) := [y433, y434]
def ha447 : List V := [(.so .h 0 37 37 3), (.so (.o .h) 0 38 38 3)]
def hv447 : V := (.so (.i (.o (.i (.o (.i (.o (.i (.i (.o .h))))))))) 0 38 38 3)
def ho447 : List (Pos × List V) := [((.i (.o (.i (.o (.i (.o (.i (.i (.o .h))))))))), y435)]
theorem hs447 : stat hb447 ha447 hv447 ho447 = true := by kernel_rfl
theorem hr447 : runOk (un 2 F42 ha447 (mkS hb447) fun v S => some (v, S)) hv447 ho447 = true := by kernel_rfl
theorem hm447 : FOK Tryz.prog 42 (memoF hb447 ha447 hv447 ho447) := memo_ok K42 hs447 hr447
def hb448 : List (List V) := [y403, [(.b false), (.s [1]), (.s [1])]]
def ha448 : List V := [(.so .h 0 39 39 3), (.so (.o .h) 0 1 1 3)]
def hv448 : V := (.so (.i (.i (.o (.o (.i (.i (.o (.o (.i (.o .h)))))))))) 0 39 39 3)
def ho448 : List (Pos × List V) := [((.i (.i (.o (.o (.i (.i (.o (.o (.i (.o .h)))))))))), y403)]
theorem hs448 : stat hb448 ha448 hv448 ho448 = true := by kernel_rfl
theorem hr448 : runOk (un 2 F20 ha448 (mkS hb448) fun v S => some (v, S)) hv448 ho448 = true := by kernel_rfl
theorem hm448 : FOK Tryz.prog 20 (memoF hb448 ha448 hv448 ho448) := memo_ok K20 hs448 hr448
def hb449 : List (List V) := [y435, y403]
def ha449 : List V := [(.so .h 0 38 38 3), (.so (.o .h) 0 39 39 3)]
def hv449 : V := (.so (.o (.i (.i (.i (.o (.i (.i (.i (.o .h))))))))) 0 39 39 3)
def ho449 : List (Pos × List V) := [((.o (.i (.i (.i (.o (.i (.i (.i (.o .h))))))))), y436)]
theorem hs449 : stat hb449 ha449 hv449 ho449 = true := by kernel_rfl
theorem hr449 : runOk (un 2 F42 ha449 (mkS hb449) fun v S => some (v, S)) hv449 ho449 = true := by kernel_rfl
theorem hm449 : FOK Tryz.prog 42 (memoF hb449 ha449 hv449 ho449) := memo_ok K42 hs449 hr449
def hb450 : List (List V) := [y403, y193]
def ha450 : List V := [(.so .h 0 39 39 3), (.so (.o .h) 0 3 3 3)]
def hv450 : V := (.so (.i (.i (.o (.o (.i (.o (.i (.o (.i (.o (.i .h))))))))))) 0 41 41 3)
def ho450 : List (Pos × List V) := [((.i (.i (.o (.o (.i (.o (.i (.o (.i (.o (.i .h))))))))))), y437)]
theorem hs450 : stat hb450 ha450 hv450 ho450 = true := by kernel_rfl
theorem hr450 : runOk (un 2 F20 ha450 (mkS hb450) fun v S => some (v, S)) hv450 ho450 = true := by kernel_rfl
theorem hm450 : FOK Tryz.prog 20 (memoF hb450 ha450 hv450 ho450) := memo_ok K20 hs450 hr450
end
end Go.AM
