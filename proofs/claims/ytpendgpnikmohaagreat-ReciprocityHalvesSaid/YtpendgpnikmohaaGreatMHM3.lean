/- Products of the reference, by their runs. -/
import Derived.Test.YtpendgpnikmohaaGreatRH
import Derived.Test.YtpendgpnikmohaaGreatXM6
import Derived.Test.YtpendgpnikmohaaGreatMHD
set_option maxRecDepth 1000000
set_option linter.unusedVariables false
namespace Go.AM
open Go.Proofs
noncomputable section
def hb382 : List (List V) := [y226, y239]
def ha382 : List V := [(.so .h 0 17 17 3), (.so (.o .h) 0 10 10 3)]
def hv382 : V := (.so (.o (.i (.i (.i (.o (.i (.o (.i (.i (.i (.i .h))))))))))) 0 26 26 3)
def ho382 : List (Pos × List V) := [((.o (.i (.i (.i (.o (.i (.o (.i (.i (.i (.i .h))))))))))), y363)]
theorem hs382 : stat hb382 ha382 hv382 ho382 = true := by kernel_rfl
theorem hr382 : runOk (un 2 F20 ha382 (mkS hb382) fun v S => some (v, S)) hv382 ho382 = true := by kernel_rfl
theorem hm382 : FOK Tryz.prog 20 (memoF hb382 ha382 hv382 ho382) := memo_ok K20 hs382 hr382
def hb383 : List (List V) := [y237, y228]
def ha383 : List V := [(.so .h 0 19 19 3), (.so (.o .h) 0 9 9 3)]
def hv383 : V := (.so (.i (.i (.o (.i (.o (.i (.i (.i (.i (.i (.i .h))))))))))) 0 27 27 3)
def ho383 : List (Pos × List V) := [((.i (.i (.o (.i (.o (.i (.i (.i (.i (.i (.i .h))))))))))), y364)]
theorem hs383 : stat hb383 ha383 hv383 ho383 = true := by kernel_rfl
theorem hr383 : runOk (un 2 F20 ha383 (mkS hb383) fun v S => some (v, S)) hv383 ho383 = true := by kernel_rfl
theorem hm383 : FOK Tryz.prog 20 (memoF hb383 ha383 hv383 ho383) := memo_ok K20 hs383 hr383
def hb384 : List (List V) := [y248, y229]
def ha384 : List V := [(.so .h 0 21 21 3), (.so (.o .h) 0 8 8 3)]
def hv384 : V := (.so (.o (.i (.i (.o (.o (.o (.i (.i (.i (.i (.i .h))))))))))) 0 28 28 3)
def ho384 : List (Pos × List V) := [((.o (.i (.i (.o (.o (.o (.i (.i (.i (.i (.i .h))))))))))), y365)]
theorem hs384 : stat hb384 ha384 hv384 ho384 = true := by kernel_rfl
theorem hr384 : runOk (un 2 F20 ha384 (mkS hb384) fun v S => some (v, S)) hv384 ho384 = true := by kernel_rfl
theorem hm384 : FOK Tryz.prog 20 (memoF hb384 ha384 hv384 ho384) := memo_ok K20 hs384 hr384
def hb385 : List (List V) := [y260, y219]
def ha385 : List V := [(.so .h 0 23 23 3), (.so (.o .h) 0 7 7 3)]
def hv385 : V := (.so (.i (.o (.i (.o (.o (.o (.o (.i (.i (.i (.i .h))))))))))) 0 29 29 3)
def ho385 : List (Pos × List V) := [((.i (.o (.i (.o (.o (.o (.o (.i (.i (.i (.i .h))))))))))), y366)]
theorem hs385 : stat hb385 ha385 hv385 ho385 = true := by kernel_rfl
theorem hr385 : runOk (un 2 F20 ha385 (mkS hb385) fun v S => some (v, S)) hv385 ho385 = true := by kernel_rfl
theorem hm385 : FOK Tryz.prog 20 (memoF hb385 ha385 hv385 ho385) := memo_ok K20 hs385 hr385
def hb386 : List (List V) := [y273, y211]
def ha386 : List V := [(.so .h 0 25 25 3), (.so (.o .h) 0 6 6 3)]
def hv386 : V := (.so (.o (.o (.o (.i (.o (.i (.o (.i (.o (.i (.i .h))))))))))) 0 30 30 3)
def ho386 : List (Pos × List V) := [((.o (.o (.o (.i (.o (.i (.o (.i (.o (.i (.i .h))))))))))), y367)]
theorem hs386 : stat hb386 ha386 hv386 ho386 = true := by kernel_rfl
theorem hr386 : runOk (un 2 F20 ha386 (mkS hb386) fun v S => some (v, S)) hv386 ho386 = true := by kernel_rfl
theorem hm386 : FOK Tryz.prog 20 (memoF hb386 ha386 hv386 ho386) := memo_ok K20 hs386 hr386
def hb387 : List (List V) := [y287, y204]
def ha387 : List V := [(.so .h 0 27 27 3), (.so (.o .h) 0 5 5 3)]
def hv387 : V := (.so (.i (.i (.o (.o (.o (.o (.o (.i (.i (.o (.i .h))))))))))) 0 31 31 3)
def ho387 : List (Pos × List V) := [((.i (.i (.o (.o (.o (.o (.o (.i (.i (.o (.i .h))))))))))), y368)]
theorem hs387 : stat hb387 ha387 hv387 ho387 = true := by kernel_rfl
theorem hr387 : runOk (un 2 F20 ha387 (mkS hb387) fun v S => some (v, S)) hv387 ho387 = true := by kernel_rfl
theorem hm387 : FOK Tryz.prog 20 (memoF hb387 ha387 hv387 ho387) := memo_ok K20 hs387 hr387
def hb388 : List (List V) := [y302, y198]
def ha388 : List V := [(.so .h 0 29 29 3), (.so (.o .h) 0 4 4 3)]
def hv388 : V := (.so (.o (.o (.i (.i (.i (.o (.i (.i (.i (.i (.o .h))))))))))) 0 32 32 3)
def ho388 : List (Pos × List V) := [((.o (.o (.i (.i (.i (.o (.i (.i (.i (.i (.o .h))))))))))), y369)]
theorem hs388 : stat hb388 ha388 hv388 ho388 = true := by kernel_rfl
theorem hr388 : runOk (un 2 F20 ha388 (mkS hb388) fun v S => some (v, S)) hv388 ho388 = true := by kernel_rfl
theorem hm388 : FOK Tryz.prog 20 (memoF hb388 ha388 hv388 ho388) := memo_ok K20 hs388 hr388
def hb389 : List (List V) := [y318, y2]
def ha389 : List V := [(.so .h 0 31 31 3), (.so (.o .h) 0 3 3 3)]
def hv389 : V := (.so (.i (.o (.i (.o (.i (.o (.i (.i (.i (.o (.o .h))))))))))) 0 33 33 3)
def ho389 : List (Pos × List V) := [((.i (.o (.i (.o (.i (.o (.i (.i (.i (.o (.o .h))))))))))), y370)]
theorem hs389 : stat hb389 ha389 hv389 ho389 = true := by kernel_rfl
theorem hr389 : runOk (un 2 F20 ha389 (mkS hb389) fun v S => some (v, S)) hv389 ho389 = true := by kernel_rfl
theorem hm389 : FOK Tryz.prog 20 (memoF hb389 ha389 hv389 ho389) := memo_ok K20 hs389 hr389
def hb390 : List (List V) := [y335, y0]
def ha390 : List V := [(.so .h 0 33 33 3), (.so (.o .h) 0 2 2 3)]
def hv390 : V := (.so (.o (.o (.o (.i (.o (.i (.i (.o (.i (.i .h)))))))))) 0 34 34 3)
def ho390 : List (Pos × List V) := [((.o (.o (.o (.i (.o (.i (.i (.o (.i (.i .h)))))))))), y371)]
theorem hs390 : stat hb390 ha390 hv390 ho390 = true := by kernel_rfl
theorem hr390 : runOk (un 2 F20 ha390 (mkS hb390) fun v S => some (v, S)) hv390 ho390 = true := by kernel_rfl
theorem hm390 : FOK Tryz.prog 20 (memoF hb390 ha390 hv390 ho390) := memo_ok K20 hs390 hr390
def hb391 : List (List V) := [y353, [(.b false), (.s [1]), (.s [1])]]
def ha391 : List V := [(.so .h 0 35 35 3), (.so (.o .h) 0 1 1 3)]
def hv391 : V := (.so (.i (.i (.o (.i (.i (.o (.o (.i (.o (.o .h)))))))))) 0 35 35 3)
def ho391 : List (Pos × List V) := [((.i (.i (.o (.i (.i (.o (.o (.i (.o (.o .h)))))))))), y353)]
theorem hs391 : stat hb391 ha391 hv391 ho391 = true := by kernel_rfl
theorem hr391 : runOk (un 2 F20 ha391 (mkS hb391) fun v S => some (v, S)) hv391 ho391 = true := by kernel_rfl
theorem hm391 : FOK Tryz.prog 20 (memoF hb391 ha391 hv391 ho391) := memo_ok K20 hs391 hr391
def hb392 : List (List V) := [y353, y193]
def ha392 : List V := [(.so .h 0 35 35 3), (.so (.o .h) 0 3 3 3)]
def hv392 : V := (.so (.i (.o (.o (.i (.o (.o (.i (.i (.i (.i (.o .h))))))))))) 0 37 37 3)
def ho392 : List (Pos × List V) := [((.i (.o (.o (.i (.o (.o (.i (.i (.i (.i (.o .h))))))))))), y372)]
theorem hs392 : stat hb392 ha392 hv392 ho392 = true := by kernel_rfl
theorem hr392 : runOk (un 2 F20 ha392 (mkS hb392) fun v S => some (v, S)) hv392 ho392 = true := by kernel_rfl
theorem hm392 : FOK Tryz.prog 20 (memoF hb392 ha392 hv392 ho392) := memo_ok K20 hs392 hr392
def hb393 : List (List V) := [y0, y49]
def ha393 : List V := [(.so .h 0 2 2 3), (.so (.o .h) 0 18 18 3)]
def hv393 : V := (.so (.o (.o (.i (.i (.o (.i (.o (.o (.o (.o .h)))))))))) 0 19 19 3)
def ho393 : List (Pos × List V) := [((.o (.o (.i (.i (.o (.i (.o (.o (.o (.o .h)))))))))), y373)]
theorem hs393 : stat hb393 ha393 hv393 ho393 = true := by kernel_rfl
theorem hr393 : runOk (un 2 F20 ha393 (mkS hb393) fun v S => some (v, S)) hv393 ho393 = true := by kernel_rfl
theorem hm393 : FOK Tryz.prog 20 (memoF hb393 ha393 hv393 ho393) := memo_ok K20 hs393 hr393
def hb394 : List (List V) := [y373, y46]
def ha394 : List V := [(.so .h 0 19 19 3), (.so (.o .h) 0 17 17 3)]
def hv394 : V := (.so (.o (.i (.o (.i (.i (.i (.i (.i (.o .h))))))))) 0 19 19 3)
def ho394 : List (Pos × List V) := [((.o (.i (.o (.i (.i (.i (.i (.i (.o .h))))))))), y52)]
theorem hs394 : stat hb394 ha394 hv394 ho394 = true := by kernel_rfl
theorem hr394 : runOk (un 2 F39 ha394 (mkS hb394) fun v S => some (v, S)) hv394 ho394 = true := by kernel_rfl
theorem hm394 : FOK Tryz.prog 39 (memoF hb394 ha394 hv394 ho394) := memo_ok K39 hs394 hr394
def hb395 : List (List V) := [[(.b false), (.s [1]), (.s [1])], y374]
def ha395 : List V := [(.so .h 0 1 1 3), (.so (.o .h) 0 19 19 3)]
def hv395 : V := (.so (.i (.o (.o (.o (.i (.o (.o (.o (.o .h))))))))) 0 19 19 3)
def ho395 : List (Pos × List V) := [((.i (.o (.o (.o (.i (.o (.o (.o (.o .h))))))))), y374)]
theorem hs395 : stat hb395 ha395 hv395 ho395 = true := by kernel_rfl
theorem hr395 : runOk (un 2 F20 ha395 (mkS hb395) fun v S => some (v, S)) hv395 ho395 = true := by kernel_rfl
theorem hm395 : FOK Tryz.prog 20 (memoF hb395 ha395 hv395 ho395) := memo_ok K20 hs395 hr395
def hb396 : List (List V) := [y193, y355]
def ha396 : List V := [(.so .h 0 3 3 3), (.so (.o .h) 0 18 18 3)]
def hv396 : V := (.so (.o (.i (.o (.i (.o (.i (.i (.i (.o (.o .h)))))))))) 0 20 20 3)
def ho396 : List (Pos × List V) := [((.o (.i (.o (.i (.o (.i (.i (.i (.o (.o .h)))))))))), y375)]
theorem hs396 : stat hb396 ha396 hv396 ho396 = true := by kernel_rfl
theorem hr396 : runOk (un 2 F20 ha396 (mkS hb396) fun v S => some (v, S)) hv396 ho396 = true := by kernel_rfl
theorem hm396 : FOK Tryz.prog 20 (memoF hb396 ha396 hv396 ho396) := memo_ok K20 hs396 hr396
def hb397 : List (List V) := [y194, y337]
def ha397 : List V := [(.so .h 0 5 5 3), (.so (.o .h) 0 17 17 3)]
def hv397 : V := (.so (.i (.i (.i (.i (.i (.i (.i (.o (.i (.i .h)))))))))) 0 21 21 3)
def ho397 : List (Pos × List V) := [((.i (.i (.i (.i (.i (.i (.i (.o (.i (.i .h)))))))))), y376)]
theorem hs397 : stat hb397 ha397 hv397 ho397 = true := by kernel_rfl
theorem hr397 : runOk (un 2 F20 ha397 (mkS hb397) fun v S => some (v, S)) hv397 ho397 = true := by kernel_rfl
theorem hm397 : FOK Tryz.prog 20 (memoF hb397 ha397 hv397 ho397) := memo_ok K20 hs397 hr397
def hb398 : List (List V) := [y195, y320]
def ha398 : List V := [(.so .h 0 7 7 3), (.so (.o .h) 0 16 16 3)]
def hv398 : V := (.so (.o (.o (.o (.o (.i (.o (.i (.i (.i (.o (.o .h))))))))))) 0 22 22 3)
def ho398 : List (Pos × List V) := [((.o (.o (.o (.o (.i (.o (.i (.i (.i (.o (.o .h))))))))))), y377)]
theorem hs398 : stat hb398 ha398 hv398 ho398 = true := by kernel_rfl
theorem hr398 : runOk (un 2 F20 ha398 (mkS hb398) fun v S => some (v, S)) hv398 ho398 = true := by kernel_rfl
theorem hm398 : FOK Tryz.prog 20 (memoF hb398 ha398 hv398 ho398) := memo_ok K20 hs398 hr398
def hb399 : List (List V) := [y197, y304]
def ha399 : List V := [(.so .h 0 9 9 3), (.so (.o .h) 0 15 15 3)]
def hv399 : V := (.so (.i (.o (.i (.i (.i (.o (.i (.i (.i (.i (.o .h))))))))))) 0 23 23 3)
def ho399 : List (Pos × List V) := [((.i (.o (.i (.i (.i (.o (.i (.i (.i (.i (.o .h))))))))))), y378)]
theorem hs399 : stat hb399 ha399 hv399 ho399 = true := by kernel_rfl
theorem hr399 : runOk (un 2 F20 ha399 (mkS hb399) fun v S => some (v, S)) hv399 ho399 = true := by kernel_rfl
theorem hm399 : FOK Tryz.prog 20 (memoF hb399 ha399 hv399 ho399) := memo_ok K20 hs399 hr399
def hb400 : List (List V) := [y202, y289]
def ha400 : List V := [(.so .h 0 11 11 3), (.so (.o .h) 0 14 14 3)]
def hv400 : V := (.so (.o (.i (.i (.o (.o (.i (.o (.i (.i (.o (.i .h))))))))))) 0 24 24 3)
def ho400 : List (Pos × List V) := [((.o (.i (.i (.o (.o (.i (.o (.i (.i (.o (.i .h))))))))))), y379)]
theorem hs400 : stat hb400 ha400 hv400 ho400 = true := by kernel_rfl
theorem hr400 : runOk (un 2 F20 ha400 (mkS hb400) fun v S => some (v, S)) hv400 ho400 = true := by kernel_rfl
theorem hm400 : FOK Tryz.prog 20 (memoF hb400 ha400 hv400 ho400) := memo_ok K20 hs400 hr400
def hb401 : List (List V) := [y209, y275]
def ha401 : List V := [(.so .h 0 13 13 3), (.so (.o .h) 0 13 13 3)]
def hv401 : V := (.so (.i (.i (.o (.i (.o (.i (.o (.o (.i (.i (.i .h))))))))))) 0 25 25 3)
def ho401 : List (Pos × List V) := [((.i (.i (.o (.i (.o (.i (.o (.o (.i (.i (.i .h))))))))))), y380)]
theorem hs401 : stat hb401 ha401 hv401 ho401 = true := by kernel_rfl
theorem hr401 : runOk (un 2 F20 ha401 (mkS hb401) fun v S => some (v, S)) hv401 ho401 = true := by kernel_rfl
theorem hm401 : FOK Tryz.prog 20 (memoF hb401 ha401 hv401 ho401) := memo_ok K20 hs401 hr401
def hb402 : List (List V) := [y217, y262]
def ha402 : List V := [(.so .h 0 15 15 3), (.so (.o .h) 0 12 12 3)]
def hv402 : V := (.so (.o (.o (.i (.o (.i (.o (.i (.o (.o (.o (.o (.o .h)))))))))))) 0 26 26 3)
def ho402 : List (Pos × List V) := [((.o (.o (.i (.o (.i (.o (.i (.o (.o (.o (.o (.o .h)))))))))))), y381)]
theorem hs402 : stat hb402 ha402 hv402 ho402 = true := by kernel_rfl
theorem hr402 : runOk (un 2 F20 ha402 (mkS hb402) fun v S => some (v, S)) hv402 ho402 = true := by kernel_rfl
theorem hm402 : FOK Tryz.prog 20 (memoF hb402 ha402 hv402 ho402) := memo_ok K20 hs402 hr402
def hb403 : List (List V) := [y226, y250]
def ha403 : List V := [(.so .h 0 17 17 3), (.so (.o .h) 0 11 11 3)]
def hv403 : V := (.so (.i (.o (.o (.o (.o (.i (.o (.o (.i (.o (.o (.o .h)))))))))))) 0 27 27 3)
def ho403 : List (Pos × List V) := [((.i (.o (.o (.o (.o (.i (.o (.o (.i (.o (.o (.o .h)))))))))))), y382)]
theorem hs403 : stat hb403 ha403 hv403 ho403 = true := by kernel_rfl
theorem hr403 : runOk (un 2 F20 ha403 (mkS hb403) fun v S => some (v, S)) hv403 ho403 = true := by kernel_rfl
theorem hm403 : FOK Tryz.prog 20 (memoF hb403 ha403 hv403 ho403) := memo_ok K20 hs403 hr403
def hb404 : List (List V) := [y237, y239]
def ha404 : List V := [(.so .h 0 19 19 3), (.so (.o .h) 0 10 10 3)]
def hv404 : V := (.so (.o (.o (.i (.i (.o (.o (.o (.i (.i (.o (.o (.o .h)))))))))))) 0 28 28 3)
def ho404 : List (Pos × List V) := [((.o (.o (.i (.i (.o (.o (.o (.i (.i (.o (.o (.o .h)))))))))))), y383)]
theorem hs404 : stat hb404 ha404 hv404 ho404 = true := by kernel_rfl
theorem hr404 : runOk (un 2 F20 ha404 (mkS hb404) fun v S => some (v, S)) hv404 ho404 = true := by kernel_rfl
theorem hm404 : FOK Tryz.prog 20 (memoF hb404 ha404 hv404 ho404) := memo_ok K20 hs404 hr404
def hb405 : List (List V) := [y248, y228]
def ha405 : List V := [(.so .h 0 21 21 3), (.so (.o .h) 0 9 9 3)]
def hv405 : V := (.so (.i (.i (.o (.i (.i (.o (.o (.i (.i (.o (.o (.o .h)))))))))))) 0 29 29 3)
def ho405 : List (Pos × List V) := [((.i (.i (.o (.i (.i (.o (.o (.i (.i (.o (.o (.o .h)))))))))))), y384)]
theorem hs405 : stat hb405 ha405 hv405 ho405 = true := by kernel_rfl
theorem hr405 : runOk (un 2 F20 ha405 (mkS hb405) fun v S => some (v, S)) hv405 ho405 = true := by kernel_rfl
theorem hm405 : FOK Tryz.prog 20 (memoF hb405 ha405 hv405 ho405) := memo_ok K20 hs405 hr405
def hb406 : List (List V) := [y260, y229]
def ha406 : List V := [(.so .h 0 23 23 3), (.so (.o .h) 0 8 8 3)]
def hv406 : V := (.so (.o (.o (.o (.o (.i (.o (.o (.i (.i (.o (.o (.o .h)))))))))))) 0 30 30 3)
def ho406 : List (Pos × List V) := [((.o (.o (.o (.o (.i (.o (.o (.i (.i (.o (.o (.o .h)))))))))))), y385)]
theorem hs406 : stat hb406 ha406 hv406 ho406 = true := by kernel_rfl
theorem hr406 : runOk (un 2 F20 ha406 (mkS hb406) fun v S => some (v, S)) hv406 ho406 = true := by kernel_rfl
theorem hm406 : FOK Tryz.prog 20 (memoF hb406 ha406 hv406 ho406) := memo_ok K20 hs406 hr406
def hb407 : List (List V) := [y273, y219]
def ha407 : List V := [(.so .h 0 25 25 3), (.so (.o .h) 0 7 7 3)]
def hv407 : V := (.so (.i (.o (.o (.i (.o (.i (.i (.i (.o (.o (.o (.o .h)))))))))))) 0 31 31 3)
def ho407 : List (Pos × List V) := [((.i (.o (.o (.i (.o (.i (.i (.i (.o (.o (.o (.o .h)))))))))))), y386)]
theorem hs407 : stat hb407 ha407 hv407 ho407 = true := by kernel_rfl
theorem hr407 : runOk (un 2 F20 ha407 (mkS hb407) fun v S => some (v, S)) hv407 ho407 = true := by kernel_rfl
theorem hm407 : FOK Tryz.prog 20 (memoF hb407 ha407 hv407 ho407) := memo_ok K20 hs407 hr407
def hb408 : List (List V) := [y287, y211]
def ha408 : List V := [(.so .h 0 27 27 3), (.so (.o .h) 0 6 6 3)]
def hv408 : V := (.so (.o (.o (.o (.i (.i (.i (.i (.i (.i (.i (.i .h))))))))))) 0 32 32 3)
def ho408 : List (Pos × List V) := [((.o (.o (.o (.i (.i (.i (.i (.i (.i (.i (.i .h))))))))))), y387)]
theorem hs408 : stat hb408 ha408 hv408 ho408 = true := by kernel_rfl
theorem hr408 : runOk (un 2 F20 ha408 (mkS hb408) fun v S => some (v, S)) hv408 ho408 = true := by kernel_rfl
theorem hm408 : FOK Tryz.prog 20 (memoF hb408 ha408 hv408 ho408) := memo_ok K20 hs408 hr408
def hb409 : List (List V) := [y388, y389]
def ha409 : List V := [(.so .h 0 31 31 3), (.so (.o .h) 0 32 32 3)]
def hv409 : V := (.so (.i (.o (.o (.o (.i (.i (.i (.o (.o .h))))))))) 0 32 32 3)
def ho409 : List (Pos × List V) := [((.i (.o (.o (.o (.i (.i (.i (.o (.o .h))))))))), y390)]
theorem hs409 : stat hb409 ha409 hv409 ho409 = true := by kernel_rfl
theorem hr409 : runOk (un 2 F42 ha409 (mkS hb409) fun v S => some (v, S)) hv409 ho409 = true := by kernel_rfl
theorem hm409 : FOK Tryz.prog 42 (memoF hb409 ha409 hv409 ho409) := memo_ok K42 hs409 hr409
def hb410 : List (List V) := [y302, y204]
def ha410 : List V := [(.so .h 0 29 29 3), (.so (.o .h) 0 5 5 3)]
def hv410 : V := (.so (.i (.i (.i (.o (.o (.o (.o (.i (.o (.i (.i .h))))))))))) 0 33 33 3)
def ho410 : List (Pos × List V) := [((.i (.i (.i (.o (.o (.o (.o (.i (.o (.i (.i .h))))))))))), y391)]
theorem hs410 : stat hb410 ha410 hv410 ho410 = true := by kernel_rfl
theorem hr410 : runOk (un 2 F20 ha410 (mkS hb410) fun v S => some (v, S)) hv410 ho410 = true := by kernel_rfl
theorem hm410 : FOK Tryz.prog 20 (memoF hb410 ha410 hv410 ho410) := memo_ok K20 hs410 hr410
def hb411 : List (List V) := [y390, y392]
def ha411 : List V := [(.so .h 0 32 32 3), (.so (.o .h) 0 33 33 3)]
def hv411 : V := (.so (.o (.o (.i (.o (.o (.i (.o (.i (.o .h))))))))) 0 33 33 3)
def ho411 : List (Pos × List V) := [((.o (.o (.i (.o (.o (.i (.o (.i (.o .h))))))))), y393)]
theorem hs411 : stat hb411 ha411 hv411 ho411 = true := by kernel_rfl
theorem hr411 : runOk (un 2 F42 ha411 (mkS hb411) fun v S => some (v, S)) hv411 ho411 = true := by kernel_rfl
theorem hm411 : FOK Tryz.prog 42 (memoF hb411 ha411 hv411 ho411) := memo_ok K42 hs411 hr411
def hb412 : List (List V) := [y318, y198]
def ha412 : List V := [(.so .h 0 31 31 3), (.so (.o .h) 0 4 4 3)]
def hv412 : V := (.so (.o (.o (.o (.o (.i (.i (.o (.i (.o (.o (.i .h))))))))))) 0 34 34 3)
def ho412 : List (Pos × List V) := [((.o (.o (.o (.o (.i (.i (.o (.i (.o (.o (.i .h))))))))))), y394)]
theorem hs412 : stat hb412 ha412 hv412 ho412 = true := by kernel_rfl
theorem hr412 : runOk (un 2 F20 ha412 (mkS hb412) fun v S => some (v, S)) hv412 ho412 = true := by kernel_rfl
theorem hm412 : FOK Tryz.prog 20 (memoF hb412 ha412 hv412 ho412) := memo_ok K20 hs412 hr412
end
end Go.AM
