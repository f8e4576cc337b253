/- Products and differences of the reference, by their runs. -/
import Derived.Test.YtpendgpnikmohaaGreatMSD
set_option maxRecDepth 1000000
set_option linter.unusedVariables false
namespace Go.AM
open Go.Proofs
noncomputable section
def shb32 : List (List V) := [sy52, sy54]
def sha32 : List V := [(.so .h 0 21 21 3), (.so (.o .h) 0 21 21 3)]
def shv32 : V := (.so (.o (.o (.i (.o (.i (.o (.o (.o (.i .h))))))))) 0 20 20 3)
def sho32 : List (Pos × List V) := [((.o (.o (.i (.o (.i (.o (.o (.o (.i .h))))))))), sy55)]
theorem shs32 : stat shb32 sha32 shv32 sho32 = true := by kernel_rfl
theorem shr32 : runOk (un 2 F39 sha32 (mkS shb32) fun v S => some (v, S)) shv32 sho32 = true := by kernel_rfl
theorem shm32 : FOK Tryz.prog 39 (memoF shb32 sha32 shv32 sho32) := memo_ok K39 shs32 shr32
def shb33 : List (List V) := [sy56, sy34]
def sha33 : List V := [(.so .h 0 4 4 3), (.so (.o .h) 0 17 17 3)]
def shv33 : V := (.so (.o (.o (.i (.i (.i (.i (.o (.i (.o (.i .h)))))))))) 0 20 20 3)
def sho33 : List (Pos × List V) := [((.o (.o (.i (.i (.i (.i (.o (.i (.o (.i .h)))))))))), sy57)]
theorem shs33 : stat shb33 sha33 shv33 sho33 = true := by kernel_rfl
theorem shr33 : runOk (un 2 F20 sha33 (mkS shb33) fun v S => some (v, S)) shv33 sho33 = true := by kernel_rfl
theorem shm33 : FOK Tryz.prog 20 (memoF shb33 sha33 shv33 sho33) := memo_ok K20 shs33 shr33
def shb34 : List (List V) := [sy55, sy57]
def sha34 : List V := [(.so .h 0 20 20 3), (.so (.o .h) 0 20 20 3)]
def shv34 : V := (.so (.o (.o (.i (.o (.i (.o (.i (.i (.o .h))))))))) 0 18 18 3)
def sho34 : List (Pos × List V) := [((.o (.o (.i (.o (.i (.o (.i (.i (.o .h))))))))), sy58)]
theorem shs34 : stat shb34 sha34 shv34 sho34 = true := by kernel_rfl
theorem shr34 : runOk (un 2 F39 sha34 (mkS shb34) fun v S => some (v, S)) shv34 sho34 = true := by kernel_rfl
theorem shm34 : FOK Tryz.prog 39 (memoF shb34 sha34 shv34 sho34) := memo_ok K39 shs34 shr34
def shb35 : List (List V) := [sy59, sy34]
def sha35 : List V := [(.so .h 0 2 2 3), (.so (.o .h) 0 17 17 3)]
def shv35 : V := (.so (.o (.i (.i (.o (.o (.i (.i (.i (.i .h))))))))) 0 18 18 3)
def sho35 : List (Pos × List V) := [((.o (.i (.i (.o (.o (.i (.i (.i (.i .h))))))))), sy60)]
theorem shs35 : stat shb35 sha35 shv35 sho35 = true := by kernel_rfl
theorem shr35 : runOk (un 2 F20 sha35 (mkS shb35) fun v S => some (v, S)) shv35 sho35 = true := by kernel_rfl
theorem shm35 : FOK Tryz.prog 20 (memoF shb35 sha35 shv35 sho35) := memo_ok K20 shs35 shr35
def shb36 : List (List V) := [[(.b true), (.s [16]), (.s [1])], sy34]
def sha36 : List V := [(.so .h 0 1 1 3), (.so (.o .h) 0 17 17 3)]
def shv36 : V := (.so (.i (.o (.o (.i (.i (.o (.i (.o (.o .h))))))))) 0 17 17 3)
def sho36 : List (Pos × List V) := [((.i (.o (.o (.i (.i (.o (.i (.o (.o .h))))))))), sy61)]
theorem shs36 : stat shb36 sha36 shv36 sho36 = true := by kernel_rfl
theorem shr36 : runOk (un 2 F20 sha36 (mkS shb36) fun v S => some (v, S)) shv36 sho36 = true := by kernel_rfl
theorem shm36 : FOK Tryz.prog 20 (memoF shb36 sha36 shv36 sho36) := memo_ok K20 shs36 shr36
def shb37 : List (List V) := [sy62, sy61]
def sha37 : List V := [(.so .h 0 17 17 3), (.so (.o .h) 0 17 17 3)]
def shv37 : V := (.so (.o (.o (.o (.i (.i (.o (.o (.i (.o .h))))))))) 0 1 1 3)
def sho37 : List (Pos × List V) := [((.o (.o (.o (.i (.i (.o (.o (.i (.o .h))))))))), [(.b false), (.s [17]), (.s [1])])]
theorem shs37 : stat shb37 sha37 shv37 sho37 = true := by kernel_rfl
theorem shr37 : runOk (un 2 F39 sha37 (mkS shb37) fun v S => some (v, S)) shv37 sho37 = true := by kernel_rfl
theorem shm37 : FOK Tryz.prog 39 (memoF shb37 sha37 shv37 sho37) := memo_ok K39 shs37 shr37
def shb38 : List (List V) := [[(.b false), (.s [1]), (.s [1])], sy34]
def sha38 : List V := [(.so .h 0 1 1 3), (.so (.o .h) 0 17 17 3)]
def shv38 : V := (.so (.i (.i (.o (.i (.i (.i (.i (.o (.o .h))))))))) 0 17 17 3)
def sho38 : List (Pos × List V) := [((.i (.i (.o (.i (.i (.i (.i (.o (.o .h))))))))), sy34)]
theorem shs38 : stat shb38 sha38 shv38 sho38 = true := by kernel_rfl
theorem shr38 : runOk (un 2 F20 sha38 (mkS shb38) fun v S => some (v, S)) shv38 sho38 = true := by kernel_rfl
theorem shm38 : FOK Tryz.prog 20 (memoF shb38 sha38 shv38 sho38) := memo_ok K20 shs38 shr38
def shb39 : List (List V) := [sy63]
def sha39 : List V := [(.sl .h 0 18 18), (.sl .h 0 18 18)]
def shv39 : V := (.so (.i (.i (.i (.i (.o (.o (.i (.o (.i (.i (.o (.o (.o .h))))))))))))) 0 35 35 3)
def sho39 : List (Pos × List V) := [((.i (.i (.i (.i (.o (.o (.i (.o (.i (.i (.o (.o (.o .h))))))))))))), sy64)]
theorem shs39 : stat shb39 sha39 shv39 sho39 = true := by kernel_rfl
theorem shr39 : runOk (un 2 F20 sha39 (mkS shb39) fun v S => some (v, S)) shv39 sho39 = true := by kernel_rfl
theorem shm39 : FOK Tryz.prog 20 (memoF shb39 sha39 shv39 sho39) := memo_ok K20 shs39 shr39
def shb40 : List (List V) := [sy65, sy66]
def sha40 : List V := [(.so .h 0 17 17 3), (.so (.o .h) 0 19 19 3)]
def shv40 : V := (.so (.i (.o (.i (.o (.i (.o (.o (.o (.o (.o (.i (.i .h)))))))))))) 0 35 35 3)
def sho40 : List (Pos × List V) := [((.i (.o (.i (.o (.i (.o (.o (.o (.o (.o (.i (.i .h)))))))))))), sy67)]
theorem shs40 : stat shb40 sha40 shv40 sho40 = true := by kernel_rfl
theorem shr40 : runOk (un 2 F20 sha40 (mkS shb40) fun v S => some (v, S)) shv40 sho40 = true := by kernel_rfl
theorem shm40 : FOK Tryz.prog 20 (memoF shb40 sha40 shv40 sho40) := memo_ok K20 shs40 shr40
def shb41 : List (List V) := [sy64, sy67]
def sha41 : List V := [(.so .h 0 35 35 3), (.so (.o .h) 0 35 35 3)]
def shv41 : V := (.so (.o (.i (.o (.o (.i (.i (.i (.i (.o (.o .h)))))))))) 0 34 34 3)
def sho41 : List (Pos × List V) := [((.o (.i (.o (.o (.i (.i (.i (.i (.o (.o .h)))))))))), sy68)]
theorem shs41 : stat shb41 sha41 shv41 sho41 = true := by kernel_rfl
theorem shr41 : runOk (un 2 F39 sha41 (mkS shb41) fun v S => some (v, S)) shv41 sho41 = true := by kernel_rfl
theorem shm41 : FOK Tryz.prog 39 (memoF shb41 sha41 shv41 sho41) := memo_ok K39 shs41 shr41
def shb42 : List (List V) := [sy69, sy66]
def sha42 : List V := [(.so .h 0 16 16 3), (.so (.o .h) 0 19 19 3)]
def shv42 : V := (.so (.o (.o (.o (.o (.o (.o (.o (.i (.o (.i (.o (.i .h)))))))))))) 0 34 34 3)
def sho42 : List (Pos × List V) := [((.o (.o (.o (.o (.o (.o (.o (.i (.o (.i (.o (.i .h)))))))))))), sy70)]
theorem shs42 : stat shb42 sha42 shv42 sho42 = true := by kernel_rfl
theorem shr42 : runOk (un 2 F20 sha42 (mkS shb42) fun v S => some (v, S)) shv42 sho42 = true := by kernel_rfl
theorem shm42 : FOK Tryz.prog 20 (memoF shb42 sha42 shv42 sho42) := memo_ok K20 shs42 shr42
def shb43 : List (List V) := [sy68, sy70]
def sha43 : List V := [(.so .h 0 34 34 3), (.so (.o .h) 0 34 34 3)]
def shv43 : V := (.so (.o (.i (.i (.o (.i (.o (.i (.i (.o (.o .h)))))))))) 0 33 33 3)
def sho43 : List (Pos × List V) := [((.o (.i (.i (.o (.i (.o (.i (.i (.o (.o .h)))))))))), sy71)]
theorem shs43 : stat shb43 sha43 shv43 sho43 = true := by kernel_rfl
theorem shr43 : runOk (un 2 F39 sha43 (mkS shb43) fun v S => some (v, S)) shv43 sho43 = true := by kernel_rfl
theorem shm43 : FOK Tryz.prog 39 (memoF shb43 sha43 shv43 sho43) := memo_ok K39 shs43 shr43
def shb44 : List (List V) := [sy72, sy66]
def sha44 : List V := [(.so .h 0 15 15 3), (.so (.o .h) 0 19 19 3)]
def shv44 : V := (.so (.i (.o (.i (.o (.o (.o (.i (.i (.o (.o (.o (.i .h)))))))))))) 0 33 33 3)
def sho44 : List (Pos × List V) := [((.i (.o (.i (.o (.o (.o (.i (.i (.o (.o (.o (.i .h)))))))))))), sy73)]
theorem shs44 : stat shb44 sha44 shv44 sho44 = true := by kernel_rfl
theorem shr44 : runOk (un 2 F20 sha44 (mkS shb44) fun v S => some (v, S)) shv44 sho44 = true := by kernel_rfl
theorem shm44 : FOK Tryz.prog 20 (memoF shb44 sha44 shv44 sho44) := memo_ok K20 shs44 shr44
def shb45 : List (List V) := [sy71, sy73]
def sha45 : List V := [(.so .h 0 33 33 3), (.so (.o .h) 0 33 33 3)]
def shv45 : V := (.so (.o (.i (.o (.i (.o (.o (.i (.i (.o (.o .h)))))))))) 0 32 32 3)
def sho45 : List (Pos × List V) := [((.o (.i (.o (.i (.o (.o (.i (.i (.o (.o .h)))))))))), sy74)]
theorem shs45 : stat shb45 sha45 shv45 sho45 = true := by kernel_rfl
theorem shr45 : runOk (un 2 F39 sha45 (mkS shb45) fun v S => some (v, S)) shv45 sho45 = true := by kernel_rfl
theorem shm45 : FOK Tryz.prog 39 (memoF shb45 sha45 shv45 sho45) := memo_ok K39 shs45 shr45
def shb46 : List (List V) := [sy75, sy66]
def sha46 : List V := [(.so .h 0 14 14 3), (.so (.o .h) 0 19 19 3)]
def shv46 : V := (.so (.o (.o (.o (.o (.i (.i (.o (.o (.i (.i (.i (.o .h)))))))))))) 0 32 32 3)
def sho46 : List (Pos × List V) := [((.o (.o (.o (.o (.i (.i (.o (.o (.i (.i (.i (.o .h)))))))))))), sy76)]
theorem shs46 : stat shb46 sha46 shv46 sho46 = true := by kernel_rfl
theorem shr46 : runOk (un 2 F20 sha46 (mkS shb46) fun v S => some (v, S)) shv46 sho46 = true := by kernel_rfl
theorem shm46 : FOK Tryz.prog 20 (memoF shb46 sha46 shv46 sho46) := memo_ok K20 shs46 shr46
def shb47 : List (List V) := [sy74, sy76]
def sha47 : List V := [(.so .h 0 32 32 3), (.so (.o .h) 0 32 32 3)]
def shv47 : V := (.so (.o (.i (.o (.o (.i (.i (.o (.i (.o (.o .h)))))))))) 0 29 29 3)
def sho47 : List (Pos × List V) := [((.o (.i (.o (.o (.i (.i (.o (.i (.o (.o .h)))))))))), sy77)]
theorem shs47 : stat shb47 sha47 shv47 sho47 = true := by kernel_rfl
theorem shr47 : runOk (un 2 F39 sha47 (mkS shb47) fun v S => some (v, S)) shv47 sho47 = true := by kernel_rfl
theorem shm47 : FOK Tryz.prog 39 (memoF shb47 sha47 shv47 sho47) := memo_ok K39 shs47 shr47
def shb48 : List (List V) := [sy40, sy66]
def sha48 : List V := [(.so .h 0 11 11 3), (.so (.o .h) 0 19 19 3)]
def shv48 : V := (.so (.i (.i (.i (.o (.i (.o (.o (.i (.o (.i (.o (.o .h)))))))))))) 0 29 29 3)
def sho48 : List (Pos × List V) := [((.i (.i (.i (.o (.i (.o (.o (.i (.o (.i (.o (.o .h)))))))))))), sy78)]
theorem shs48 : stat shb48 sha48 shv48 sho48 = true := by kernel_rfl
theorem shr48 : runOk (un 2 F20 sha48 (mkS shb48) fun v S => some (v, S)) shv48 sho48 = true := by kernel_rfl
theorem shm48 : FOK Tryz.prog 20 (memoF shb48 sha48 shv48 sho48) := memo_ok K20 shs48 shr48
def shb49 : List (List V) := [sy77, sy78]
def sha49 : List V := [(.so .h 0 29 29 3), (.so (.o .h) 0 29 29 3)]
def shv49 : V := (.so (.o (.i (.i (.i (.o (.i (.o (.o (.o (.o .h)))))))))) 0 24 24 3)
def sho49 : List (Pos × List V) := [((.o (.i (.i (.i (.o (.i (.o (.o (.o (.o .h)))))))))), sy79)]
theorem shs49 : stat shb49 sha49 shv49 sho49 = true := by kernel_rfl
theorem shr49 : runOk (un 2 F39 sha49 (mkS shb49) fun v S => some (v, S)) shv49 sho49 = true := by kernel_rfl
theorem shm49 : FOK Tryz.prog 39 (memoF shb49 sha49 shv49 sho49) := memo_ok K39 shs49 shr49
def shb50 : List (List V) := [sy80, sy66]
def sha50 : List V := [(.so .h 0 6 6 3), (.so (.o .h) 0 19 19 3)]
def shv50 : V := (.so (.o (.i (.i (.i (.o (.i (.o (.i (.o (.i (.o .h))))))))))) 0 24 24 3)
def sho50 : List (Pos × List V) := [((.o (.i (.i (.i (.o (.i (.o (.i (.o (.i (.o .h))))))))))), sy81)]
theorem shs50 : stat shb50 sha50 shv50 sho50 = true := by kernel_rfl
theorem shr50 : runOk (un 2 F20 sha50 (mkS shb50) fun v S => some (v, S)) shv50 sho50 = true := by kernel_rfl
theorem shm50 : FOK Tryz.prog 20 (memoF shb50 sha50 shv50 sho50) := memo_ok K20 shs50 shr50
def shb51 : List (List V) := [sy79, sy81]
def sha51 : List V := [(.so .h 0 24 24 3), (.so (.o .h) 0 24 24 3)]
def shv51 : V := (.so (.o (.o (.i (.o (.o (.o (.o (.i (.i .h))))))))) 0 23 23 3)
def sho51 : List (Pos × List V) := [((.o (.o (.i (.o (.o (.o (.o (.i (.i .h))))))))), sy82)]
theorem shs51 : stat shb51 sha51 shv51 sho51 = true := by kernel_rfl
theorem shr51 : runOk (un 2 F39 sha51 (mkS shb51) fun v S => some (v, S)) shv51 sho51 = true := by kernel_rfl
theorem shm51 : FOK Tryz.prog 39 (memoF shb51 sha51 shv51 sho51) := memo_ok K39 shs51 shr51
def shb52 : List (List V) := [sy23, sy66]
def sha52 : List V := [(.so .h 0 5 5 3), (.so (.o .h) 0 19 19 3)]
def shv52 : V := (.so (.i (.o (.o (.i (.i (.o (.o (.o (.i (.o (.o .h))))))))))) 0 23 23 3)
def sho52 : List (Pos × List V) := [((.i (.o (.o (.i (.i (.o (.o (.o (.i (.o (.o .h))))))))))), sy83)]
theorem shs52 : stat shb52 sha52 shv52 sho52 = true := by kernel_rfl
theorem shr52 : runOk (un 2 F20 sha52 (mkS shb52) fun v S => some (v, S)) shv52 sho52 = true := by kernel_rfl
theorem shm52 : FOK Tryz.prog 20 (memoF shb52 sha52 shv52 sho52) := memo_ok K20 shs52 shr52
def shb53 : List (List V) := [sy82, sy83]
def sha53 : List V := [(.so .h 0 23 23 3), (.so (.o .h) 0 23 23 3)]
def shv53 : V := (.so (.o (.o (.i (.o (.o (.o (.i (.o (.i .h))))))))) 0 22 22 3)
def sho53 : List (Pos × List V) := [((.o (.o (.i (.o (.o (.o (.i (.o (.i .h))))))))), sy84)]
theorem shs53 : stat shb53 sha53 shv53 sho53 = true := by kernel_rfl
theorem shr53 : runOk (un 2 F39 sha53 (mkS shb53) fun v S => some (v, S)) shv53 sho53 = true := by kernel_rfl
theorem shm53 : FOK Tryz.prog 39 (memoF shb53 sha53 shv53 sho53) := memo_ok K39 shs53 shr53
def shb54 : List (List V) := [sy25, sy66]
def sha54 : List V := [(.so .h 0 4 4 3), (.so (.o .h) 0 19 19 3)]
def shv54 : V := (.so (.o (.i (.i (.i (.i (.o (.i (.o (.i (.i .h)))))))))) 0 22 22 3)
def sho54 : List (Pos × List V) := [((.o (.i (.i (.i (.i (.o (.i (.o (.i (.i .h)))))))))), sy85)]
theorem shs54 : stat shb54 sha54 shv54 sho54 = true := by kernel_rfl
theorem shr54 : runOk (un 2 F20 sha54 (mkS shb54) fun v S => some (v, S)) shv54 sho54 = true := by kernel_rfl
theorem shm54 : FOK Tryz.prog 20 (memoF shb54 sha54 shv54 sho54) := memo_ok K20 shs54 shr54
def shb55 : List (List V) := [sy84, sy85]
def sha55 : List V := [(.so .h 0 22 22 3), (.so (.o .h) 0 22 22 3)]
def shv55 : V := (.so (.o (.o (.o (.i (.o (.o (.i (.o (.i .h))))))))) 0 20 20 3)
def sho55 : List (Pos × List V) := [((.o (.o (.o (.i (.o (.o (.i (.o (.i .h))))))))), sy86)]
theorem shs55 : stat shb55 sha55 shv55 sho55 = true := by kernel_rfl
theorem shr55 : runOk (un 2 F39 sha55 (mkS shb55) fun v S => some (v, S)) shv55 sho55 = true := by kernel_rfl
theorem shm55 : FOK Tryz.prog 39 (memoF shb55 sha55 shv55 sho55) := memo_ok K39 shs55 shr55
def shb56 : List (List V) := [sy87, sy66]
def sha56 : List V := [(.so .h 0 2 2 3), (.so (.o .h) 0 19 19 3)]
def shv56 : V := (.so (.o (.o (.i (.o (.i (.i (.o (.o (.o (.o .h)))))))))) 0 20 20 3)
def sho56 : List (Pos × List V) := [((.o (.o (.i (.o (.i (.i (.o (.o (.o (.o .h)))))))))), sy88)]
theorem shs56 : stat shb56 sha56 shv56 sho56 = true := by kernel_rfl
theorem shr56 : runOk (un 2 F20 sha56 (mkS shb56) fun v S => some (v, S)) shv56 sho56 = true := by kernel_rfl
theorem shm56 : FOK Tryz.prog 20 (memoF shb56 sha56 shv56 sho56) := memo_ok K20 shs56 shr56
def shb57 : List (List V) := [sy86, sy88]
def sha57 : List V := [(.so .h 0 20 20 3), (.so (.o .h) 0 20 20 3)]
def shv57 : V := (.so (.o (.o (.o (.i (.o (.i (.o (.o (.i .h))))))))) 0 19 19 3)
def sho57 : List (Pos × List V) := [((.o (.o (.o (.i (.o (.i (.o (.o (.i .h))))))))), sy89)]
theorem shs57 : stat shb57 sha57 shv57 sho57 = true := by kernel_rfl
theorem shr57 : runOk (un 2 F39 sha57 (mkS shb57) fun v S => some (v, S)) shv57 sho57 = true := by kernel_rfl
theorem shm57 : FOK Tryz.prog 39 (memoF shb57 sha57 shv57 sho57) := memo_ok K39 shs57 shr57
def shb58 : List (List V) := [[(.b false), (.s [20]), (.s [1])], sy66]
def sha58 : List V := [(.so .h 0 1 1 3), (.so (.o .h) 0 19 19 3)]
def shv58 : V := (.so (.i (.o (.i (.o (.o (.o (.i (.i (.o .h))))))))) 0 19 19 3)
def sho58 : List (Pos × List V) := [((.i (.o (.i (.o (.o (.o (.i (.i (.o .h))))))))), sy90)]
theorem shs58 : stat shb58 sha58 shv58 sho58 = true := by kernel_rfl
theorem shr58 : runOk (un 2 F20 sha58 (mkS shb58) fun v S => some (v, S)) shv58 sho58 = true := by kernel_rfl
theorem shm58 : FOK Tryz.prog 20 (memoF shb58 sha58 shv58 sho58) := memo_ok K20 shs58 shr58
def shb59 : List (List V) := [sy89, sy90]
def sha59 : List V := [(.so .h 0 19 19 3), (.so (.o .h) 0 19 19 3)]
def shv59 : V := (.so (.o (.i (.o (.o (.o (.i (.i (.i (.o .h))))))))) 0 1 1 3)
def sho59 : List (Pos × List V) := [((.o (.i (.o (.o (.o (.i (.i (.i (.o .h))))))))), [(.b true), (.s [19]), (.s [1])])]
theorem shs59 : stat shb59 sha59 shv59 sho59 = true := by kernel_rfl
theorem shr59 : runOk (un 2 F39 sha59 (mkS shb59) fun v S => some (v, S)) shv59 sho59 = true := by kernel_rfl
theorem shm59 : FOK Tryz.prog 39 (memoF shb59 sha59 shv59 sho59) := memo_ok K39 shs59 shr59
def shb60 : List (List V) := [[(.b true), (.s [1]), (.s [1])], sy66]
def sha60 : List V := [(.so .h 0 1 1 3), (.so (.o .h) 0 19 19 3)]
def shv60 : V := (.so (.i (.i (.i (.i (.i (.o (.o (.i (.o .h))))))))) 0 19 19 3)
def sho60 : List (Pos × List V) := [((.i (.i (.i (.i (.i (.o (.o (.i (.o .h))))))))), sy91)]
theorem shs60 : stat shb60 sha60 shv60 sho60 = true := by kernel_rfl
theorem shr60 : runOk (un 2 F20 sha60 (mkS shb60) fun v S => some (v, S)) shv60 sho60 = true := by kernel_rfl
theorem shm60 : FOK Tryz.prog 20 (memoF shb60 sha60 shv60 sho60) := memo_ok K20 shs60 shr60
def shb61 : List (List V) := [sy92, sy91]
def sha61 : List V := [(.so .h 0 19 19 3), (.so (.o .h) 0 19 19 3)]
def shv61 : V := (.so (.o (.o (.i (.o (.o (.i (.i (.i (.o .h))))))))) 0 18 18 3)
def sho61 : List (Pos × List V) := [((.o (.o (.i (.o (.o (.i (.i (.i (.o .h))))))))), sy63)]
theorem shs61 : stat shb61 sha61 shv61 sho61 = true := by kernel_rfl
theorem shr61 : runOk (un 2 F39 sha61 (mkS shb61) fun v S => some (v, S)) shv61 sho61 = true := by kernel_rfl
theorem shm61 : FOK Tryz.prog 39 (memoF shb61 sha61 shv61 sho61) := memo_ok K39 shs61 shr61
def shb62 : List (List V) := [sy93]
def sha62 : List V := [(.sl .h 0 19 19), (.sl .h 0 19 19)]
def shv62 : V := (.so (.o (.i (.o (.o (.i (.o (.i (.i (.o (.o (.o (.i (.o .h))))))))))))) 0 37 37 3)
def sho62 : List (Pos × List V) := [((.o (.i (.o (.o (.i (.o (.i (.i (.o (.o (.o (.i (.o .h))))))))))))), sy94)]
theorem shs62 : stat shb62 sha62 shv62 sho62 = true := by kernel_rfl
theorem shr62 : runOk (un 2 F20 sha62 (mkS shb62) fun v S => some (v, S)) shv62 sho62 = true := by kernel_rfl
theorem shm62 : FOK Tryz.prog 20 (memoF shb62 sha62 shv62 sho62) := memo_ok K20 shs62 shr62
end
end Go.AM
