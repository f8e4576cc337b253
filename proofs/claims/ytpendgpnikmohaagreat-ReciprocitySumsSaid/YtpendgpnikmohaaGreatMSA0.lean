/- Products and differences of the reference, by their runs. -/
import Derived.Test.YtpendgpnikmohaaGreatMSD
set_option maxRecDepth 1000000
set_option linter.unusedVariables false
namespace Go.AM
open Go.Proofs
noncomputable section
def shb0 : List (List V) := [sy0]
def sha0 : List V := [(.sl .h 0 10 10), (.sl .h 0 10 10)]
def shv0 : V := (.so (.i (.i (.i (.o (.o (.o (.o (.o (.i (.i (.o .h))))))))))) 0 19 19 3)
def sho0 : List (Pos × List V) := [((.i (.i (.i (.o (.o (.o (.o (.o (.i (.i (.o .h))))))))))), sy1)]
theorem shs0 : stat shb0 sha0 shv0 sho0 = true := by kernel_rfl
theorem shr0 : runOk (un 2 F20 sha0 (mkS shb0) fun v S => some (v, S)) shv0 sho0 = true := by kernel_rfl
theorem shm0 : FOK Tryz.prog 20 (memoF shb0 sha0 shv0 sho0) := memo_ok K20 shs0 shr0
def shb1 : List (List V) := [sy2, sy3]
def sha1 : List V := [(.so .h 0 9 9 3), (.so (.o .h) 0 11 11 3)]
def shv1 : V := (.so (.i (.o (.i (.o (.o (.o (.o (.o (.i (.o (.o .h))))))))))) 0 19 19 3)
def sho1 : List (Pos × List V) := [((.i (.o (.i (.o (.o (.o (.o (.o (.i (.o (.o .h))))))))))), sy4)]
theorem shs1 : stat shb1 sha1 shv1 sho1 = true := by kernel_rfl
theorem shr1 : runOk (un 2 F20 sha1 (mkS shb1) fun v S => some (v, S)) shv1 sho1 = true := by kernel_rfl
theorem shm1 : FOK Tryz.prog 20 (memoF shb1 sha1 shv1 sho1) := memo_ok K20 shs1 shr1
def shb2 : List (List V) := [sy5, sy3]
def sha2 : List V := [(.so .h 0 8 8 3), (.so (.o .h) 0 11 11 3)]
def shv2 : V := (.so (.o (.i (.o (.o (.o (.o (.o (.o (.o (.o (.o .h))))))))))) 0 18 18 3)
def sho2 : List (Pos × List V) := [((.o (.i (.o (.o (.o (.o (.o (.o (.o (.o (.o .h))))))))))), sy6)]
theorem shs2 : stat shb2 sha2 shv2 sho2 = true := by kernel_rfl
theorem shr2 : runOk (un 2 F20 sha2 (mkS shb2) fun v S => some (v, S)) shv2 sho2 = true := by kernel_rfl
theorem shm2 : FOK Tryz.prog 20 (memoF shb2 sha2 shv2 sho2) := memo_ok K20 shs2 shr2
def shb3 : List (List V) := [sy7, sy3]
def sha3 : List V := [(.so .h 0 5 5 3), (.so (.o .h) 0 11 11 3)]
def shv3 : V := (.so (.i (.o (.o (.o (.i (.o (.i (.o (.i (.o .h)))))))))) 0 15 15 3)
def sho3 : List (Pos × List V) := [((.i (.o (.o (.o (.i (.o (.i (.o (.i (.o .h)))))))))), sy8)]
theorem shs3 : stat shb3 sha3 shv3 sho3 = true := by kernel_rfl
theorem shr3 : runOk (un 2 F20 sha3 (mkS shb3) fun v S => some (v, S)) shv3 sho3 = true := by kernel_rfl
theorem shm3 : FOK Tryz.prog 20 (memoF shb3 sha3 shv3 sho3) := memo_ok K20 shs3 shr3
def shb4 : List (List V) := [sy9, sy3]
def sha4 : List V := [(.so .h 0 2 2 3), (.so (.o .h) 0 11 11 3)]
def shv4 : V := (.so (.o (.o (.i (.o (.i (.i (.i (.o (.o .h))))))))) 0 12 12 3)
def sho4 : List (Pos × List V) := [((.o (.o (.i (.o (.i (.i (.i (.o (.o .h))))))))), sy10)]
theorem shs4 : stat shb4 sha4 shv4 sho4 = true := by kernel_rfl
theorem shr4 : runOk (un 2 F20 sha4 (mkS shb4) fun v S => some (v, S)) shv4 sho4 = true := by kernel_rfl
theorem shm4 : FOK Tryz.prog 20 (memoF shb4 sha4 shv4 sho4) := memo_ok K20 shs4 shr4
def shb5 : List (List V) := [sy11]
def sha5 : List V := [(.sl .h 0 12 12), (.sl .h 0 12 12)]
def shv5 : V := (.so (.i (.i (.o (.i (.o (.i (.i (.i (.i (.i (.i .h))))))))))) 0 23 23 3)
def sho5 : List (Pos × List V) := [((.i (.i (.o (.i (.o (.i (.i (.i (.i (.i (.i .h))))))))))), sy12)]
theorem shs5 : stat shb5 sha5 shv5 sho5 = true := by kernel_rfl
theorem shr5 : runOk (un 2 F20 sha5 (mkS shb5) fun v S => some (v, S)) shv5 sho5 = true := by kernel_rfl
theorem shm5 : FOK Tryz.prog 20 (memoF shb5 sha5 shv5 sho5) := memo_ok K20 shs5 shr5
def shb6 : List (List V) := [sy13, sy14]
def sha6 : List V := [(.so .h 0 11 11 3), (.so (.o .h) 0 13 13 3)]
def shv6 : V := (.so (.i (.o (.i (.i (.o (.o (.i (.i (.o (.o (.i .h))))))))))) 0 23 23 3)
def sho6 : List (Pos × List V) := [((.i (.o (.i (.i (.o (.o (.i (.i (.o (.o (.i .h))))))))))), sy15)]
theorem shs6 : stat shb6 sha6 shv6 sho6 = true := by kernel_rfl
theorem shr6 : runOk (un 2 F20 sha6 (mkS shb6) fun v S => some (v, S)) shv6 sho6 = true := by kernel_rfl
theorem shm6 : FOK Tryz.prog 20 (memoF shb6 sha6 shv6 sho6) := memo_ok K20 shs6 shr6
def shb7 : List (List V) := [sy12, sy15]
def sha7 : List V := [(.so .h 0 23 23 3), (.so (.o .h) 0 23 23 3)]
def shv7 : V := (.so (.o (.i (.o (.o (.o (.o (.i (.o (.i .h))))))))) 0 22 22 3)
def sho7 : List (Pos × List V) := [((.o (.i (.o (.o (.o (.o (.i (.o (.i .h))))))))), sy16)]
theorem shs7 : stat shb7 sha7 shv7 sho7 = true := by kernel_rfl
theorem shr7 : runOk (un 2 F39 sha7 (mkS shb7) fun v S => some (v, S)) shv7 sho7 = true := by kernel_rfl
theorem shm7 : FOK Tryz.prog 39 (memoF shb7 sha7 shv7 sho7) := memo_ok K39 shs7 shr7
def shb8 : List (List V) := [sy17, sy14]
def sha8 : List V := [(.so .h 0 10 10 3), (.so (.o .h) 0 13 13 3)]
def shv8 : V := (.so (.o (.o (.i (.i (.i (.o (.o (.i (.i (.i (.o .h))))))))))) 0 22 22 3)
def sho8 : List (Pos × List V) := [((.o (.o (.i (.i (.i (.o (.o (.i (.i (.i (.o .h))))))))))), sy18)]
theorem shs8 : stat shb8 sha8 shv8 sho8 = true := by kernel_rfl
theorem shr8 : runOk (un 2 F20 sha8 (mkS shb8) fun v S => some (v, S)) shv8 sho8 = true := by kernel_rfl
theorem shm8 : FOK Tryz.prog 20 (memoF shb8 sha8 shv8 sho8) := memo_ok K20 shs8 shr8
def shb9 : List (List V) := [sy16, sy18]
def sha9 : List V := [(.so .h 0 22 22 3), (.so (.o .h) 0 22 22 3)]
def shv9 : V := (.so (.o (.i (.o (.i (.i (.i (.o (.o (.i .h))))))))) 0 20 20 3)
def sho9 : List (Pos × List V) := [((.o (.i (.o (.i (.i (.i (.o (.o (.i .h))))))))), sy19)]
theorem shs9 : stat shb9 sha9 shv9 sho9 = true := by kernel_rfl
theorem shr9 : runOk (un 2 F39 sha9 (mkS shb9) fun v S => some (v, S)) shv9 sho9 = true := by kernel_rfl
theorem shm9 : FOK Tryz.prog 39 (memoF shb9 sha9 shv9 sho9) := memo_ok K39 shs9 shr9
def shb10 : List (List V) := [sy20, sy14]
def sha10 : List V := [(.so .h 0 8 8 3), (.so (.o .h) 0 13 13 3)]
def shv10 : V := (.so (.o (.o (.o (.i (.o (.o (.o (.i (.i (.o (.o .h))))))))))) 0 20 20 3)
def sho10 : List (Pos × List V) := [((.o (.o (.o (.i (.o (.o (.o (.i (.i (.o (.o .h))))))))))), sy21)]
theorem shs10 : stat shb10 sha10 shv10 sho10 = true := by kernel_rfl
theorem shr10 : runOk (un 2 F20 sha10 (mkS shb10) fun v S => some (v, S)) shv10 sho10 = true := by kernel_rfl
theorem shm10 : FOK Tryz.prog 20 (memoF shb10 sha10 shv10 sho10) := memo_ok K20 shs10 shr10
def shb11 : List (List V) := [sy19, sy21]
def sha11 : List V := [(.so .h 0 20 20 3), (.so (.o .h) 0 20 20 3)]
def shv11 : V := (.so (.o (.i (.i (.i (.i (.o (.i (.i (.o .h))))))))) 0 17 17 3)
def sho11 : List (Pos × List V) := [((.o (.i (.i (.i (.i (.o (.i (.i (.o .h))))))))), sy22)]
theorem shs11 : stat shb11 sha11 shv11 sho11 = true := by kernel_rfl
theorem shr11 : runOk (un 2 F39 sha11 (mkS shb11) fun v S => some (v, S)) shv11 sho11 = true := by kernel_rfl
theorem shm11 : FOK Tryz.prog 39 (memoF shb11 sha11 shv11 sho11) := memo_ok K39 shs11 shr11
def shb12 : List (List V) := [sy23, sy14]
def sha12 : List V := [(.so .h 0 5 5 3), (.so (.o .h) 0 13 13 3)]
def shv12 : V := (.so (.i (.i (.o (.o (.o (.o (.i (.o (.o (.i .h)))))))))) 0 17 17 3)
def sho12 : List (Pos × List V) := [((.i (.i (.o (.o (.o (.o (.i (.o (.o (.i .h)))))))))), sy24)]
theorem shs12 : stat shb12 sha12 shv12 sho12 = true := by kernel_rfl
theorem shr12 : runOk (un 2 F20 sha12 (mkS shb12) fun v S => some (v, S)) shv12 sho12 = true := by kernel_rfl
theorem shm12 : FOK Tryz.prog 20 (memoF shb12 sha12 shv12 sho12) := memo_ok K20 shs12 shr12
def shb13 : List (List V) := [sy25, sy14]
def sha13 : List V := [(.so .h 0 4 4 3), (.so (.o .h) 0 13 13 3)]
def shv13 : V := (.so (.o (.i (.o (.o (.i (.o (.o (.o (.i (.o .h)))))))))) 0 16 16 3)
def sho13 : List (Pos × List V) := [((.o (.i (.o (.o (.i (.o (.o (.o (.i (.o .h)))))))))), sy26)]
theorem shs13 : stat shb13 sha13 shv13 sho13 = true := by kernel_rfl
theorem shr13 : runOk (un 2 F20 sha13 (mkS shb13) fun v S => some (v, S)) shv13 sho13 = true := by kernel_rfl
theorem shm13 : FOK Tryz.prog 20 (memoF shb13 sha13 shv13 sho13) := memo_ok K20 shs13 shr13
def shb14 : List (List V) := [sy27, sy14]
def sha14 : List V := [(.so .h 0 3 3 3), (.so (.o .h) 0 13 13 3)]
def shv14 : V := (.so (.i (.o (.i (.o (.i (.o (.o (.o (.o (.o .h)))))))))) 0 15 15 3)
def sho14 : List (Pos × List V) := [((.i (.o (.i (.o (.i (.o (.o (.o (.o (.o .h)))))))))), sy28)]
theorem shs14 : stat shb14 sha14 shv14 sho14 = true := by kernel_rfl
theorem shr14 : runOk (un 2 F20 sha14 (mkS shb14) fun v S => some (v, S)) shv14 sho14 = true := by kernel_rfl
theorem shm14 : FOK Tryz.prog 20 (memoF shb14 sha14 shv14 sho14) := memo_ok K20 shs14 shr14
def shb15 : List (List V) := [sy29, sy14]
def sha15 : List V := [(.so .h 0 2 2 3), (.so (.o .h) 0 13 13 3)]
def shv15 : V := (.so (.o (.i (.i (.i (.i (.i (.i (.i (.o .h))))))))) 0 14 14 3)
def sho15 : List (Pos × List V) := [((.o (.i (.i (.i (.i (.i (.i (.i (.o .h))))))))), sy30)]
theorem shs15 : stat shb15 sha15 shv15 sho15 = true := by kernel_rfl
theorem shr15 : runOk (un 2 F20 sha15 (mkS shb15) fun v S => some (v, S)) shv15 sho15 = true := by kernel_rfl
theorem shm15 : FOK Tryz.prog 20 (memoF shb15 sha15 shv15 sho15) := memo_ok K20 shs15 shr15
def shb16 : List (List V) := [sy31]
def sha16 : List V := [(.sl .h 0 15 15), (.sl .h 0 15 15)]
def shv16 : V := (.so (.o (.i (.o (.i (.i (.o (.o (.o (.i (.o (.o (.i .h)))))))))))) 0 29 29 3)
def sho16 : List (Pos × List V) := [((.o (.i (.o (.i (.i (.o (.o (.o (.i (.o (.o (.i .h)))))))))))), sy32)]
theorem shs16 : stat shb16 sha16 shv16 sho16 = true := by kernel_rfl
theorem shr16 : runOk (un 2 F20 sha16 (mkS shb16) fun v S => some (v, S)) shv16 sho16 = true := by kernel_rfl
theorem shm16 : FOK Tryz.prog 20 (memoF shb16 sha16 shv16 sho16) := memo_ok K20 shs16 shr16
def shb17 : List (List V) := [sy33, sy34]
def sha17 : List V := [(.so .h 0 13 13 3), (.so (.o .h) 0 17 17 3)]
def shv17 : V := (.so (.i (.i (.i (.i (.i (.i (.i (.o (.i (.i (.o (.o .h)))))))))))) 0 29 29 3)
def sho17 : List (Pos × List V) := [((.i (.i (.i (.i (.i (.i (.i (.o (.i (.i (.o (.o .h)))))))))))), sy35)]
theorem shs17 : stat shb17 sha17 shv17 sho17 = true := by kernel_rfl
theorem shr17 : runOk (un 2 F20 sha17 (mkS shb17) fun v S => some (v, S)) shv17 sho17 = true := by kernel_rfl
theorem shm17 : FOK Tryz.prog 20 (memoF shb17 sha17 shv17 sho17) := memo_ok K20 shs17 shr17
def shb18 : List (List V) := [sy32, sy35]
def sha18 : List V := [(.so .h 0 29 29 3), (.so (.o .h) 0 29 29 3)]
def shv18 : V := (.so (.o (.i (.o (.i (.i (.o (.o (.o (.o (.o .h)))))))))) 0 28 28 3)
def sho18 : List (Pos × List V) := [((.o (.i (.o (.i (.i (.o (.o (.o (.o (.o .h)))))))))), sy36)]
theorem shs18 : stat shb18 sha18 shv18 sho18 = true := by kernel_rfl
theorem shr18 : runOk (un 2 F39 sha18 (mkS shb18) fun v S => some (v, S)) shv18 sho18 = true := by kernel_rfl
theorem shm18 : FOK Tryz.prog 39 (memoF shb18 sha18 shv18 sho18) := memo_ok K39 shs18 shr18
def shb19 : List (List V) := [sy37, sy34]
def sha19 : List V := [(.so .h 0 12 12 3), (.so (.o .h) 0 17 17 3)]
def shv19 : V := (.so (.o (.i (.o (.o (.i (.i (.i (.i (.i (.o (.o (.o .h)))))))))))) 0 28 28 3)
def sho19 : List (Pos × List V) := [((.o (.i (.o (.o (.i (.i (.i (.i (.i (.o (.o (.o .h)))))))))))), sy38)]
theorem shs19 : stat shb19 sha19 shv19 sho19 = true := by kernel_rfl
theorem shr19 : runOk (un 2 F20 sha19 (mkS shb19) fun v S => some (v, S)) shv19 sho19 = true := by kernel_rfl
theorem shm19 : FOK Tryz.prog 20 (memoF shb19 sha19 shv19 sho19) := memo_ok K20 shs19 shr19
def shb20 : List (List V) := [sy36, sy38]
def sha20 : List V := [(.so .h 0 28 28 3), (.so (.o .h) 0 28 28 3)]
def shv20 : V := (.so (.o (.i (.o (.i (.i (.o (.o (.o (.o (.o .h)))))))))) 0 27 27 3)
def sho20 : List (Pos × List V) := [((.o (.i (.o (.i (.i (.o (.o (.o (.o (.o .h)))))))))), sy39)]
theorem shs20 : stat shb20 sha20 shv20 sho20 = true := by kernel_rfl
theorem shr20 : runOk (un 2 F39 sha20 (mkS shb20) fun v S => some (v, S)) shv20 sho20 = true := by kernel_rfl
theorem shm20 : FOK Tryz.prog 39 (memoF shb20 sha20 shv20 sho20) := memo_ok K39 shs20 shr20
def shb21 : List (List V) := [sy40, sy34]
def sha21 : List V := [(.so .h 0 11 11 3), (.so (.o .h) 0 17 17 3)]
def shv21 : V := (.so (.i (.o (.o (.i (.o (.i (.o (.i (.o (.o (.o (.o .h)))))))))))) 0 27 27 3)
def sho21 : List (Pos × List V) := [((.i (.o (.o (.i (.o (.i (.o (.i (.o (.o (.o (.o .h)))))))))))), sy41)]
theorem shs21 : stat shb21 sha21 shv21 sho21 = true := by kernel_rfl
theorem shr21 : runOk (un 2 F20 sha21 (mkS shb21) fun v S => some (v, S)) shv21 sho21 = true := by kernel_rfl
theorem shm21 : FOK Tryz.prog 20 (memoF shb21 sha21 shv21 sho21) := memo_ok K20 shs21 shr21
def shb22 : List (List V) := [sy39, sy41]
def sha22 : List V := [(.so .h 0 27 27 3), (.so (.o .h) 0 27 27 3)]
def shv22 : V := (.so (.o (.i (.i (.o (.i (.o (.i (.i (.i .h))))))))) 0 25 25 3)
def sho22 : List (Pos × List V) := [((.o (.i (.i (.o (.i (.o (.i (.i (.i .h))))))))), sy42)]
theorem shs22 : stat shb22 sha22 shv22 sho22 = true := by kernel_rfl
theorem shr22 : runOk (un 2 F39 sha22 (mkS shb22) fun v S => some (v, S)) shv22 sho22 = true := by kernel_rfl
theorem shm22 : FOK Tryz.prog 39 (memoF shb22 sha22 shv22 sho22) := memo_ok K39 shs22 shr22
def shb23 : List (List V) := [sy2, sy34]
def sha23 : List V := [(.so .h 0 9 9 3), (.so (.o .h) 0 17 17 3)]
def shv23 : V := (.so (.i (.i (.o (.o (.i (.o (.i (.i (.i (.o (.i .h))))))))))) 0 25 25 3)
def sho23 : List (Pos × List V) := [((.i (.i (.o (.o (.i (.o (.i (.i (.i (.o (.i .h))))))))))), sy43)]
theorem shs23 : stat shb23 sha23 shv23 sho23 = true := by kernel_rfl
theorem shr23 : runOk (un 2 F20 sha23 (mkS shb23) fun v S => some (v, S)) shv23 sho23 = true := by kernel_rfl
theorem shm23 : FOK Tryz.prog 20 (memoF shb23 sha23 shv23 sho23) := memo_ok K20 shs23 shr23
def shb24 : List (List V) := [sy42, sy43]
def sha24 : List V := [(.so .h 0 25 25 3), (.so (.o .h) 0 25 25 3)]
def shv24 : V := (.so (.o (.i (.i (.i (.o (.o (.o (.i (.i .h))))))))) 0 24 24 3)
def sho24 : List (Pos × List V) := [((.o (.i (.i (.i (.o (.o (.o (.i (.i .h))))))))), sy44)]
theorem shs24 : stat shb24 sha24 shv24 sho24 = true := by kernel_rfl
theorem shr24 : runOk (un 2 F39 sha24 (mkS shb24) fun v S => some (v, S)) shv24 sho24 = true := by kernel_rfl
theorem shm24 : FOK Tryz.prog 39 (memoF shb24 sha24 shv24 sho24) := memo_ok K39 shs24 shr24
def shb25 : List (List V) := [sy5, sy34]
def sha25 : List V := [(.so .h 0 8 8 3), (.so (.o .h) 0 17 17 3)]
def shv25 : V := (.so (.o (.i (.i (.o (.o (.o (.i (.o (.o (.o (.i .h))))))))))) 0 24 24 3)
def sho25 : List (Pos × List V) := [((.o (.i (.i (.o (.o (.o (.i (.o (.o (.o (.i .h))))))))))), sy45)]
theorem shs25 : stat shb25 sha25 shv25 sho25 = true := by kernel_rfl
theorem shr25 : runOk (un 2 F20 sha25 (mkS shb25) fun v S => some (v, S)) shv25 sho25 = true := by kernel_rfl
theorem shm25 : FOK Tryz.prog 20 (memoF shb25 sha25 shv25 sho25) := memo_ok K20 shs25 shr25
def shb26 : List (List V) := [sy44, sy45]
def sha26 : List V := [(.so .h 0 24 24 3), (.so (.o .h) 0 24 24 3)]
def shv26 : V := (.so (.o (.i (.i (.i (.o (.o (.o (.i (.i .h))))))))) 0 23 23 3)
def sho26 : List (Pos × List V) := [((.o (.i (.i (.i (.o (.o (.o (.i (.i .h))))))))), sy46)]
theorem shs26 : stat shb26 sha26 shv26 sho26 = true := by kernel_rfl
theorem shr26 : runOk (un 2 F39 sha26 (mkS shb26) fun v S => some (v, S)) shv26 sho26 = true := by kernel_rfl
theorem shm26 : FOK Tryz.prog 39 (memoF shb26 sha26 shv26 sho26) := memo_ok K39 shs26 shr26
def shb27 : List (List V) := [sy47, sy34]
def sha27 : List V := [(.so .h 0 7 7 3), (.so (.o .h) 0 17 17 3)]
def shv27 : V := (.so (.i (.o (.i (.i (.i (.i (.i (.i (.o (.i (.o .h))))))))))) 0 23 23 3)
def sho27 : List (Pos × List V) := [((.i (.o (.i (.i (.i (.i (.i (.i (.o (.i (.o .h))))))))))), sy48)]
theorem shs27 : stat shb27 sha27 shv27 sho27 = true := by kernel_rfl
theorem shr27 : runOk (un 2 F20 sha27 (mkS shb27) fun v S => some (v, S)) shv27 sho27 = true := by kernel_rfl
theorem shm27 : FOK Tryz.prog 20 (memoF shb27 sha27 shv27 sho27) := memo_ok K20 shs27 shr27
def shb28 : List (List V) := [sy46, sy48]
def sha28 : List V := [(.so .h 0 23 23 3), (.so (.o .h) 0 23 23 3)]
def shv28 : V := (.so (.o (.i (.i (.i (.o (.o (.i (.o (.i .h))))))))) 0 22 22 3)
def sho28 : List (Pos × List V) := [((.o (.i (.i (.i (.o (.o (.i (.o (.i .h))))))))), sy49)]
theorem shs28 : stat shb28 sha28 shv28 sho28 = true := by kernel_rfl
theorem shr28 : runOk (un 2 F39 sha28 (mkS shb28) fun v S => some (v, S)) shv28 sho28 = true := by kernel_rfl
theorem shm28 : FOK Tryz.prog 39 (memoF shb28 sha28 shv28 sho28) := memo_ok K39 shs28 shr28
def shb29 : List (List V) := [sy50, sy34]
def sha29 : List V := [(.so .h 0 6 6 3), (.so (.o .h) 0 17 17 3)]
def shv29 : V := (.so (.o (.i (.o (.o (.i (.o (.o (.i (.i (.o (.o .h))))))))))) 0 22 22 3)
def sho29 : List (Pos × List V) := [((.o (.i (.o (.o (.i (.o (.o (.i (.i (.o (.o .h))))))))))), sy51)]
theorem shs29 : stat shb29 sha29 shv29 sho29 = true := by kernel_rfl
theorem shr29 : runOk (un 2 F20 sha29 (mkS shb29) fun v S => some (v, S)) shv29 sho29 = true := by kernel_rfl
theorem shm29 : FOK Tryz.prog 20 (memoF shb29 sha29 shv29 sho29) := memo_ok K20 shs29 shr29
def shb30 : List (List V) := [sy49, sy51]
def sha30 : List V := [(.so .h 0 22 22 3), (.so (.o .h) 0 22 22 3)]
def shv30 : V := (.so (.o (.o (.o (.o (.i (.o (.o (.o (.i .h))))))))) 0 21 21 3)
def sho30 : List (Pos × List V) := [((.o (.o (.o (.o (.i (.o (.o (.o (.i .h))))))))), sy52)]
theorem shs30 : stat shb30 sha30 shv30 sho30 = true := by kernel_rfl
theorem shr30 : runOk (un 2 F39 sha30 (mkS shb30) fun v S => some (v, S)) shv30 sho30 = true := by kernel_rfl
theorem shm30 : FOK Tryz.prog 39 (memoF shb30 sha30 shv30 sho30) := memo_ok K39 shs30 shr30
def shb31 : List (List V) := [sy53, sy34]
def sha31 : List V := [(.so .h 0 5 5 3), (.so (.o .h) 0 17 17 3)]
def shv31 : V := (.so (.i (.o (.i (.o (.o (.o (.o (.o (.o (.o (.o .h))))))))))) 0 21 21 3)
def sho31 : List (Pos × List V) := [((.i (.o (.i (.o (.o (.o (.o (.o (.o (.o (.o .h))))))))))), sy54)]
theorem shs31 : stat shb31 sha31 shv31 sho31 = true := by kernel_rfl
theorem shr31 : runOk (un 2 F20 sha31 (mkS shb31) fun v S => some (v, S)) shv31 sho31 = true := by kernel_rfl
theorem shm31 : FOK Tryz.prog 20 (memoF shb31 sha31 shv31 sho31) := memo_ok K20 shs31 shr31
end
end Go.AM
