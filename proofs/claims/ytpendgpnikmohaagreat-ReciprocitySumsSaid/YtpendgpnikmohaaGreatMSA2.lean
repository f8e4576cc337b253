/- Products and differences of the reference, by their runs. -/
import Derived.Test.YtpendgpnikmohaaGreatMSD
set_option maxRecDepth 1000000
set_option linter.unusedVariables false
namespace Go.AM
open Go.Proofs
noncomputable section
def shb63 : List (List V) := [sy95, sy96]
def sha63 : List V := [(.so .h 0 15 15 3), (.so (.o .h) 0 23 23 3)]
def shv63 : V := (.so (.i (.i (.i (.o (.i (.o (.o (.o (.o (.i (.i (.i .h)))))))))))) 0 37 37 3)
def sho63 : List (Pos × List V) := [((.i (.i (.i (.o (.i (.o (.o (.o (.o (.i (.i (.i .h)))))))))))), sy97)]
theorem shs63 : stat shb63 sha63 shv63 sho63 = true := by kernel_rfl
theorem shr63 : runOk (un 2 F20 sha63 (mkS shb63) fun v S => some (v, S)) shv63 sho63 = true := by kernel_rfl
theorem shm63 : FOK Tryz.prog 20 (memoF shb63 sha63 shv63 sho63) := memo_ok K20 shs63 shr63
def shb64 : List (List V) := [sy94, sy97]
def sha64 : List V := [(.so .h 0 37 37 3), (.so (.o .h) 0 37 37 3)]
def shv64 : V := (.so (.o (.i (.i (.i (.o (.o (.i (.o (.i (.o .h)))))))))) 0 36 36 3)
def sho64 : List (Pos × List V) := [((.o (.i (.i (.i (.o (.o (.i (.o (.i (.o .h)))))))))), sy98)]
theorem shs64 : stat shb64 sha64 shv64 sho64 = true := by kernel_rfl
theorem shr64 : runOk (un 2 F39 sha64 (mkS shb64) fun v S => some (v, S)) shv64 sho64 = true := by kernel_rfl
theorem shm64 : FOK Tryz.prog 39 (memoF shb64 sha64 shv64 sho64) := memo_ok K39 shs64 shr64
def shb65 : List (List V) := [sy75, sy96]
def sha65 : List V := [(.so .h 0 14 14 3), (.so (.o .h) 0 23 23 3)]
def shv65 : V := (.so (.o (.o (.o (.o (.o (.o (.o (.o (.o (.o (.i (.i .h)))))))))))) 0 36 36 3)
def sho65 : List (Pos × List V) := [((.o (.o (.o (.o (.o (.o (.o (.o (.o (.o (.i (.i .h)))))))))))), sy99)]
theorem shs65 : stat shb65 sha65 shv65 sho65 = true := by kernel_rfl
theorem shr65 : runOk (un 2 F20 sha65 (mkS shb65) fun v S => some (v, S)) shv65 sho65 = true := by kernel_rfl
theorem shm65 : FOK Tryz.prog 20 (memoF shb65 sha65 shv65 sho65) := memo_ok K20 shs65 shr65
def shb66 : List (List V) := [sy98, sy99]
def sha66 : List V := [(.so .h 0 36 36 3), (.so (.o .h) 0 36 36 3)]
def shv66 : V := (.so (.o (.i (.i (.o (.i (.o (.i (.o (.i (.o .h)))))))))) 0 35 35 3)
def sho66 : List (Pos × List V) := [((.o (.i (.i (.o (.i (.o (.i (.o (.i (.o .h)))))))))), sy100)]
theorem shs66 : stat shb66 sha66 shv66 sho66 = true := by kernel_rfl
theorem shr66 : runOk (un 2 F39 sha66 (mkS shb66) fun v S => some (v, S)) shv66 sho66 = true := by kernel_rfl
theorem shm66 : FOK Tryz.prog 39 (memoF shb66 sha66 shv66 sho66) := memo_ok K39 shs66 shr66
def shb67 : List (List V) := [sy101, sy96]
def sha67 : List V := [(.so .h 0 13 13 3), (.so (.o .h) 0 23 23 3)]
def shv67 : V := (.so (.i (.o (.i (.o (.o (.o (.i (.o (.o (.i (.o (.i .h)))))))))))) 0 35 35 3)
def sho67 : List (Pos × List V) := [((.i (.o (.i (.o (.o (.o (.i (.o (.o (.i (.o (.i .h)))))))))))), sy102)]
theorem shs67 : stat shb67 sha67 shv67 sho67 = true := by kernel_rfl
theorem shr67 : runOk (un 2 F20 sha67 (mkS shb67) fun v S => some (v, S)) shv67 sho67 = true := by kernel_rfl
theorem shm67 : FOK Tryz.prog 20 (memoF shb67 sha67 shv67 sho67) := memo_ok K20 shs67 shr67
def shb68 : List (List V) := [sy100, sy102]
def sha68 : List V := [(.so .h 0 35 35 3), (.so (.o .h) 0 35 35 3)]
def shv68 : V := (.so (.o (.o (.i (.o (.o (.o (.o (.o (.i (.o .h)))))))))) 0 34 34 3)
def sho68 : List (Pos × List V) := [((.o (.o (.i (.o (.o (.o (.o (.o (.i (.o .h)))))))))), sy103)]
theorem shs68 : stat shb68 sha68 shv68 sho68 = true := by kernel_rfl
theorem shr68 : runOk (un 2 F39 sha68 (mkS shb68) fun v S => some (v, S)) shv68 sho68 = true := by kernel_rfl
theorem shm68 : FOK Tryz.prog 39 (memoF shb68 sha68 shv68 sho68) := memo_ok K39 shs68 shr68
def shb69 : List (List V) := [sy104, sy96]
def sha69 : List V := [(.so .h 0 12 12 3), (.so (.o .h) 0 23 23 3)]
def shv69 : V := (.so (.o (.i (.i (.i (.o (.i (.o (.o (.o (.o (.o (.i .h)))))))))))) 0 34 34 3)
def sho69 : List (Pos × List V) := [((.o (.i (.i (.i (.o (.i (.o (.o (.o (.o (.o (.i .h)))))))))))), sy105)]
theorem shs69 : stat shb69 sha69 shv69 sho69 = true := by kernel_rfl
theorem shr69 : runOk (un 2 F20 sha69 (mkS shb69) fun v S => some (v, S)) shv69 sho69 = true := by kernel_rfl
theorem shm69 : FOK Tryz.prog 20 (memoF shb69 sha69 shv69 sho69) := memo_ok K20 shs69 shr69
def shb70 : List (List V) := [sy103, sy105]
def sha70 : List V := [(.so .h 0 34 34 3), (.so (.o .h) 0 34 34 3)]
def shv70 : V := (.so (.o (.o (.i (.i (.o (.o (.o (.o (.i (.o .h)))))))))) 0 33 33 3)
def sho70 : List (Pos × List V) := [((.o (.o (.i (.i (.o (.o (.o (.o (.i (.o .h)))))))))), sy106)]
theorem shs70 : stat shb70 sha70 shv70 sho70 = true := by kernel_rfl
theorem shr70 : runOk (un 2 F39 sha70 (mkS shb70) fun v S => some (v, S)) shv70 sho70 = true := by kernel_rfl
theorem shm70 : FOK Tryz.prog 39 (memoF shb70 sha70 shv70 sho70) := memo_ok K39 shs70 shr70
def shb71 : List (List V) := [sy13, sy96]
def sha71 : List V := [(.so .h 0 11 11 3), (.so (.o .h) 0 23 23 3)]
def shv71 : V := (.so (.i (.i (.o (.o (.i (.i (.i (.o (.o (.i (.i (.o .h)))))))))))) 0 33 33 3)
def sho71 : List (Pos × List V) := [((.i (.i (.o (.o (.i (.i (.i (.o (.o (.i (.i (.o .h)))))))))))), sy107)]
theorem shs71 : stat shb71 sha71 shv71 sho71 = true := by kernel_rfl
theorem shr71 : runOk (un 2 F20 sha71 (mkS shb71) fun v S => some (v, S)) shv71 sho71 = true := by kernel_rfl
theorem shm71 : FOK Tryz.prog 20 (memoF shb71 sha71 shv71 sho71) := memo_ok K20 shs71 shr71
def shb72 : List (List V) := [sy106, sy107]
def sha72 : List V := [(.so .h 0 33 33 3), (.so (.o .h) 0 33 33 3)]
def shv72 : V := (.so (.o (.o (.i (.i (.o (.o (.i (.i (.o (.o .h)))))))))) 0 32 32 3)
def sho72 : List (Pos × List V) := [((.o (.o (.i (.i (.o (.o (.i (.i (.o (.o .h)))))))))), sy108)]
theorem shs72 : stat shb72 sha72 shv72 sho72 = true := by kernel_rfl
theorem shr72 : runOk (un 2 F39 sha72 (mkS shb72) fun v S => some (v, S)) shv72 sho72 = true := by kernel_rfl
theorem shm72 : FOK Tryz.prog 39 (memoF shb72 sha72 shv72 sho72) := memo_ok K39 shs72 shr72
def shb73 : List (List V) := [sy109, sy96]
def sha73 : List V := [(.so .h 0 10 10 3), (.so (.o .h) 0 23 23 3)]
def shv73 : V := (.so (.o (.i (.o (.i (.o (.o (.o (.i (.o (.o (.i (.o .h)))))))))))) 0 32 32 3)
def sho73 : List (Pos × List V) := [((.o (.i (.o (.i (.o (.o (.o (.i (.o (.o (.i (.o .h)))))))))))), sy110)]
theorem shs73 : stat shb73 sha73 shv73 sho73 = true := by kernel_rfl
theorem shr73 : runOk (un 2 F20 sha73 (mkS shb73) fun v S => some (v, S)) shv73 sho73 = true := by kernel_rfl
theorem shm73 : FOK Tryz.prog 20 (memoF shb73 sha73 shv73 sho73) := memo_ok K20 shs73 shr73
def shb74 : List (List V) := [sy108, sy110]
def sha74 : List V := [(.so .h 0 32 32 3), (.so (.o .h) 0 32 32 3)]
def shv74 : V := (.so (.o (.i (.i (.i (.o (.i (.o (.i (.o (.o .h)))))))))) 0 27 27 3)
def sho74 : List (Pos × List V) := [((.o (.i (.i (.i (.o (.i (.o (.i (.o (.o .h)))))))))), sy111)]
theorem shs74 : stat shb74 sha74 shv74 sho74 = true := by kernel_rfl
theorem shr74 : runOk (un 2 F39 sha74 (mkS shb74) fun v S => some (v, S)) shv74 sho74 = true := by kernel_rfl
theorem shm74 : FOK Tryz.prog 39 (memoF shb74 sha74 shv74 sho74) := memo_ok K39 shs74 shr74
def shb75 : List (List V) := [sy23, sy96]
def sha75 : List V := [(.so .h 0 5 5 3), (.so (.o .h) 0 23 23 3)]
def shv75 : V := (.so (.i (.o (.i (.i (.i (.i (.i (.i (.o (.i (.o .h))))))))))) 0 27 27 3)
def sho75 : List (Pos × List V) := [((.i (.o (.i (.i (.i (.i (.i (.i (.o (.i (.o .h))))))))))), sy112)]
theorem shs75 : stat shb75 sha75 shv75 sho75 = true := by kernel_rfl
theorem shr75 : runOk (un 2 F20 sha75 (mkS shb75) fun v S => some (v, S)) shv75 sho75 = true := by kernel_rfl
theorem shm75 : FOK Tryz.prog 20 (memoF shb75 sha75 shv75 sho75) := memo_ok K20 shs75 shr75
def shb76 : List (List V) := [sy111, sy112]
def sha76 : List V := [(.so .h 0 27 27 3), (.so (.o .h) 0 27 27 3)]
def shv76 : V := (.so (.o (.o (.i (.o (.o (.o (.o (.o (.o (.o .h)))))))))) 0 26 26 3)
def sho76 : List (Pos × List V) := [((.o (.o (.i (.o (.o (.o (.o (.o (.o (.o .h)))))))))), sy113)]
theorem shs76 : stat shb76 sha76 shv76 sho76 = true := by kernel_rfl
theorem shr76 : runOk (un 2 F39 sha76 (mkS shb76) fun v S => some (v, S)) shv76 sho76 = true := by kernel_rfl
theorem shm76 : FOK Tryz.prog 39 (memoF shb76 sha76 shv76 sho76) := memo_ok K39 shs76 shr76
def shb77 : List (List V) := [sy56, sy96]
def sha77 : List V := [(.so .h 0 4 4 3), (.so (.o .h) 0 23 23 3)]
def shv77 : V := (.so (.o (.o (.i (.o (.i (.o (.o (.o (.i (.o (.o .h))))))))))) 0 26 26 3)
def sho77 : List (Pos × List V) := [((.o (.o (.i (.o (.i (.o (.o (.o (.i (.o (.o .h))))))))))), sy114)]
theorem shs77 : stat shb77 sha77 shv77 sho77 = true := by kernel_rfl
theorem shr77 : runOk (un 2 F20 sha77 (mkS shb77) fun v S => some (v, S)) shv77 sho77 = true := by kernel_rfl
theorem shm77 : FOK Tryz.prog 20 (memoF shb77 sha77 shv77 sho77) := memo_ok K20 shs77 shr77
def shb78 : List (List V) := [sy113, sy114]
def sha78 : List V := [(.so .h 0 26 26 3), (.so (.o .h) 0 26 26 3)]
def shv78 : V := (.so (.o (.i (.o (.o (.o (.i (.i (.i (.i .h))))))))) 0 25 25 3)
def sho78 : List (Pos × List V) := [((.o (.i (.o (.o (.o (.i (.i (.i (.i .h))))))))), sy115)]
theorem shs78 : stat shb78 sha78 shv78 sho78 = true := by kernel_rfl
theorem shr78 : runOk (un 2 F39 sha78 (mkS shb78) fun v S => some (v, S)) shv78 sho78 = true := by kernel_rfl
theorem shm78 : FOK Tryz.prog 39 (memoF shb78 sha78 shv78 sho78) := memo_ok K39 shs78 shr78
def shb79 : List (List V) := [sy27, sy96]
def sha79 : List V := [(.so .h 0 3 3 3), (.so (.o .h) 0 23 23 3)]
def shv79 : V := (.so (.i (.i (.o (.i (.o (.i (.o (.o (.i (.i .h)))))))))) 0 25 25 3)
def sho79 : List (Pos × List V) := [((.i (.i (.o (.i (.o (.i (.o (.o (.i (.i .h)))))))))), sy116)]
theorem shs79 : stat shb79 sha79 shv79 sho79 = true := by kernel_rfl
theorem shr79 : runOk (un 2 F20 sha79 (mkS shb79) fun v S => some (v, S)) shv79 sho79 = true := by kernel_rfl
theorem shm79 : FOK Tryz.prog 20 (memoF shb79 sha79 shv79 sho79) := memo_ok K20 shs79 shr79
def shb80 : List (List V) := [sy115, sy116]
def sha80 : List V := [(.so .h 0 25 25 3), (.so (.o .h) 0 25 25 3)]
def shv80 : V := (.so (.o (.o (.o (.o (.o (.o (.i (.i (.i .h))))))))) 0 24 24 3)
def sho80 : List (Pos × List V) := [((.o (.o (.o (.o (.o (.o (.i (.i (.i .h))))))))), sy117)]
theorem shs80 : stat shb80 sha80 shv80 sho80 = true := by kernel_rfl
theorem shr80 : runOk (un 2 F39 sha80 (mkS shb80) fun v S => some (v, S)) shv80 sho80 = true := by kernel_rfl
theorem shm80 : FOK Tryz.prog 39 (memoF shb80 sha80 shv80 sho80) := memo_ok K39 shs80 shr80
def shb81 : List (List V) := [sy118, sy96]
def sha81 : List V := [(.so .h 0 2 2 3), (.so (.o .h) 0 23 23 3)]
def shv81 : V := (.so (.o (.o (.i (.o (.i (.o (.o (.o (.i (.o .h)))))))))) 0 24 24 3)
def sho81 : List (Pos × List V) := [((.o (.o (.i (.o (.i (.o (.o (.o (.i (.o .h)))))))))), sy119)]
theorem shs81 : stat shb81 sha81 shv81 sho81 = true := by kernel_rfl
theorem shr81 : runOk (un 2 F20 sha81 (mkS shb81) fun v S => some (v, S)) shv81 sho81 = true := by kernel_rfl
theorem shm81 : FOK Tryz.prog 20 (memoF shb81 sha81 shv81 sho81) := memo_ok K20 shs81 shr81
def shb82 : List (List V) := [sy117, sy119]
def sha82 : List V := [(.so .h 0 24 24 3), (.so (.o .h) 0 24 24 3)]
def shv82 : V := (.so (.o (.o (.o (.i (.o (.o (.i (.i (.i .h))))))))) 0 23 23 3)
def sho82 : List (Pos × List V) := [((.o (.o (.o (.i (.o (.o (.i (.i (.i .h))))))))), sy120)]
theorem shs82 : stat shb82 sha82 shv82 sho82 = true := by kernel_rfl
theorem shr82 : runOk (un 2 F39 sha82 (mkS shb82) fun v S => some (v, S)) shv82 sho82 = true := by kernel_rfl
theorem shm82 : FOK Tryz.prog 39 (memoF shb82 sha82 shv82 sho82) := memo_ok K39 shs82 shr82
def shb83 : List (List V) := [[(.b false), (.s [24]), (.s [1])], sy96]
def sha83 : List V := [(.so .h 0 1 1 3), (.so (.o .h) 0 23 23 3)]
def shv83 : V := (.so (.i (.o (.o (.i (.i (.o (.i (.o (.i .h))))))))) 0 23 23 3)
def sho83 : List (Pos × List V) := [((.i (.o (.o (.i (.i (.o (.i (.o (.i .h))))))))), sy121)]
theorem shs83 : stat shb83 sha83 shv83 sho83 = true := by kernel_rfl
theorem shr83 : runOk (un 2 F20 sha83 (mkS shb83) fun v S => some (v, S)) shv83 sho83 = true := by kernel_rfl
theorem shm83 : FOK Tryz.prog 20 (memoF shb83 sha83 shv83 sho83) := memo_ok K20 shs83 shr83
def shb84 : List (List V) := [sy120, sy121]
def sha84 : List V := [(.so .h 0 23 23 3), (.so (.o .h) 0 23 23 3)]
def shv84 : V := (.so (.o (.i (.o (.i (.i (.i (.i (.o (.i .h))))))))) 0 1 1 3)
def sho84 : List (Pos × List V) := [((.o (.i (.o (.i (.i (.i (.i (.o (.i .h))))))))), [(.b true), (.s [23]), (.s [1])])]
theorem shs84 : stat shb84 sha84 shv84 sho84 = true := by kernel_rfl
theorem shr84 : runOk (un 2 F39 sha84 (mkS shb84) fun v S => some (v, S)) shv84 sho84 = true := by kernel_rfl
theorem shm84 : FOK Tryz.prog 39 (memoF shb84 sha84 shv84 sho84) := memo_ok K39 shs84 shr84
def shb85 : List (List V) := [[(.b true), (.s [1]), (.s [1])], sy96]
def sha85 : List V := [(.so .h 0 1 1 3), (.so (.o .h) 0 23 23 3)]
def shv85 : V := (.so (.i (.i (.o (.i (.o (.i (.o (.o (.i .h))))))))) 0 23 23 3)
def sho85 : List (Pos × List V) := [((.i (.i (.o (.i (.o (.i (.o (.o (.i .h))))))))), sy122)]
theorem shs85 : stat shb85 sha85 shv85 sho85 = true := by kernel_rfl
theorem shr85 : runOk (un 2 F20 sha85 (mkS shb85) fun v S => some (v, S)) shv85 sho85 = true := by kernel_rfl
theorem shm85 : FOK Tryz.prog 20 (memoF shb85 sha85 shv85 sho85) := memo_ok K20 shs85 shr85
def shb86 : List (List V) := [sy123, sy122]
def sha86 : List V := [(.so .h 0 23 23 3), (.so (.o .h) 0 23 23 3)]
def shv86 : V := (.so (.o (.i (.o (.o (.o (.o (.o (.i (.i .h))))))))) 0 19 19 3)
def sho86 : List (Pos × List V) := [((.o (.i (.o (.o (.o (.o (.o (.i (.i .h))))))))), sy124)]
theorem shs86 : stat shb86 sha86 shv86 sho86 = true := by kernel_rfl
theorem shr86 : runOk (un 2 F39 sha86 (mkS shb86) fun v S => some (v, S)) shv86 sho86 = true := by kernel_rfl
theorem shm86 : FOK Tryz.prog 39 (memoF shb86 sha86 shv86 sho86) := memo_ok K39 shs86 shr86
end
end Go.AM
