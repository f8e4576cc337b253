/- Polynomials: the law returns true at all arguments. -/
import Derived.Test.YtndgeimkifdifaaGreatMFP0
import Derived.Test.YtndgeimkifdifaaGreatMFP1
import Derived.Test.YtndgeimkifdifaaGreatMFP2
import Derived.Test.YtndgeimkifdifaaGreatMFP3
import Derived.Test.YtndgeimkifdifaaGreatMFP4
import Derived.Test.YtndgeimkifdifaaGreatMFP5
import Derived.Test.YtndgeimkifdifaaGreatMFP6
import Derived.Test.YtndgeimkifdifaaGreatMFP7
import Derived.Test.YtndgeimkifdifaaGreatMFP8
import Derived.Test.YtndgeimkifdifaaGreatMFP9
import Derived.Test.YtndgeimkifdifaaGreatMFP10
import Derived.Test.YtndgeimkifdifaaGreatMFP11
import Derived.Test.YtndgeimkifdifaaGreatMFP12
import Derived.Test.YtndgeimkifdifaaGreatMFP13
import Derived.Test.YtndgeimkifdifaaGreatMFP14
import Derived.Test.YtndgeimkifdifaaGreatMFP15
set_option linter.unusedVariables false
set_option linter.unusedSimpArgs false
set_option maxRecDepth 100000
namespace Go.AM
open Go.Proofs
open Go.AM.Q
noncomputable section
theorem neq3 (c : V → R) : pNeq (nn 3) (nn 0) c = c (.b true) := by rfl
theorem eql3 (c : V → R) : pEql (nn 3) (nn 3) c = c (.b true) := by rfl
theorem eql0 (c : V → R) : pEql (nn 0) (nn 0) c = c (.b true) := by rfl
theorem len0 (c : V → R) : pLen .sn c = c (nn 0) := by rfl
theorem ext0 (a b : V) (c : V → R) : pExt (.tu [a, b]) 0 c = c a := by rfl
theorem ext1 (a b : V) (c : V → R) : pExt (.tu [a, b]) 1 c = c b := by rfl
theorem notT (c : V → R) : pNot (.b true) c = c (.b false) := by rfl
theorem bad12 (f64 : Gn 2) (f65 : Gn 1) (f66 : Gn 1) (x : V) (hx : ∀ k, cellsK x k = k [x]) (h : ∀ m (S : St) c, f64 m (.sl S.nx 0 1 1) (S.new [x]) c = c (nn 3) (S.new [x])) (S : St) (k : Cont) : G12 (C12 f64 f65 f66) x S k = k (.tu [.sn, nn 3]) (S.new [x]) := by
  simp only [G12, C12, cSeq, cReg, cCond, cBlock, cSkip, cExit, cRet, pBsl1_eq hx, h, neq3, ifT]
theorem bad13 (f64 : Gn 2) (f67 : Gn 1) (x : V) (hx : ∀ k, cellsK x k = k [x]) (h : ∀ m (S : St) c, f64 m (.sl S.nx 0 1 1) (S.new [x]) c = c (nn 3) (S.new [x])) (S : St) (k : Cont) : G13 (C13 f64 f67) x S k = k (.tu [.sn, nn 3]) (S.new [x]) := by
  simp only [G13, C13, cSeq, cReg, cCond, cBlock, cSkip, cExit, cRet, pBsl1_eq hx, h, neq3, ifT]
theorem bad14 (f39 : Gn 2) (f68 : Gn 1) (t : List (Nat × Fun)) (w : V) (S : St) (k : Cont) : G14 (C14 f39 f68 t) .sn (nn 3) (nn 3) w S k = k (.b true) S := by
  simp only [G14, C14, cSeq, cReg, cCond, cBlock, cSkip, cExit, cRet, neq3, eql3, eql0, len0, pGd_tt, pPick_t, ifT]
theorem ld0 (x : V) (c : V → R) : pLd (.p S0.nx 0) (S0.new [x]) c = c x := by rfl
theorem ld1 (x : V) (c : V → R) : pLd (.p S0.nx 0) ((S0.new [x]).new [x]) c = c x := by rfl
theorem ld2 (x : V) (c : V → R) : pLd (.p S0.nx 0) (((S0.new [x]).new [x]).new [x]) c = c x := by rfl
theorem fin_yes (S : St) : yesB (fin (.b true) S) = true := by rfl
theorem bad3 (f12 : Gn 1) (f13 : Gn 1) (f14 : Gn 4) (f15 : Gn 2) (f18 : Gn 0) (f19 : Gn 2) (f20 : Gn 1) (x : V) (hx : ∀ k, cellsK x k = k [x]) (h12 : ∀ S c, f12 x S c = c (.tu [.sn, nn 3]) (S.new [x])) (h13 : ∀ S c, f13 x S c = c (.tu [.sn, nn 3]) (S.new [x])) (h14 : ∀ w S c, f14 .sn (nn 3) (nn 3) w S c = c (.b true) S) (h15 : ∀ m S c, f15 x m S c = c (nn 3) S) (h18 : ∀ S c, f18 S c = c (.b true) S) : yesB (G3 (C3 f12 f13 f14 f15 f18 f19 f20) x S0 fin) = true := by
  simp only [G3, C3, cSeq, cReg, cCond, cBlock, cSkip, cExit, cRet, pBox_eq hx, ld0, ld1, ld2, h12, h13, h14, h15, h18, ext0, ext1, notT, neq3, eql3, eql0, len0, pGd_tt, pPick_t, ifT, ifF, fin_yes]
theorem say_eq (S : St) (c : Cont) : sayT S c = c (.b true) S := by rfl
theorem bad_law {n : Nat} (h : Bad n) : yesB (F3h (nn n) S0 fin) = true := by
  have e64 : ∀ m (S : St) c, F64h m (.sl S.nx 0 1 1) (S.new [nn n]) c = c (nn 3) (S.new [nn n]) := fun m S c => err64 F67h h m S c
  have hx : ∀ k, cellsK (nn n) k = k [nn n] := fun k => cellsK_i _ _ k
  refine bad3 (hx := hx) (h12 := fun S c => ?_) (h13 := fun S c => ?_) (h14 := fun w S c => ?_) (h15 := fun m S c => ?_) (h18 := fun S c => ?_) ..
  · exact bad12 (hx := hx) (h := e64) ..
  · exact bad13 (hx := hx) (h := e64) ..
  · exact bad14 ..
  · exact cond_err F34 m S c h
  · exact say_eq S c
theorem alln : ∀ n, 1 ≤ n → n ≤ 256 → yesB (F3h (nn n) S0 fin) = true
  | 0, h, _ => absurd h (by omega)
  | 1, _, _ => pr1
  | 2, _, _ => pr2
  | 3, _, _ => pr3
  | 4, _, _ => pr4
  | 5, _, _ => pr5
  | 6, _, _ => pr6
  | 7, _, _ => pr7
  | 8, _, _ => pr8
  | 9, _, _ => pr9
  | 10, _, _ => pr10
  | 11, _, _ => pr11
  | 12, _, _ => pr12
  | 13, _, _ => pr13
  | 14, _, _ => pr14
  | 15, _, _ => pr15
  | 16, _, _ => pr16
  | 17, _, _ => pr17
  | 18, _, _ => pr18
  | 19, _, _ => pr19
  | 20, _, _ => pr20
  | 21, _, _ => pr21
  | 22, _, _ => pr22
  | 23, _, _ => pr23
  | 24, _, _ => pr24
  | 25, _, _ => pr25
  | 26, _, _ => pr26
  | 27, _, _ => pr27
  | 28, _, _ => pr28
  | 29, _, _ => pr29
  | 30, _, _ => pr30
  | 31, _, _ => pr31
  | 32, _, _ => pr32
  | 33, _, _ => pr33
  | 34, _, _ => pr34
  | 35, _, _ => pr35
  | 36, _, _ => pr36
  | 37, _, _ => pr37
  | 38, _, _ => pr38
  | 39, _, _ => pr39
  | 40, _, _ => pr40
  | 41, _, _ => pr41
  | 42, _, _ => pr42
  | 43, _, _ => pr43
  | 44, _, _ => pr44
  | 45, _, _ => pr45
  | 46, _, _ => pr46
  | 47, _, _ => pr47
  | 48, _, _ => pr48
  | 49, _, _ => pr49
  | 50, _, _ => pr50
  | 51, _, _ => pr51
  | 52, _, _ => pr52
  | 53, _, _ => pr53
  | 54, _, _ => pr54
  | 55, _, _ => pr55
  | 56, _, _ => pr56
  | 57, _, _ => pr57
  | 58, _, _ => pr58
  | 59, _, _ => pr59
  | 60, _, _ => pr60
  | 61, _, _ => pr61
  | 62, _, _ => pr62
  | 63, _, _ => pr63
  | 64, _, _ => pr64
  | 65, _, _ => pr65
  | 66, _, _ => pr66
  | 67, _, _ => pr67
  | 68, _, _ => pr68
  | 69, _, _ => pr69
  | 70, _, _ => pr70
  | 71, _, _ => pr71
  | 72, _, _ => pr72
  | 73, _, _ => pr73
  | 74, _, _ => pr74
  | 75, _, _ => pr75
  | 76, _, _ => pr76
  | 77, _, _ => pr77
  | 78, _, _ => pr78
  | 79, _, _ => pr79
  | 80, _, _ => pr80
  | 81, _, _ => pr81
  | 82, _, _ => pr82
  | 83, _, _ => pr83
  | 84, _, _ => pr84
  | 85, _, _ => pr85
  | 86, _, _ => pr86
  | 87, _, _ => pr87
  | 88, _, _ => pr88
  | 89, _, _ => pr89
  | 90, _, _ => pr90
  | 91, _, _ => pr91
  | 92, _, _ => pr92
  | 93, _, _ => pr93
  | 94, _, _ => pr94
  | 95, _, _ => pr95
  | 96, _, _ => pr96
  | 97, _, _ => pr97
  | 98, _, _ => pr98
  | 99, _, _ => pr99
  | 100, _, _ => pr100
  | 101, _, _ => pr101
  | 102, _, _ => pr102
  | 103, _, _ => pr103
  | 104, _, _ => pr104
  | 105, _, _ => pr105
  | 106, _, _ => pr106
  | 107, _, _ => pr107
  | 108, _, _ => pr108
  | 109, _, _ => pr109
  | 110, _, _ => pr110
  | 111, _, _ => pr111
  | 112, _, _ => pr112
  | 113, _, _ => pr113
  | 114, _, _ => pr114
  | 115, _, _ => pr115
  | 116, _, _ => pr116
  | 117, _, _ => pr117
  | 118, _, _ => pr118
  | 119, _, _ => pr119
  | 120, _, _ => pr120
  | 121, _, _ => pr121
  | 122, _, _ => pr122
  | 123, _, _ => pr123
  | 124, _, _ => pr124
  | 125, _, _ => pr125
  | 126, _, _ => pr126
  | 127, _, _ => pr127
  | 128, _, _ => pr128
  | 129, _, _ => pr129
  | 130, _, _ => pr130
  | 131, _, _ => pr131
  | 132, _, _ => pr132
  | 133, _, _ => pr133
  | 134, _, _ => pr134
  | 135, _, _ => pr135
  | 136, _, _ => pr136
  | 137, _, _ => pr137
  | 138, _, _ => pr138
  | 139, _, _ => pr139
  | 140, _, _ => pr140
  | 141, _, _ => pr141
  | 142, _, _ => pr142
  | 143, _, _ => pr143
  | 144, _, _ => pr144
  | 145, _, _ => pr145
  | 146, _, _ => pr146
  | 147, _, _ => pr147
  | 148, _, _ => pr148
  | 149, _, _ => pr149
  | 150, _, _ => pr150
  | 151, _, _ => pr151
  | 152, _, _ => pr152
  | 153, _, _ => pr153
  | 154, _, _ => pr154
  | 155, _, _ => pr155
  | 156, _, _ => pr156
  | 157, _, _ => pr157
  | 158, _, _ => pr158
  | 159, _, _ => pr159
  | 160, _, _ => pr160
  | 161, _, _ => pr161
  | 162, _, _ => pr162
  | 163, _, _ => pr163
  | 164, _, _ => pr164
  | 165, _, _ => pr165
  | 166, _, _ => pr166
  | 167, _, _ => pr167
  | 168, _, _ => pr168
  | 169, _, _ => pr169
  | 170, _, _ => pr170
  | 171, _, _ => pr171
  | 172, _, _ => pr172
  | 173, _, _ => pr173
  | 174, _, _ => pr174
  | 175, _, _ => pr175
  | 176, _, _ => pr176
  | 177, _, _ => pr177
  | 178, _, _ => pr178
  | 179, _, _ => pr179
  | 180, _, _ => pr180
  | 181, _, _ => pr181
  | 182, _, _ => pr182
  | 183, _, _ => pr183
  | 184, _, _ => pr184
  | 185, _, _ => pr185
  | 186, _, _ => pr186
  | 187, _, _ => pr187
  | 188, _, _ => pr188
  | 189, _, _ => pr189
  | 190, _, _ => pr190
  | 191, _, _ => pr191
  | 192, _, _ => pr192
  | 193, _, _ => pr193
  | 194, _, _ => pr194
  | 195, _, _ => pr195
  | 196, _, _ => pr196
  | 197, _, _ => pr197
  | 198, _, _ => pr198
  | 199, _, _ => pr199
  | 200, _, _ => pr200
  | 201, _, _ => pr201
  | 202, _, _ => pr202
  | 203, _, _ => pr203
  | 204, _, _ => pr204
  | 205, _, _ => pr205
  | 206, _, _ => pr206
  | 207, _, _ => pr207
  | 208, _, _ => pr208
  | 209, _, _ => pr209
  | 210, _, _ => pr210
  | 211, _, _ => pr211
  | 212, _, _ => pr212
  | 213, _, _ => pr213
  | 214, _, _ => pr214
  | 215, _, _ => pr215
  | 216, _, _ => pr216
  | 217, _, _ => pr217
  | 218, _, _ => pr218
  | 219, _, _ => pr219
  | 220, _, _ => pr220
  | 221, _, _ => pr221
  | 222, _, _ => pr222
  | 223, _, _ => pr223
  | 224, _, _ => pr224
  | 225, _, _ => pr225
  | 226, _, _ => pr226
  | 227, _, _ => pr227
  | 228, _, _ => pr228
  | 229, _, _ => pr229
  | 230, _, _ => pr230
  | 231, _, _ => pr231
  | 232, _, _ => pr232
  | 233, _, _ => pr233
  | 234, _, _ => pr234
  | 235, _, _ => pr235
  | 236, _, _ => pr236
  | 237, _, _ => pr237
  | 238, _, _ => pr238
  | 239, _, _ => pr239
  | 240, _, _ => pr240
  | 241, _, _ => pr241
  | 242, _, _ => pr242
  | 243, _, _ => pr243
  | 244, _, _ => pr244
  | 245, _, _ => pr245
  | 246, _, _ => pr246
  | 247, _, _ => pr247
  | 248, _, _ => pr248
  | 249, _, _ => pr249
  | 250, _, _ => pr250
  | 251, _, _ => pr251
  | 252, _, _ => pr252
  | 253, _, _ => pr253
  | 254, _, _ => pr254
  | 255, _, _ => pr255
  | 256, _, _ => pr256
  | n + 257, _, h => absurd h (by omega)

theorem walkCyclotomicPolynomials (a : Int) (W : World) (wa : (Lit.int .i64 a).wf = true) : Calls Tryz.prog 3 #[.int .i64 a] W fun e w' => e = .returned (.bool true) ∧ Go.RowKit.Below W.heap.size W w' := by
  have hv : VRs (fun _ => none) [.i .i64 (a % (M .i64 : Int)).toNat] (#[.int .i64 a] : Array Value).toList := .cons _ _ _ _ (vr_wf wa) .nil
  have hn : (a % (M .i64 : Int)).toNat < 18446744073709551616 := by
    have h0 := Int.emod_nonneg a (b := (M .i64 : Int)) (by decide)
    have h1 := Int.emod_lt_of_pos a (b := (M .i64 : Int)) (by decide)
    have h2 : (M .i64 : Int) = 18446744073709551616 := by decide
    omega
  generalize (a % (M .i64 : Int)).toNat = n at hv hn
  refine top_calls Tryz.func3 (by kernel_rfl) (by kernel_rfl) K3h _ _ hv ?_ W
  rw [un1]
  by_cases h : 1 ≤ n ∧ n ≤ 256
  · exact alln n h.1 h.2
  · exact bad_law ⟨hn, h⟩
end
end Go.AM
