/- Resultants: the law returns true at all arguments. -/
import Derived.Test.YtpendgpnikmohaaGreatXQr
import Derived.Test.YtpendgpnikmohaaGreatMUR0
import Derived.Test.YtpendgpnikmohaaGreatMUR1
import Derived.Test.YtpendgpnikmohaaGreatMUR2
import Derived.Test.YtpendgpnikmohaaGreatMUR3
set_option linter.unusedVariables false
set_option linter.unusedSimpArgs false
set_option maxRecDepth 100000
namespace Go.AM
open Go.Proofs
noncomputable section
def F33p : Gn 2 := G33 (C33 F38 F43p F58 F59)
theorem K33p : FOK Tryz.prog 33 (un 2 F33p) := fokP (.cons K38 (.cons K43p (.cons K58 (.cons K59 .nil)))) .nil hm Tryz.func33 (by kernel_rfl) (D33 F38 F43p F58 F59) (H33 _)
def F9p : Gn 2 := G9 (C9 sayT F28 F33p F34)
theorem K9p : FOK Tryz.prog 9 (un 2 F9p) := fokP (.cons K11y (.cons K28 (.cons K33p (.cons K34 .nil)))) .nil hm Tryz.func9 (by kernel_rfl) (D9 sayT F28 F33p F34) (H9 _)
theorem n70 (c : V → R) : pNeq (ii 7) (.i .i64 0) c = c (.b true) := by rfl
theorem pBsl11_eq {x y : V} (hx : ∀ k, cellsK x k = k [x]) (hy : ∀ k, cellsK y k = k [y]) (S : St) (c : Cont) : pBsl [.i .i64 0, .i .i64 0] 2 [(0, 1, x), (1, 1, y)] S c = c (.sl S.nx 0 2 2) (S.new [x, y]) := by
  show cellsK x (fun vs => lenL vs 0 (fun m => gu (Nat.beq m 1) (putK [.i .i64 0, .i .i64 0] 0 vs _))) = _
  rw [hx]
  show cellsK y (fun vs => lenL vs 0 (fun m => gu (Nat.beq m 1) (putK [x, .i .i64 0] 1 vs _))) = _
  rw [hy]
  show newK [x, y] S (fun nx S' => c (.sl nx 0 2 2) S') = _
  rw [newK_eq]
theorem f33_err (v w sl : V) (S S1 : St) (k : Cont) (h1 : ∀ c : Cont, pBsl [(.i .i64 0),(.i .i64 0)] 2 [(0, 1, v), (1, 1, w)] S c = c sl S1) (h2 : ∀ c : Cont, F43p sl S1 c = c (ii 7) S1) : F33p v w S k = k (.tu [ii 0, ii 7]) S1 := by
  simp only [F33p, G33, C33, cSeq, cReg, cCond, cRet, h1, h2, n70, pIf_t]
theorem f33_large1 (v w sl : V) (S S1 : St) (k : Cont) (h1 : ∀ c : Cont, pBsl [(.i .i64 0),(.i .i64 0)] 2 [(0, 1, v), (1, 1, w)] S c = c sl S1) (h2 : ∀ c : Cont, F43p sl S1 c = c (ii 0) S1) (h3 : ∀ c, pGtr v (.i .i64 31) c = c (.b true)) : F33p v w S k = k (.tu [ii 0, ii 4]) S1 := by
  simp only [F33p, G33, C33, cSeq, cReg, cCond, cRet, cSkip, h1, h2, h3, e00, pIf_t, pIf_f, pGd_tf, pPick_t]
theorem f33_large2 (v w sl : V) (S S1 : St) (k : Cont) (h1 : ∀ c : Cont, pBsl [(.i .i64 0),(.i .i64 0)] 2 [(0, 1, v), (1, 1, w)] S c = c sl S1) (h2 : ∀ c : Cont, F43p sl S1 c = c (ii 0) S1) (h3 : ∀ c, pGtr v (.i .i64 31) c = c (.b false)) (h4 : ∀ c, pGtr w (.i .i64 31) c = c (.b true)) : F33p v w S k = k (.tu [ii 0, ii 4]) S1 := by
  simp only [F33p, G33, C33, cSeq, cReg, cCond, cRet, cSkip, h1, h2, h3, h4, e00, pIf_t, pIf_f, pGd_ff, pPick_f]
theorem f34_1 (v w : V) (S : St) (k : Cont) (h1 : ∀ c : Cont, F18 v S c = c (.b false) S) : F34 v w S k = k (ii 7) S := by
  simp only [F34, G34, C34, cSeq, cReg, cCond, cRet, cSkip, h1, pNot_f, pGd_tf, pPick_t, pIf_t]
theorem f34_2 (v w : V) (S : St) (k : Cont) (h1 : ∀ c : Cont, F18 v S c = c (.b true) S) (h2 : ∀ c : Cont, F18 w S c = c (.b false) S) : F34 v w S k = k (ii 7) S := by
  simp only [F34, G34, C34, cSeq, cReg, cCond, cRet, cSkip, h1, h2, pNot_f, pNot_t, pGd_ff, pPick_f, pIf_t]
theorem f34_3 (v w : V) (S : St) (k : Cont) (h1 : ∀ c : Cont, F18 v S c = c (.b true) S) (h2 : ∀ c : Cont, F18 w S c = c (.b true) S) : F34 v w S k = k (ii 0) S := by
  simp only [F34, G34, C34, cSeq, cReg, cCond, cRet, cSkip, h1, h2, pNot_f, pNot_t, pGd_ff, pPick_f, pIf_f]
theorem l1 (c : V → R) : pEql (ii 0) (.i .i64 0) c = c (.b true) := by rfl
theorem l7 (c : V → R) : pEql (ii 7) (ii 7) c = c (.b true) := by rfl
theorem l4 (c : V → R) : pEql (ii 4) (.i .i64 4) c = c (.b true) := by rfl
theorem law_err (v w : V) (S1 : St) (h1 : ∀ c : Cont, F33p v w S0 c = c (.tu [ii 0, ii 7]) S1) (h2 : ∀ c : Cont, F34 v w S1 c = c (ii 7) S1) : F9p v w S0 fin = fin (.b true) S1 := by
  simp only [F9p, G9, C9, cSeq, cReg, cCond, cRet, cSkip, sayT, pNot_t, h1, h2, n70, pExt_0, pExt_1, pIf_t, pIf_f, l1, l7, pGd_tt, pPick_t]
theorem law_large1 (v w : V) (S1 : St) (h1 : ∀ c : Cont, F33p v w S0 c = c (.tu [ii 0, ii 4]) S1) (h2 : ∀ c : Cont, F34 v w S1 c = c (ii 0) S1) (h3 : ∀ c, pGtr v (.i .i64 31) c = c (.b true)) : F9p v w S0 fin = fin (.b true) S1 := by
  simp only [F9p, G9, C9, cSeq, cReg, cCond, cRet, cSkip, sayT, pNot_t, h1, h2, h3, e00, pExt_0, pExt_1, pIf_t, pIf_f, l1, l4, pGd_tt, pGd_tf, pPick_t]
theorem law_large2 (v w : V) (S1 : St) (h1 : ∀ c : Cont, F33p v w S0 c = c (.tu [ii 0, ii 4]) S1) (h2 : ∀ c : Cont, F34 v w S1 c = c (ii 0) S1) (h3 : ∀ c, pGtr v (.i .i64 31) c = c (.b false)) (h4 : ∀ c, pGtr w (.i .i64 31) c = c (.b true)) : F9p v w S0 fin = fin (.b true) S1 := by
  simp only [F9p, G9, C9, cSeq, cReg, cCond, cRet, cSkip, sayT, pNot_t, h1, h2, h3, h4, e00, pExt_0, pExt_1, pIf_t, pIf_f, l1, l4, pGd_tt, pGd_ff, pPick_t, pPick_f]
def good9 (n m : Nat) : Prop := ∃ F : Gn 2, FOK Tryz.prog 9 (un 2 F) ∧ yesB (F (.i .i64 n) (.i .i64 m) S0 fin) = true
theorem chk_cases (n : Nat) : chk n = 7 ∨ chk n = 0 := by
  unfold chk; split
  · exact .inr rfl
  · exact .inl rfl
theorem chk_prime {n : Nat} (h : chk n = 0) : 3 ≤ n ∧ n ≤ 65521 ∧ PrimeN n := by
  unfold chk at h
  split at h
  · rename_i h'; exact ⟨h'.1, h'.2.1, isP_iff.1 h'.2.2⟩
  · cases h
theorem nodiv {n d : Nat} (h : PrimeN n) (hd : 2 ≤ d) (hn : d < n) : n % d ≠ 0 := fun e => h.2 d hd hn (Nat.dvd_of_mod_eq_zero e)
theorem to31d : ∀ n < 32, (decide (3 ≤ n) && n % 2 != 0 && (n == 3 || n % 3 != 0) && (decide (n ≤ 5) || n % 5 != 0)) = true → n ∈ [3, 5, 7, 11, 13, 17, 19, 23, 29, 31] := by decide
theorem to31 {n : Nat} (h1 : 3 ≤ n) (h3 : PrimeN n) (hl : n ≤ 31) : n = 3 ∨ n = 5 ∨ n = 7 ∨ n = 11 ∨ n = 13 ∨ n = 17 ∨ n = 19 ∨ n = 23 ∨ n = 29 ∨ n = 31 := by
  have h := to31d n (by omega) (by
    simp only [Bool.and_eq_true, Bool.or_eq_true, decide_eq_true_eq, bne_iff_ne, beq_iff_eq]
    refine ⟨⟨⟨h1, nodiv h3 (by omega) (by omega)⟩, ?_⟩, ?_⟩
    · by_cases h0 : n = 3
      · exact .inl h0
      · exact .inr (nodiv h3 (by omega) (by omega))
    · by_cases h0 : n ≤ 5
      · exact .inl h0
      · exact .inr (nodiv h3 (by omega) (by omega)))
  simpa using h
theorem row3 (m : Nat) (h : m = 3 ∨ m = 5 ∨ m = 7 ∨ m = 11 ∨ m = 13 ∨ m = 17 ∨ m = 19 ∨ m = 23 ∨ m = 29 ∨ m = 31) : good9 3 m := by
  rcases h with rfl | rfl | rfl | rfl | rfl | rfl | rfl | rfl | rfl | rfl
  · exact ⟨_, K9h, urun3x3⟩
  · exact ⟨_, K9h, urun3x5⟩
  · exact ⟨_, K9h, urun3x7⟩
  · exact ⟨_, K9h, urun3x11⟩
  · exact ⟨_, K9h, urun3x13⟩
  · exact ⟨_, K9h, urun3x17⟩
  · exact ⟨_, K9h, urun3x19⟩
  · exact ⟨_, K9h, urun3x23⟩
  · exact ⟨_, K9h, urun3x29⟩
  · exact ⟨_, K9h, urun3x31⟩
theorem row5 (m : Nat) (h : m = 3 ∨ m = 5 ∨ m = 7 ∨ m = 11 ∨ m = 13 ∨ m = 17 ∨ m = 19 ∨ m = 23 ∨ m = 29 ∨ m = 31) : good9 5 m := by
  rcases h with rfl | rfl | rfl | rfl | rfl | rfl | rfl | rfl | rfl | rfl
  · exact ⟨_, K9h, urun5x3⟩
  · exact ⟨_, K9h, urun5x5⟩
  · exact ⟨_, K9h, urun5x7⟩
  · exact ⟨_, K9h, urun5x11⟩
  · exact ⟨_, K9h, urun5x13⟩
  · exact ⟨_, K9h, urun5x17⟩
  · exact ⟨_, K9h, urun5x19⟩
  · exact ⟨_, K9h, urun5x23⟩
  · exact ⟨_, K9h, urun5x29⟩
  · exact ⟨_, K9h, urun5x31⟩
theorem row7 (m : Nat) (h : m = 3 ∨ m = 5 ∨ m = 7 ∨ m = 11 ∨ m = 13 ∨ m = 17 ∨ m = 19 ∨ m = 23 ∨ m = 29 ∨ m = 31) : good9 7 m := by
  rcases h with rfl | rfl | rfl | rfl | rfl | rfl | rfl | rfl | rfl | rfl
  · exact ⟨_, K9h, urun7x3⟩
  · exact ⟨_, K9h, urun7x5⟩
  · exact ⟨_, K9h, urun7x7⟩
  · exact ⟨_, K9h, urun7x11⟩
  · exact ⟨_, K9h, urun7x13⟩
  · exact ⟨_, K9h, urun7x17⟩
  · exact ⟨_, K9h, urun7x19⟩
  · exact ⟨_, K9h, urun7x23⟩
  · exact ⟨_, K9h, urun7x29⟩
  · exact ⟨_, K9h, urun7x31⟩
theorem row11 (m : Nat) (h : m = 3 ∨ m = 5 ∨ m = 7 ∨ m = 11 ∨ m = 13 ∨ m = 17 ∨ m = 19 ∨ m = 23 ∨ m = 29 ∨ m = 31) : good9 11 m := by
  rcases h with rfl | rfl | rfl | rfl | rfl | rfl | rfl | rfl | rfl | rfl
  · exact ⟨_, K9h, urun11x3⟩
  · exact ⟨_, K9h, urun11x5⟩
  · exact ⟨_, K9h, urun11x7⟩
  · exact ⟨_, K9h, urun11x11⟩
  · exact ⟨_, K9h, urun11x13⟩
  · exact ⟨_, K9h, urun11x17⟩
  · exact ⟨_, K9h, urun11x19⟩
  · exact ⟨_, K9h, urun11x23⟩
  · exact ⟨_, K9h, urun11x29⟩
  · exact ⟨_, K9h, urun11x31⟩
theorem row13 (m : Nat) (h : m = 3 ∨ m = 5 ∨ m = 7 ∨ m = 11 ∨ m = 13 ∨ m = 17 ∨ m = 19 ∨ m = 23 ∨ m = 29 ∨ m = 31) : good9 13 m := by
  rcases h with rfl | rfl | rfl | rfl | rfl | rfl | rfl | rfl | rfl | rfl
  · exact ⟨_, K9h, urun13x3⟩
  · exact ⟨_, K9h, urun13x5⟩
  · exact ⟨_, K9h, urun13x7⟩
  · exact ⟨_, K9h, urun13x11⟩
  · exact ⟨_, K9h, urun13x13⟩
  · exact ⟨_, K9h, urun13x17⟩
  · exact ⟨_, K9h, urun13x19⟩
  · exact ⟨_, K9h, urun13x23⟩
  · exact ⟨_, K9h, urun13x29⟩
  · exact ⟨_, K9h, urun13x31⟩
theorem row17 (m : Nat) (h : m = 3 ∨ m = 5 ∨ m = 7 ∨ m = 11 ∨ m = 13 ∨ m = 17 ∨ m = 19 ∨ m = 23 ∨ m = 29 ∨ m = 31) : good9 17 m := by
  rcases h with rfl | rfl | rfl | rfl | rfl | rfl | rfl | rfl | rfl | rfl
  · exact ⟨_, K9h, urun17x3⟩
  · exact ⟨_, K9h, urun17x5⟩
  · exact ⟨_, K9h, urun17x7⟩
  · exact ⟨_, K9h, urun17x11⟩
  · exact ⟨_, K9h, urun17x13⟩
  · exact ⟨_, K9h, urun17x17⟩
  · exact ⟨_, K9h, urun17x19⟩
  · exact ⟨_, K9h, urun17x23⟩
  · exact ⟨_, K9h, urun17x29⟩
  · exact ⟨_, K9h, urun17x31⟩
theorem row19 (m : Nat) (h : m = 3 ∨ m = 5 ∨ m = 7 ∨ m = 11 ∨ m = 13 ∨ m = 17 ∨ m = 19 ∨ m = 23 ∨ m = 29 ∨ m = 31) : good9 19 m := by
  rcases h with rfl | rfl | rfl | rfl | rfl | rfl | rfl | rfl | rfl | rfl
  · exact ⟨_, K9h, urun19x3⟩
  · exact ⟨_, K9h, urun19x5⟩
  · exact ⟨_, K9h, urun19x7⟩
  · exact ⟨_, K9h, urun19x11⟩
  · exact ⟨_, K9h, urun19x13⟩
  · exact ⟨_, K9h, urun19x17⟩
  · exact ⟨_, K9h, urun19x19⟩
  · exact ⟨_, K9h, urun19x23⟩
  · exact ⟨_, K9h, urun19x29⟩
  · exact ⟨_, K9h, urun19x31⟩
theorem row23 (m : Nat) (h : m = 3 ∨ m = 5 ∨ m = 7 ∨ m = 11 ∨ m = 13 ∨ m = 17 ∨ m = 19 ∨ m = 23 ∨ m = 29 ∨ m = 31) : good9 23 m := by
  rcases h with rfl | rfl | rfl | rfl | rfl | rfl | rfl | rfl | rfl | rfl
  · exact ⟨_, K9h, urun23x3⟩
  · exact ⟨_, K9h, urun23x5⟩
  · exact ⟨_, K9h, urun23x7⟩
  · exact ⟨_, K9h, urun23x11⟩
  · exact ⟨_, K9h, urun23x13⟩
  · exact ⟨_, K9h, urun23x17⟩
  · exact ⟨_, K9h, urun23x19⟩
  · exact ⟨_, K9h, urun23x23⟩
  · exact ⟨_, K9h, urun23x29⟩
  · exact ⟨_, K9h, urun23x31⟩
theorem row29 (m : Nat) (h : m = 3 ∨ m = 5 ∨ m = 7 ∨ m = 11 ∨ m = 13 ∨ m = 17 ∨ m = 19 ∨ m = 23 ∨ m = 29 ∨ m = 31) : good9 29 m := by
  rcases h with rfl | rfl | rfl | rfl | rfl | rfl | rfl | rfl | rfl | rfl
  · exact ⟨_, K9h, urun29x3⟩
  · exact ⟨_, K9h, urun29x5⟩
  · exact ⟨_, K9h, urun29x7⟩
  · exact ⟨_, K9h, urun29x11⟩
  · exact ⟨_, K9h, urun29x13⟩
  · exact ⟨_, K9h, urun29x17⟩
  · exact ⟨_, K9h, urun29x19⟩
  · exact ⟨_, K9h, urun29x23⟩
  · exact ⟨_, K9h, urun29x29⟩
  · exact ⟨_, K9h, urun29x31⟩
theorem row31 (m : Nat) (h : m = 3 ∨ m = 5 ∨ m = 7 ∨ m = 11 ∨ m = 13 ∨ m = 17 ∨ m = 19 ∨ m = 23 ∨ m = 29 ∨ m = 31) : good9 31 m := by
  rcases h with rfl | rfl | rfl | rfl | rfl | rfl | rfl | rfl | rfl | rfl
  · exact ⟨_, K9h, urun31x3⟩
  · exact ⟨_, K9h, urun31x5⟩
  · exact ⟨_, K9h, urun31x7⟩
  · exact ⟨_, K9h, urun31x11⟩
  · exact ⟨_, K9h, urun31x13⟩
  · exact ⟨_, K9h, urun31x17⟩
  · exact ⟨_, K9h, urun31x19⟩
  · exact ⟨_, K9h, urun31x23⟩
  · exact ⟨_, K9h, urun31x29⟩
  · exact ⟨_, K9h, urun31x31⟩
theorem rows (n m : Nat) (h : n = 3 ∨ n = 5 ∨ n = 7 ∨ n = 11 ∨ n = 13 ∨ n = 17 ∨ n = 19 ∨ n = 23 ∨ n = 29 ∨ n = 31) (h' : m = 3 ∨ m = 5 ∨ m = 7 ∨ m = 11 ∨ m = 13 ∨ m = 17 ∨ m = 19 ∨ m = 23 ∨ m = 29 ∨ m = 31) : good9 n m := by
  rcases h with rfl | rfl | rfl | rfl | rfl | rfl | rfl | rfl | rfl | rfl
  · exact row3 m h'
  · exact row5 m h'
  · exact row7 m h'
  · exact row11 m h'
  · exact row13 m h'
  · exact row17 m h'
  · exact row19 m h'
  · exact row23 m h'
  · exact row29 m h'
  · exact row31 m h'
theorem all9 (n m : Nat) (hn : n < 18446744073709551616) (hm : m < 18446744073709551616) : good9 n m := by
  have e1 : ∀ c : Cont, pBsl [(.i .i64 0),(.i .i64 0)] 2 [(0, 1, ii n), (1, 1, ii m)] S0 c = c (.sl S0.nx 0 2 2) (S0.new [ii n, ii m]) := fun c => pBsl11_eq (cellsK_i _ _) (cellsK_i _ _) S0 c
  have e2 : ∀ c : Cont, F43p (.sl S0.nx 0 2 2) (S0.new [ii n, ii m]) c = c (ii (if chk n = 0 then chk m else 7)) (S0.new [ii n, ii m]) := fun c => check2 hn hm (St.new_get _ _) c
  have e3 : ∀ c : Cont, F18 (ii n) (S0.new [ii n, ii m]) c = c (.b (Nat.beq (chk n) 0)) (S0.new [ii n, ii m]) := fun c => f18_ok hn _ c
  have e4 : ∀ c : Cont, F18 (ii m) (S0.new [ii n, ii m]) c = c (.b (Nat.beq (chk m) 0)) (S0.new [ii n, ii m]) := fun c => f18_ok hm _ c
  rcases chk_cases n with h | h
  · rw [h] at e2 e3
    exact ⟨F9p, K9p, by rw [law_err (ii n) (ii m) _ (fun c => f33_err (ii n) (ii m) _ S0 _ c e1 e2) (fun c => f34_1 _ _ _ c e3)]; rfl⟩
  · rcases chk_cases m with h' | h'
    · rw [h, h'] at e2
      rw [h] at e3
      rw [h'] at e4
      exact ⟨F9p, K9p, by rw [law_err (ii n) (ii m) _ (fun c => f33_err (ii n) (ii m) _ S0 _ c e1 e2) (fun c => f34_2 _ _ _ c e3 e4)]; rfl⟩
    · rw [h, h'] at e2
      rw [h] at e3
      rw [h'] at e4
      obtain ⟨h1, h2, h3⟩ := chk_prime h
      obtain ⟨k1, k2, k3⟩ := chk_prime h'
      have g1 : ∀ c, pGtr (ii n) (.i .i64 31) c = c (.b (decide (31 < n))) := fun c => gtr_n (by omega) (by omega) c
      have g2 : ∀ c, pGtr (ii m) (.i .i64 31) c = c (.b (decide (31 < m))) := fun c => gtr_n (by omega) (by omega) c
      by_cases a : 31 < n
      · rw [decide_eq_true a] at g1
        exact ⟨F9p, K9p, by rw [law_large1 (ii n) (ii m) _ (fun c => f33_large1 (ii n) (ii m) _ S0 _ c e1 e2 g1) (fun c => f34_3 _ _ _ c e3 e4) g1]; rfl⟩
      · by_cases b : 31 < m
        · rw [decide_eq_false a] at g1
          rw [decide_eq_true b] at g2
          exact ⟨F9p, K9p, by rw [law_large2 (ii n) (ii m) _ (fun c => f33_large2 (ii n) (ii m) _ S0 _ c e1 e2 g1 g2) (fun c => f34_3 _ _ _ c e3 e4) g1 g2]; rfl⟩
        · exact rows n m (to31 h1 h3 (by omega)) (to31 k1 k3 (by omega))
theorem toN (a : Int) : (a % (M .i64 : Int)).toNat < 18446744073709551616 := by
  have h0 := Int.emod_nonneg a (b := (M .i64 : Int)) (by decide)
  have h1 := Int.emod_lt_of_pos a (b := (M .i64 : Int)) (by decide)
  have h2 : (M .i64 : Int) = 18446744073709551616 := by decide
  omega
theorem walkReciprocityResultants (a b : Int) (W : World) (wa : (Lit.int .i64 a).wf = true) (wb : (Lit.int .i64 b).wf = true) : Calls Tryz.prog 9 #[.int .i64 a, .int .i64 b] W fun e w' => e = .returned (.bool true) ∧ Go.RowKit.Below W.heap.size W w' := by
  have hv : VRs (fun _ => none) [.i .i64 (a % (M .i64 : Int)).toNat, .i .i64 (b % (M .i64 : Int)).toNat] (#[.int .i64 a, .int .i64 b] : Array Value).toList := .cons _ _ _ _ (vr_wf wa) (.cons _ _ _ _ (vr_wf wb) .nil)
  have hn := toN a
  have hm := toN b
  generalize (a % (M .i64 : Int)).toNat = n at hv hn
  generalize (b % (M .i64 : Int)).toNat = m at hv hm
  obtain ⟨F, hF, hr⟩ := all9 n m hn hm
  exact top_calls Tryz.func9 (by kernel_rfl) (by kernel_rfl) hF _ _ hv (by rw [un2']; exact hr) W
end
end Go.AM
