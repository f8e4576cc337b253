/- Laws: the law returns true at all arguments. -/
import Derived.Test.YtpendgpnikmohaaXSl
set_option linter.unusedVariables false
set_option linter.unusedSimpArgs false
set_option maxRecDepth 100000
namespace Go.AM
open Go.Proofs
noncomputable section
def fin : V → St → R := fun v S => some (v, S)
theorem n70 (c : V → R) : pNeq (ii 7) (.i .i64 0) c = c (.b true) := by rfl
theorem n27 (c : V → R) : pNeq (ii 27) (.i .i64 0) c = c (.b true) := by rfl
theorem q70 (c : V → R) : pEql (ii 7) (.i .i64 0) c = c (.b false) := by rfl
theorem q00 (c : V → R) : pEql (ii 0) (.i .i64 0) c = c (.b true) := by rfl
theorem q77 (c : V → R) : pEql (ii 7) (ii 7) c = c (.b true) := by rfl
theorem q22 (c : V → R) : pEql (ii 27) (.i .i64 27) c = c (.b true) := by rfl
theorem pBsl11_eq {x y : V} (hx : ∀ k, cellsK x k = k [x]) (hy : ∀ k, cellsK y k = k [y]) (S : St) (c : Cont) : pBsl [.i .i64 0, .i .i64 0] 2 [(0, 1, x), (1, 1, y)] S c = c (.sl S.nx 0 2 2) (S.new [x, y]) := by
  show cellsK x (fun vs => lenL vs 0 (fun m => gu (Nat.beq m 1) (putK [.i .i64 0, .i .i64 0] 0 vs _))) = _
  rw [hx]
  show cellsK y (fun vs => lenL vs 0 (fun m => gu (Nat.beq m 1) (putK [x, .i .i64 0] 1 vs _))) = _
  rw [hy]
  show newK [x, y] S (fun nx S' => c (.sl nx 0 2 2) S') = _
  rw [newK_eq]
theorem pSt2_eq {S : St} {id : Pos} {b : Nat} {y1 y2 x1 x2 : V} (h : S.h.get id = some ⟨b, [y1, y2]⟩) (hb : S.fl ≤ b) (c : St → R) : pSt 2 (.p id 0) (.ag [x1, x2]) S c = c (S.upd id ⟨b, [x1, x2]⟩) := by
  show updK id S 0 [x1, x2] c = _
  show getBK id S.h _ = _
  rw [getBK_eq _ _ _ _ h]
  show gu (Nat.ble S.fl b) _ = _
  rw [Nat.ble_eq_true_of_le hb]
  show setBK id (.mk b [x1, x2]) S.h _ = _
  rw [setBK_eq]; rfl
theorem pLdn2_eq {S : St} {id : Pos} {b : Nat} {x1 x2 : V} (h : S.h.get id = some ⟨b, [x1, x2]⟩) (c : V → R) : pLdn 2 (.p id 0) S c = c (.ag [x1, x2]) := by
  show cellsAt id S (fun cs => dropK cs 0 (fun l => takeK l 2 (fun l => c (.ag l)))) = _
  rw [cellsAt_eq h]; rfl
theorem pGd_uf (o : Cont → R) (S : St) (k : Cont) : pGd .u false o S k = k .u S := by rfl
theorem pGd_ut (o : Cont → R) (S : St) (k : Cont) : pGd .u true o S k = k .u S := by rfl
abbrev way : V := .ag [.s [69, 117, 108, 101, 114], .f 47 []]
theorem f26_step (v0 : V) (S S1 S2 : St) (k : Cont) (h1 : ∀ c : Cont, pAlloc [(.s []), .fn0] S c = c v0 S1) (h2 : ∀ c : St → R, pSt 2 v0 way S1 c = c S2) (h3 : ∀ c, pLdn 2 v0 S2 c = c way) : F26 S k = k way S2 := by
  have e : ∀ c, pBuild [(.s []), .fn0] [(0, 1, (.s [69, 117, 108, 101, 114])), (1, 1, (.f 47 []))] c = c way := fun c => by rfl
  simp only [F26, G26, C26, cSeq, cReg, cRet, h1, e, h2, h3]
theorem f26_ok (S : St) (hf : S.fl ≤ S.cnt) (k : Cont) : F26 S k = k way ((S.new [(.s []), .fn0]).upd S.nx ⟨S.cnt, [.s [69, 117, 108, 101, 114], .f 47 []]⟩) :=
  f26_step (.p S.nx 0) S _ _ k (fun c => pAlloc_eq _ S c) (fun c => pSt2_eq (St.new_get _ _) hf c) (fun c => pLdn2_eq (St.upd_get _ _) c)
theorem draw26 (S : St) : ∃ S', ∀ k : Cont, pDraw F26 S k = k way S' := by
  obtain ⟨h, nx, cnt, fl⟩ := S
  refine ⟨⟨(((⟨h, nx, cnt, cnt⟩ : St).new [(.s []), .fn0]).upd nx ⟨cnt, [.s [69, 117, 108, 101, 114], .f 47 []]⟩).h, nx.succ, cnt + 1, fl⟩, fun k => ?_⟩
  show F26 ⟨h, nx, cnt, cnt⟩ _ = _
  rw [f26_ok _ (Nat.le_refl _)]
  rfl
theorem draw_pure (f : Sem3) (v : V) (h : ∀ S (k : Cont), f S k = k v S) (S : St) (k : Cont) : pDraw f S k = k v S := by
  obtain ⟨a, b, c, d⟩ := S
  show f ⟨a, b, c, c⟩ _ = _
  rw [h]
theorem callE (a p : V) (S : St) (k : Cont) : pCallv T10 (.f 47 []) [a, p] S k = F47 a p S k := by rfl
def F10p : Gn 2 := G10 (C10 F18p F26 T10)
theorem K10p : FOK Try.prog 10 (un 2 F10p) := fokP (.cons K18p (.cons K26 .nil)) (show LOK Try.prog T10 from (.cons K47 (.cons K79 (.cons K100 .nil)))) hm Try.func10 (by kernel_rfl) (D10 F18p F26 T10) (H10 _)
def F4p : Gn 2 := G4 (C4 sayT F6 F9 F10p F11)
theorem K4p : FOK Try.prog 4 (un 2 F4p) := fokP (.cons K5y (.cons K6 (.cons K9 (.cons K10p (.cons K11 .nil))))) .nil hm Try.func4 (by kernel_rfl) (D4 sayT F6 F9 F10p F11) (H4 _)
theorem f10_err (v w sl : V) (S S1 : St) (k : Cont) (h1 : ∀ c : Cont, pBsl [(.i .i64 0),(.i .i64 0)] 2 [(0, 1, v), (1, 1, w)] S c = c sl S1) (h2 : ∀ c : Cont, F18p sl S1 c = c (ii 7) S1) : F10p v w S k = k (.tu [ii 0, ii 7]) S1 := by
  simp only [F10p, G10, C10, cSeq, cReg, cCond, cRet, h1, h2, n70, pIf_t]
theorem f10_same (v w sl : V) (S S1 : St) (k : Cont) (h1 : ∀ c : Cont, pBsl [(.i .i64 0),(.i .i64 0)] 2 [(0, 1, v), (1, 1, w)] S c = c sl S1) (h2 : ∀ c : Cont, F18p sl S1 c = c (ii 0) S1) (h3 : ∀ c, pEql v w c = c (.b true)) : F10p v w S k = k (.tu [ii 0, ii 27]) S1 := by
  simp only [F10p, G10, C10, cSeq, cReg, cCond, cRet, cSkip, h1, h2, h3, e00, pIf_t, pIf_f]
theorem f10_go (v w sl a b x y z : V) (S S1 S2 S3 : St) (k : Cont) (h1 : ∀ c : Cont, pBsl [(.i .i64 0),(.i .i64 0)] 2 [(0, 1, v), (1, 1, w)] S c = c sl S1) (h2 : ∀ c : Cont, F18p sl S1 c = c (ii 0) S1) (h3 : ∀ c, pEql v w c = c (.b false))
    (h4 : ∀ c : Cont, pDraw F26 S1 c = c way S2) (h5 : ∀ c, pRem v w c = c a) (h6 : ∀ c : Cont, pDraw (pCallv T10 (.f 47 []) [a, w]) S2 c = c x S2) (h7 : ∀ c : Cont, pDraw F26 S2 c = c way S3) (h8 : ∀ c, pRem w v c = c b) (h9 : ∀ c : Cont, pDraw (pCallv T10 (.f 47 []) [b, v]) S3 c = c y S3) (h10 : ∀ c, pMul x y c = c z) :
    F10p v w S k = k (.tu [z, ii 0]) S3 := by
  have e : ∀ c, pFld 1 way c = c (.f 47 []) := fun c => by rfl
  simp only [F10p, G10, C10, cSeq, cReg, cCond, cRet, cSkip, h1, h2, h3, h4, h5, h6, h7, h8, h9, h10, e, e00, pIf_t, pIf_f]
theorem f6_1 (v w : V) (S : St) (k : Cont) (h1 : ∀ c : Cont, F17 v S c = c (.b false) S) : F6 v w S k = k (ii 7) S := by
  simp only [F6, G6, C6, cSeq, cReg, cCond, cRet, cSkip, h1, pNot_f, pGd_tf, pPick_t, pIf_t]
theorem f6_2 (v w : V) (S : St) (k : Cont) (h1 : ∀ c : Cont, F17 v S c = c (.b true) S) (h2 : ∀ c : Cont, F17 w S c = c (.b false) S) : F6 v w S k = k (ii 7) S := by
  simp only [F6, G6, C6, cSeq, cReg, cCond, cRet, cSkip, h1, h2, pNot_f, pNot_t, pGd_ff, pPick_f, pIf_t]
theorem f6_3 (v w : V) (S : St) (k : Cont) (h1 : ∀ c : Cont, F17 v S c = c (.b true) S) (h2 : ∀ c : Cont, F17 w S c = c (.b true) S) : F6 v w S k = k (ii 0) S := by
  simp only [F6, G6, C6, cSeq, cReg, cCond, cRet, cSkip, h1, h2, pNot_f, pNot_t, pGd_ff, pPick_f, pIf_f]
theorem law_err (v w : V) (S1 : St) (h0 : ∀ c : Cont, F6 v w S0 c = c (ii 7) S0) (h1 : ∀ c : Cont, F10p v w S0 c = c (.tu [ii 0, ii 7]) S1) (h2 : ∀ c : Cont, F6 v w S1 c = c (ii 7) S1) : F4p v w S0 fin = fin (.b true) S1 := by
  simp only [F4p, G4, C4, cSeq, cReg, cCond, cRet, cSkip, sayT, pNot_t, h0, h1, h2, n70, q70, q00, q77, pExt_0, pExt_1, pIf_t, pIf_f, pGd_tt, pGd_ft, pGd_uf, pGd_ut, pPick_t, pPick_f]
theorem law_big1 (v w : V) (h0 : ∀ c : Cont, F6 v w S0 c = c (ii 0) S0) (h1 : ∀ c, pGtr v (.i .i64 3000) c = c (.b true)) : F4p v w S0 fin = fin (.b true) S0 := by
  simp only [F4p, G4, C4, cSeq, cReg, cCond, cRet, cSkip, sayT, pNot_t, h0, h1, q00, pIf_t, pIf_f, pGd_tt, pGd_ft, pGd_tf, pGd_uf, pGd_ut, pPick_t, pPick_f]
theorem law_big2 (v w : V) (h0 : ∀ c : Cont, F6 v w S0 c = c (ii 0) S0) (h1 : ∀ c, pGtr v (.i .i64 3000) c = c (.b false)) (h2 : ∀ c, pGtr w (.i .i64 3000) c = c (.b true)) : F4p v w S0 fin = fin (.b true) S0 := by
  simp only [F4p, G4, C4, cSeq, cReg, cCond, cRet, cSkip, sayT, pNot_t, h0, h1, h2, q00, pIf_t, pIf_f, pGd_tt, pGd_ft, pGd_tf, pGd_ff, pGd_uf, pGd_ut, pPick_t, pPick_f]
theorem law_same (v w : V) (S1 : St) (h0 : ∀ c : Cont, F6 v w S0 c = c (ii 0) S0) (h1 : ∀ c, pGtr v (.i .i64 3000) c = c (.b false)) (h2 : ∀ c, pGtr w (.i .i64 3000) c = c (.b false)) (h3 : ∀ c : Cont, F10p v w S0 c = c (.tu [ii 0, ii 27]) S1) (h4 : ∀ c : Cont, F6 v w S1 c = c (ii 0) S1) (h5 : ∀ c, pEql v w c = c (.b true)) :
    F4p v w S0 fin = fin (.b true) S1 := by
  simp only [F4p, G4, C4, cSeq, cReg, cCond, cRet, cSkip, sayT, pNot_t, h0, h1, h2, h3, h4, h5, n27, q00, q22, pExt_0, pExt_1, pIf_t, pIf_f, pGd_tt, pGd_ft, pGd_tf, pGd_ff, pGd_uf, pGd_ut, pPick_t, pPick_f]
theorem law_go (v w x l c1 c2 y : V) (S1 : St) (h0 : ∀ c : Cont, F6 v w S0 c = c (ii 0) S0) (h1 : ∀ c, pGtr v (.i .i64 3000) c = c (.b false)) (h2 : ∀ c, pGtr w (.i .i64 3000) c = c (.b false)) (h3 : ∀ c : Cont, F10p v w S0 c = c (.tu [x, ii 0]) S1) (h4 : ∀ c : Cont, F6 v w S1 c = c (ii 0) S1) (h5 : ∀ c, pEql v w c = c (.b false))
    (h6 : ∀ c : Cont, F11 v w S1 c = c l S1) (h7 : ∀ c, pEql x l c = c (.b true)) (h8 : ∀ c : Cont, F9 v w S1 c = c c1 S1) (h9 : ∀ c : Cont, F9 w v S1 c = c c2 S1) (h10 : ∀ c, pMul c1 c2 c = c y) (h11 : ∀ c, pEql x y c = c (.b true)) :
    F4p v w S0 fin = fin (.b true) S1 := by
  simp only [F4p, G4, C4, cSeq, cReg, cCond, cRet, cSkip, sayT, pNot_t, h0, h1, h2, h3, h4, h5, h6, h7, h8, h9, h10, h11, e00, q00, pExt_0, pExt_1, pIf_t, pIf_f, pGd_tt, pGd_ft, pGd_tf, pGd_ff, pGd_uf, pGd_ut, pPick_t, pPick_f]
theorem f11_neg (v w a b : V) (S : St) (k : Cont) (h1 : ∀ c, pRem v (.i .i64 4) c = c a) (h2 : ∀ c, pEql a (.i .i64 3) c = c (.b true)) (h3 : ∀ c, pRem w (.i .i64 4) c = c b) (h4 : ∀ c, pEql b (.i .i64 3) c = c (.b true)) : F11 v w S k = k (ii m1) S := by
  simp only [F11, G11, C11, cSeq, cReg, cCond, cRet, cSkip, h1, h2, h3, h4, pIf_t, pGd_tt, pPick_t]
theorem f11_pos1 (v w a : V) (S : St) (k : Cont) (h1 : ∀ c, pRem v (.i .i64 4) c = c a) (h2 : ∀ c, pEql a (.i .i64 3) c = c (.b false)) : F11 v w S k = k (ii 1) S := by
  simp only [F11, G11, C11, cSeq, cReg, cCond, cRet, cSkip, h1, h2, pIf_f, pGd_ft, pPick_f]
theorem f11_pos2 (v w a b : V) (S : St) (k : Cont) (h1 : ∀ c, pRem v (.i .i64 4) c = c a) (h2 : ∀ c, pEql a (.i .i64 3) c = c (.b true)) (h3 : ∀ c, pRem w (.i .i64 4) c = c b) (h4 : ∀ c, pEql b (.i .i64 3) c = c (.b false)) : F11 v w S k = k (ii 1) S := by
  simp only [F11, G11, C11, cSeq, cReg, cCond, cRet, cSkip, h1, h2, h3, h4, pIf_f, pGd_tt, pPick_t]
theorem f11_ok {n m : Nat} (hn : n < 100000) (hm : m < 100000) (S : St) (k : Cont) : F11 (ii n) (ii m) S k = k (ii (if n % 4 = 3 ∧ m % 4 = 3 then m1 else 1)) S := by
  have e1 : ∀ c, pRem (ii n) (.i .i64 4) c = c (ii (n % 4)) := fun c => rem_n (by omega) (by omega) (by omega) c
  have e2 : ∀ c, pRem (ii m) (.i .i64 4) c = c (ii (m % 4)) := fun c => rem_n (by omega) (by omega) (by omega) c
  by_cases h : n % 4 = 3
  · by_cases h' : m % 4 = 3
    · rw [f11_neg _ _ _ _ S k e1 (fun c => by rw [eql_n, decide_eq_true h]) e2 (fun c => by rw [eql_n, decide_eq_true h']), if_pos ⟨h, h'⟩]
    · rw [f11_pos2 _ _ _ _ S k e1 (fun c => by rw [eql_n, decide_eq_true h]) e2 (fun c => by rw [eql_n, decide_eq_false h']), if_neg (fun x => h' x.2)]
  · rw [f11_pos1 _ _ _ S k e1 (fun c => by rw [eql_n, decide_eq_false h]), if_neg (fun x => h x.1)]
theorem chk_cases (n : Nat) : chk n = 7 ∨ chk n = 0 := by
  unfold chk; split
  · exact .inr rfl
  · exact .inl rfl
theorem chk_prime {n : Nat} (h : chk n = 0) : 3 ≤ n ∧ n ≤ 65521 ∧ PrimeN n := by
  unfold chk at h
  split at h
  · rename_i h'; exact ⟨h'.1, h'.2.1, isP_iff.1 h'.2.2⟩
  · cases h
theorem mod_ne {p r : Nat} (hp : PrimeN p) (hr : PrimeN r) (h : p ≠ r) : 1 ≤ p % r := by
  rcases Nat.eq_zero_or_pos (p % r) with h0 | h0
  · have hd := Nat.dvd_of_mod_eq_zero h0
    have hle := Nat.le_of_dvd (by have := hp.1; omega) hd
    exact absurd hd (hp.2 r hr.1 (by omega))
  · exact h0
/-- the law in machine numbers -/
theorem recip {p r : Nat} (hp : 3 ≤ p) (hr : 3 ≤ r) (hp2 : p ≤ 3000) (hr2 : r ≤ 3000) (hP : PrimeN p) (hR : PrimeN r) (hne : p ≠ r) : (eZ (p % r) r * eZ (r % p) p) % 18446744073709551616 = if p % 4 = 3 ∧ r % 4 = 3 then m1 else 1 := by
  obtain ⟨g, hg⟩ := in_PL hp hp2 hP
  obtain ⟨g', hg'⟩ := in_PL hr hr2 hR
  have h := PL_qr hg hg' hne
  simp only [qr1] at h
  rw [bx_iff] at h
  unfold eZ
  rw [eN_mod, eN_mod]
  have e3 : q3 p r = true ↔ (p % 4 = 3 ∧ r % 4 = 3) := by
    unfold q3
    cases h1 : Nat.beq (Nat.mod p 4) 3
    · constructor
      · intro h; cases h
      · rintro ⟨h, _⟩; rw [show Nat.mod p 4 = p % 4 from rfl, h] at h1; cases h1
    · have h1' : p % 4 = 3 := Nat.eq_of_beq_eq_true h1
      constructor
      · intro h; exact ⟨h1', Nat.eq_of_beq_eq_true h⟩
      · rintro ⟨_, h⟩
        show Nat.beq (r % 4) 3 = true
        rw [h]; rfl
  by_cases hc : p % 4 = 3 ∧ r % 4 = 3
  · rw [if_pos hc]
    rw [e3.2 hc] at h
    revert h
    cases eN p r <;> cases eN r p <;> decide
  · rw [if_neg hc]
    have : q3 p r = false := by cases hq : q3 p r; rfl; exact absurd (e3.1 hq) hc
    rw [this] at h
    revert h
    cases eN p r <;> cases eN r p <;> decide
theorem all4 (n m : Nat) (hn : n < 18446744073709551616) (hm : m < 18446744073709551616) : ∃ S, F4p (ii n) (ii m) S0 fin = fin (.b true) S := by
  have e1 : ∀ c : Cont, pBsl [(.i .i64 0),(.i .i64 0)] 2 [(0, 1, ii n), (1, 1, ii m)] S0 c = c (.sl S0.nx 0 2 2) (S0.new [ii n, ii m]) := fun c => pBsl11_eq (cellsK_i _ _) (cellsK_i _ _) S0 c
  have e2 : ∀ c : Cont, F18p (.sl S0.nx 0 2 2) (S0.new [ii n, ii m]) c = c (ii (if chk n = 0 then chk m else 7)) (S0.new [ii n, ii m]) := fun c => check2 hn hm (St.new_get _ _) c
  have e3 : ∀ (S : St) (c : Cont), F17 (ii n) S c = c (.b (Nat.beq (chk n) 0)) S := fun S c => f17_ok hn S c
  have e4 : ∀ (S : St) (c : Cont), F17 (ii m) S c = c (.b (Nat.beq (chk m) 0)) S := fun S c => f17_ok hm S c
  rcases chk_cases n with h | h
  · rw [h] at e2 e3
    exact ⟨_, law_err (ii n) (ii m) _ (fun c => f6_1 _ _ _ c (e3 _)) (fun c => f10_err (ii n) (ii m) _ S0 _ c e1 e2) (fun c => f6_1 _ _ _ c (e3 _))⟩
  · rcases chk_cases m with h' | h'
    · rw [h, h'] at e2
      rw [h] at e3
      rw [h'] at e4
      exact ⟨_, law_err (ii n) (ii m) _ (fun c => f6_2 _ _ _ c (e3 _) (e4 _)) (fun c => f10_err (ii n) (ii m) _ S0 _ c e1 e2) (fun c => f6_2 _ _ _ c (e3 _) (e4 _))⟩
    · rw [h, h'] at e2
      rw [h] at e3
      rw [h'] at e4
      obtain ⟨h1, h2, h3⟩ := chk_prime h
      obtain ⟨k1, k2, k3⟩ := chk_prime h'
      have f6 : ∀ (S : St) (c : Cont), F6 (ii n) (ii m) S c = c (ii 0) S := fun S c => f6_3 _ _ _ c (e3 S) (e4 S)
      have g1 : ∀ c, pGtr (ii n) (.i .i64 3000) c = c (.b (decide (3000 < n))) := fun c => gtr_n (by omega) (by omega) c
      have g2 : ∀ c, pGtr (ii m) (.i .i64 3000) c = c (.b (decide (3000 < m))) := fun c => gtr_n (by omega) (by omega) c
      by_cases a : 3000 < n
      · rw [decide_eq_true a] at g1
        exact ⟨_, law_big1 (ii n) (ii m) (f6 _) g1⟩
      · rw [decide_eq_false a] at g1
        by_cases b : 3000 < m
        · rw [decide_eq_true b] at g2
          exact ⟨_, law_big2 (ii n) (ii m) (f6 _) g1 g2⟩
        · rw [decide_eq_false b] at g2
          have g3 : ∀ c, pEql (ii n) (ii m) c = c (.b (decide (n = m))) := fun c => eql_n n m c
          by_cases hnm : n = m
          · rw [decide_eq_true hnm] at g3
            exact ⟨_, law_same (ii n) (ii m) _ (f6 _) g1 g2 (fun c => f10_same (ii n) (ii m) _ S0 _ c e1 e2 g3) (f6 _) g3⟩
          · rw [decide_eq_false hnm] at g3
            obtain ⟨S2, d1⟩ := draw26 (S0.new [ii n, ii m])
            obtain ⟨S3, d2⟩ := draw26 S2
            have lt1 := Nat.mod_lt n (show 0 < m by omega)
            have lt2 := Nat.mod_lt m (show 0 < n by omega)
            have f10 : ∀ c : Cont, F10p (ii n) (ii m) S0 c = c (.tu [ii ((eZ (n % m) m * eZ (m % n) n) % 18446744073709551616), ii 0]) S3 := fun c =>
              f10_go (ii n) (ii m) _ (ii (n % m)) (ii (m % n)) (ii (eZ (n % m) m)) (ii (eZ (m % n) n)) _ S0 _ S2 S3 c e1 e2 g3 d1 (fun c => rem_n (by omega) (by omega) (by omega) c)
                (fun c => draw_pure _ _ (fun S k => by rw [callE]; exact fE_ok k1 (by omega) (by omega) S k) S2 c) d2 (fun c => rem_n (by omega) (by omega) (by omega) c)
                (fun c => draw_pure _ _ (fun S k => by rw [callE]; exact fE_ok h1 (by omega) (by omega) S k) S3 c) (fun c => by rw [pMul_i, show M .i64 = 18446744073709551616 from rfl])
            obtain ⟨g, hg⟩ := in_PL h1 (by omega) h3
            obtain ⟨g', hg'⟩ := in_PL k1 (by omega) k3
            have c1 : cZ n m = eZ (n % m) m := cZ_eZ k1 (PL_gen hg') (mod_ne h3 k3 hnm)
            have c2 : cZ m n = eZ (m % n) n := cZ_eZ h1 (PL_gen hg) (mod_ne k3 h3 (Ne.symm hnm))
            have hx := recip h1 k1 (by omega) (by omega) h3 k3 hnm
            exact ⟨_, law_go (ii n) (ii m) (ii ((eZ (n % m) m * eZ (m % n) n) % 18446744073709551616)) (ii (if n % 4 = 3 ∧ m % 4 = 3 then m1 else 1)) (ii (eZ (n % m) m)) (ii (eZ (m % n) n)) (ii ((eZ (n % m) m * eZ (m % n) n) % 18446744073709551616)) S3 (f6 _) g1 g2 f10 (f6 _) g3
              (fun c => f11_ok (by omega) (by omega) S3 c) (fun c => by rw [eql_n, decide_eq_true hx]) (fun c => by rw [fC_ok k1 (by omega) (by omega), c1]) (fun c => by rw [fC_ok h1 (by omega) (by omega), c2])
              (fun c => by rw [pMul_i, show M .i64 = 18446744073709551616 from rfl]) (fun c => by rw [eql_n, decide_eq_true rfl])⟩
theorem toN (a : Int) : (a % (M .i64 : Int)).toNat < 18446744073709551616 := by
  have h0 := Int.emod_nonneg a (b := (M .i64 : Int)) (by decide)
  have h1 := Int.emod_lt_of_pos a (b := (M .i64 : Int)) (by decide)
  have h2 : (M .i64 : Int) = 18446744073709551616 := by decide
  omega
theorem walkReciprocityLaws (a b : Int) (W : World) (wa : (Lit.int .i64 a).wf = true) (wb : (Lit.int .i64 b).wf = true) : Calls Try.prog 4 #[.int .i64 a, .int .i64 b] W fun e w' => e = .returned (.bool true) ∧ Go.RowKit.Below W.heap.size W w' := by
  have hv : VRs (fun _ => none) [.i .i64 (a % (M .i64 : Int)).toNat, .i .i64 (b % (M .i64 : Int)).toNat] (#[.int .i64 a, .int .i64 b] : Array Value).toList := .cons _ _ _ _ (vr_wf wa) (.cons _ _ _ _ (vr_wf wb) .nil)
  have hn := toN a
  have hm := toN b
  generalize (a % (M .i64 : Int)).toNat = n at hv hn
  generalize (b % (M .i64 : Int)).toNat = m at hv hm
  refine top_calls Try.func4 (by kernel_rfl) (by kernel_rfl) K4p _ _ hv ?_ W
  obtain ⟨S, h⟩ := all4 n m hn hm
  rw [un2']
  change yesB (F4p _ _ S0 fin) = true
  rw [h]; rfl
end
end Go.AM
