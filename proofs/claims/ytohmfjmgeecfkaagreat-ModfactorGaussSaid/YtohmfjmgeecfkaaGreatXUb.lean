/- galoisref01.Compare, Sub, Pow: pure texts on strings. -/
import Derived.Test.YtohmfjmgeecfkaaGreatXUa
namespace Go.AM
open Go.Proofs
open Go.AM.Q
open Go.AM.U
set_option linter.unusedVariables false
set_option linter.unusedSimpArgs false
noncomputable section
variable {S0 S : St} {out : V × St}
theorem strN_len {n w : Nat} (h : n < 256 ^ w) : (strN n).length ≤ w := by
  unfold strN; rw [List.length_reverse]; exact dg_len (by decide) w n h
theorem strN_up (n : Nat) : n < 256 ^ (strN n).length := by
  have := ofL_lt (B := 256) (by decide) (l := dg 256 n) (dg_lt (by decide) n)
  rw [ofL_dg (by decide)] at this
  unfold strN; rwa [List.length_reverse]
theorem pv_cons (x : Nat) (a : List Nat) : ∀ e, pv (x :: a) (e + 1) = x * 256 ^ e + pv a e
  | 0 => by simp [pv]
  | e + 1 => by
    have ih := pv_cons x a e
    show pv (x :: a) (e + 1) * 256 + (x :: a).getD (e + 1) 0 = x * 256 ^ (e + 1) + (pv a e * 256 + a.getD e 0)
    rw [ih, List.getD_cons_succ, Nat.add_mul, Nat.pow_succ, Nat.mul_assoc]; omega
theorem lex_eq : ∀ (a b : List Nat), By a → By b → a.length = b.length → ltB a b = decide (U.val a < U.val b)
  | [], [], _, _, _ => by rfl
  | [], _ :: _, _, _, h => by simp at h
  | _ :: _, [], _, _, h => by simp at h
  | x :: a, y :: b, ha, hb, hl => by
    have ha' : By a := fun z hz => ha z (List.mem_cons_of_mem _ hz)
    have hb' : By b := fun z hz => hb z (List.mem_cons_of_mem _ hz)
    have hl' : a.length = b.length := by simpa using hl
    have e : ltB (x :: a) (y :: b) = bif Nat.beq x y then ltB a b else Nat.blt x y := by
      show (@Bool.rec (fun _ => (List Nat → Bool) → List Nat → Bool) (fun _ _ => Nat.blt x y) (fun ih t => ih t) (Nat.beq x y) (ltB a) b) = _
      cases Nat.beq x y <;> rfl
    have va : U.val (x :: a) = x * 256 ^ a.length + U.val a := pv_cons x a a.length
    have vb : U.val (y :: b) = y * 256 ^ a.length + U.val b := by rw [hl']; exact pv_cons y b b.length
    have la : U.val a < 256 ^ a.length := pv_lt ha' a.length
    have lb : U.val b < 256 ^ a.length := by rw [hl']; exact pv_lt hb' b.length
    rw [e, va, vb]
    cases hxy : Nat.beq x y with
    | true =>
      have := Nat.eq_of_beq_eq_true hxy
      subst this
      show ltB a b = _
      rw [lex_eq a b ha' hb' hl']
      congr 1
      exact propext ⟨fun h => by omega, fun h => by omega⟩
    | false =>
      have hne : x ≠ y := fun e => by subst e; rw [Nat.beq_refl] at hxy; cases hxy
      show Nat.blt x y = _
      rw [blt_eq]
      by_cases h : x < y
      · have h2 : (x + 1) * 256 ^ a.length ≤ y * 256 ^ a.length := Nat.mul_le_mul_right _ h
        rw [Nat.add_mul, Nat.one_mul] at h2
        rw [decide_eq_true h, decide_eq_true (by omega)]
      · have h2 : (y + 1) * 256 ^ a.length ≤ x * 256 ^ a.length := Nat.mul_le_mul_right _ (by omega)
        rw [Nat.add_mul, Nat.one_mul] at h2
        rw [decide_eq_false h, decide_eq_false (by omega)]
/-- the order of strings of numbers -/
theorem str_lt (m n : Nat) : ((strN m).length < (strN n).length ∨ (strN m).length = (strN n).length ∧ ltB (strN m) (strN n) = true) ↔ m < n := by
  have len : ∀ a b, (strN a).length < (strN b).length → a < b := fun a b h => by
    rcases Nat.lt_or_ge a b with h1 | h1
    · exact h1
    · have := strN_len (Nat.lt_of_le_of_lt h1 (strN_up a)); omega
  constructor
  · rintro (h | ⟨h1, h2⟩)
    · exact len m n h
    · rw [lex_eq _ _ (strN_lt m) (strN_lt n) h1, val_strN, val_strN] at h2
      exact of_decide_eq_true h2
  · intro h
    rcases Nat.lt_trichotomy (strN m).length (strN n).length with h1 | h1 | h1
    · exact .inl h1
    · exact .inr ⟨h1, by rw [lex_eq _ _ (strN_lt m) (strN_lt n) h1, val_strN, val_strN]; exact decide_eq_true h⟩
    · have := len n m h1; omega
theorem strN_inj {m n : Nat} (h : strN m = strN n) : m = n := by rw [← val_strN m, h, val_strN]
theorem pGd_uf (o : Cont → R) (S : St) (k : Cont) : pGd .u false o S k = k .u S := by rfl
theorem pGd_ut (o : Cont → R) (S : St) (k : Cont) : pGd .u true o S k = k .u S := by rfl
/- Compare -/
section
variable (v0 v1 a b : V) (S : St) (k : Cont)
theorem cm_lt (h1 : ∀ c, pLenS v0 c = c a) (h2 : ∀ c, pLenS v1 c = c b) (h3 : ∀ c, pLss a b c = c (.b true)) : G103 C103 v0 v1 S k = k (nn 18446744073709551615) S := by
  simp only [G103, C103, cSeq, cReg, cCond, cBlock, cSkip, cExit, cRet, h1, h2, h3, pGd_tf, pPick_t, ifT, pGd_ut, pGd_uf]
theorem cm_lex (h1 : ∀ c, pLenS v0 c = c a) (h2 : ∀ c, pLenS v1 c = c b) (h3 : ∀ c, pLss a b c = c (.b false)) (h4 : ∀ c, pEql a b c = c (.b true)) (h5 : ∀ c, pLtS v0 v1 c = c (.b true)) : G103 C103 v0 v1 S k = k (nn 18446744073709551615) S := by
  simp only [G103, C103, cSeq, cReg, cCond, cBlock, cSkip, cExit, cRet, h1, h2, h3, h4, h5, pGd_ff, pGd_tt, pPick_f, pPick_t, ifT]
theorem cm_eq (h1 : ∀ c, pLenS v0 c = c a) (h2 : ∀ c, pLenS v1 c = c b) (h3 : ∀ c, pLss a b c = c (.b false)) (h4 : ∀ c, pEql a b c = c (.b true)) (h5 : ∀ c, pLtS v0 v1 c = c (.b false)) (h6 : ∀ c, pEqS true v0 v1 c = c (.b true)) : G103 C103 v0 v1 S k = k (nn 0) S := by
  simp only [G103, C103, cSeq, cReg, cCond, cBlock, cSkip, cExit, cRet, h1, h2, h3, h4, h5, h6, pGd_ff, pGd_tt, pPick_f, pPick_t, ifT, ifF]
theorem cm_gt (h1 : ∀ c, pLenS v0 c = c a) (h2 : ∀ c, pLenS v1 c = c b) (h3 : ∀ c, pLss a b c = c (.b false)) (h4 : ∀ c, pEql a b c = c (.b true)) (h5 : ∀ c, pLtS v0 v1 c = c (.b false)) (h6 : ∀ c, pEqS true v0 v1 c = c (.b false)) : G103 C103 v0 v1 S k = k (nn 1) S := by
  simp only [G103, C103, cSeq, cReg, cCond, cBlock, cSkip, cExit, cRet, h1, h2, h3, h4, h5, h6, pGd_ff, pGd_tt, pPick_f, pPick_t, ifT, ifF]
theorem cm_gl (h1 : ∀ c, pLenS v0 c = c a) (h2 : ∀ c, pLenS v1 c = c b) (h3 : ∀ c, pLss a b c = c (.b false)) (h4 : ∀ c, pEql a b c = c (.b false)) (h6 : ∀ c, pEqS true v0 v1 c = c (.b false)) : G103 C103 v0 v1 S k = k (nn 1) S := by
  simp only [G103, C103, cSeq, cReg, cCond, cBlock, cSkip, cExit, cRet, h1, h2, h3, h4, h6, pGd_ff, pGd_ft, pPick_f, pPick_t, ifT, ifF, pGd_ut, pGd_uf]
end
theorem ltS_eq (a b : List Nat) (c : V → R) : pLtS (.s a) (.s b) c = c (.b (ltB a b)) := by
  show retB c (ltB a b) = _
  rw [retB_eq]
theorem eqS_eq (a b : List Nat) (c : V → R) : pEqS true (.s a) (.s b) c = c (.b (decide (a = b))) := by
  have e : pEqS true (.s a) (.s b) c = retB c (@Bool.rec (fun _ => Bool) (Bool.not true) true (eqB a b)) := by rfl
  rw [e, retB_eq, eqB_eq]
  congr 2
  by_cases h : a = b
  · subst h; simp
  · rw [decide_eq_false h, show (a == b) = false from by simpa using h]; rfl
def cmpV (m n : Nat) : V := if m < n then nn 18446744073709551615 else if m = n then nn 0 else nn 1
theorem cmp_run {m n : Nat} (hm : (strN m).length ≤ 900000) (hn : (strN n).length ≤ 900000) (S : St) (k : Cont) : F103 (.s (strN m)) (.s (strN n)) S k = k (cmpV m n) S := by
  have e1 : ∀ c, pLenS (.s (strN m)) c = c (nn (strN m).length) := fun c => lenS (by omega) c
  have e2 : ∀ c, pLenS (.s (strN n)) c = c (nn (strN n).length) := fun c => lenS (by omega) c
  have hlt := str_lt m n
  unfold F103 cmpV
  by_cases h1 : (strN m).length < (strN n).length
  · rw [if_pos (hlt.1 (.inl h1))]
    exact cm_lt _ _ _ _ S k e1 e2 (fun c => by rw [lss_n (by omega) (by omega), decide_eq_true h1])
  · have e3 : ∀ c, pLss (nn (strN m).length) (nn (strN n).length) c = c (.b false) := fun c => by rw [lss_n (by omega) (by omega), decide_eq_false h1]
    by_cases h2 : (strN m).length = (strN n).length
    · have e4 : ∀ c, pEql (nn (strN m).length) (nn (strN n).length) c = c (.b true) := fun c => by rw [eql_n, decide_eq_true h2]
      cases h3 : ltB (strN m) (strN n) with
      | true =>
        rw [if_pos (hlt.1 (.inr ⟨h2, h3⟩))]
        exact cm_lex _ _ _ _ S k e1 e2 e3 e4 (fun c => by rw [ltS_eq, h3])
      | false =>
        rw [if_neg (fun h => by
          rcases hlt.2 h with h | ⟨_, h⟩
          · exact h1 h
          · rw [h3] at h; cases h)]
        by_cases h4 : m = n
        · rw [if_pos h4]
          exact cm_eq _ _ _ _ S k e1 e2 e3 e4 (fun c => by rw [ltS_eq, h3]) (fun c => by rw [eqS_eq, decide_eq_true (by rw [h4])])
        · rw [if_neg h4]
          exact cm_gt _ _ _ _ S k e1 e2 e3 e4 (fun c => by rw [ltS_eq, h3]) (fun c => by rw [eqS_eq, decide_eq_false (fun e => h4 (strN_inj e))])
    · have hmn : m ≠ n := fun e => by subst e; exact h2 rfl
      rw [if_neg (fun h => by
        rcases hlt.2 h with h | ⟨h, _⟩
        · exact h1 h
        · exact h2 h), if_neg hmn]
      exact cm_gl _ _ _ _ S k e1 e2 e3 (fun c => by rw [eql_n, decide_eq_false h2]) (fun c => by rw [eqS_eq, decide_eq_false (fun e => hmn (strN_inj e))])
/- Pow -/
def B63 (f17 : Gn 2) : CS 6 := (cSeq (cSeq (cReg fun kn v0 v1 v2 v3 v4 v5 S => pGtr v1 (.i .i64 0) (fun a0 => kn v0 v1 a0 v3 v4 v5 S)) (cCond (fun x y v0 v1 v2 v3 v4 v5 S => pIf v2 (x v0 v1 v2 v3 v4 v5 S) (y v0 v1 v2 v3 v4 v5 S)) cSkip (cExit 0))) (cBlock 1 (cSeq (cSeq (cReg fun kn v0 v1 v2 v3 v4 v5 S => pRem v1 (.i .i64 2) (fun a0 => pEql a0 (.i .i64 1) (fun a1 => kn v0 v1 v2 a1 v4 v5 S))) (cCond (fun x y v0 v1 v2 v3 v4 v5 S => pIf v3 (x v0 v1 v2 v3 v4 v5 S) (y v0 v1 v2 v3 v4 v5 S)) (cReg fun kn v0 v1 v2 v3 v4 v5 S => f17 v4 v0 S (fun a0 S => kn v0 v1 v2 v3 a0 v5 S)) cSkip)) (cSeq (cReg fun kn v0 v1 v2 v3 v4 v5 S => f17 v0 v0 S (fun a0 S => kn a0 v1 v2 v3 v4 v5 S)) (cReg fun kn v0 v1 v2 v3 v4 v5 S => pQuo v1 (.i .i64 2) (fun a0 => kn v0 a0 v2 v3 v4 v5 S))))))
def HT63 (f61 : Gn 1) (I0 : CS 6) : CS 6 := (cSeq (cReg fun kn v0 v1 v2 v3 v4 v5 S => kn v0 v1 v2 v3 v4 (.s []) S) (cSeq (cReg fun kn v0 v1 v2 v3 v4 v5 S => f61 (.i .u64 1) S (fun a0 S => kn v0 v1 v2 v3 a0 v5 S)) (cSeq I0 (cSeq (cReg fun kn v0 v1 v2 v3 v4 v5 S => kn v0 v1 v2 v3 v4 v4 S) cRet))))
theorem C63_eq (f17 : Gn 2) (f61 : Gn 1) : C63 f17 f61 = HT63 f61 (cBlock 0 (cLoop (B63 f17))) := by rfl
section
variable (f17 : Gn 2) (f61 : Gn 1) (K : Fn 6) (kx : Nat → Fn 6) (kr : Fn 6) (v0 v1 v2 v3 v4 v5 a b d o n' w0 w1 w2 w3 w4 : V) (S : St)
theorem w_end (h1 : ∀ c, pGtr v1 (nn 0) c = c (.b false)) : B63 f17 K kx kr v0 v1 v2 v3 v4 v5 S = kx 0 v0 v1 (.b false) v3 v4 v5 S := by
  simp only [B63, cSeq, cReg, cCond, cBlock, cSkip, cExit, cRet, h1, ifF]
theorem w_odd (h1 : ∀ c, pGtr v1 (nn 0) c = c (.b true)) (h2 : ∀ c, pRem v1 (nn 2) c = c a) (h3 : ∀ c, pEql a (nn 1) c = c (.b true)) (h4 : ∀ c, f17 v4 v0 S c = c o S) (h5 : ∀ c, f17 v0 v0 S c = c d S) (h6 : ∀ c, pQuo v1 (nn 2) c = c n') : B63 f17 K kx kr v0 v1 v2 v3 v4 v5 S = K d n' (.b true) (.b true) o v5 S := by
  simp only [B63, cSeq, cReg, cCond, cBlock, cSkip, cExit, cRet, h1, h2, h3, h4, h5, h6, ifT]
theorem w_even (h1 : ∀ c, pGtr v1 (nn 0) c = c (.b true)) (h2 : ∀ c, pRem v1 (nn 2) c = c a) (h3 : ∀ c, pEql a (nn 1) c = c (.b false)) (h5 : ∀ c, f17 v0 v0 S c = c d S) (h6 : ∀ c, pQuo v1 (nn 2) c = c n') : B63 f17 K kx kr v0 v1 v2 v3 v4 v5 S = K d n' (.b true) (.b false) v4 v5 S := by
  simp only [B63, cSeq, cReg, cCond, cBlock, cSkip, cExit, cRet, h1, h2, h3, h5, h6, ifT, ifF]
theorem w_head (I0 : CS 6) (h1 : ∀ c, f61 (uu 1) S c = c a S) (hL : ∀ (kn : Fn 6) (kx : Nat → Fn 6) (kr : Fn 6), I0 kn kx kr v0 v1 v2 v3 a (.s []) S = kn w0 w1 w2 w3 w4 (.s []) S) :
    HT63 f61 I0 K kx kr v0 v1 v2 v3 v4 v5 S = kr w0 w1 w2 w3 w4 w4 S := by
  simp only [HT63, cSeq, cReg, cCond, cBlock, cSkip, cExit, cRet, h1, hL]
end
theorem mul_eq {a b : Nat} (ha : (strN a).length ≤ 50000) (hb : (strN b).length ≤ 50000) (S : St) (k : Cont) : F17t (.s (strN a)) (.s (strN b)) S k = k (.s (strN (a * b))) S := E2_eq ha hb S k
theorem pow_mul_lt {a b w u : Nat} (ha : a < 256 ^ w) (hb : b < 256 ^ u) : a * b < 256 ^ (w + u) := by
  rw [Nat.pow_add]
  rcases Nat.eq_zero_or_pos b with h | h
  · subst h; rw [Nat.mul_zero]; exact Nat.mul_pos (Nat.pow_pos (by decide)) (Nat.pow_pos (by decide))
  · exact Nat.lt_of_lt_of_le (Nat.mul_lt_mul_of_pos_right ha h) (Nat.mul_le_mul_left _ (Nat.le_of_lt hb))
theorem w_loop : ∀ (N k a o w u : Nat) (v2 v3 : V), k < N → k < 1000000 → a < 256 ^ w → o < 256 ^ u → u + w * (2 * k) ≤ 50000 →
    ∃ w0 w3, ∀ (kx : Nat → Fn 6) (kr : Fn 6) (v5 : V), loopN (B63 F17t) kx kr N (.s (strN a)) (nn k) v2 v3 (.s (strN o)) v5 S = kx 0 w0 (nn 0) (.b false) w3 (.s (strN (o * a ^ k))) v5 S
  | 0, k, a, o, w, u, v2, v3, h1, h2, ha, ho, hb => by omega
  | N + 1, 0, a, o, w, u, v2, v3, h1, h2, ha, ho, hb => by
    refine ⟨.s (strN a), v3, fun kx kr v5 => ?_⟩
    rw [loopN_succ, w_end (h1 := fun c => by rw [gtr_n (by omega) (by omega)]; rfl), Nat.pow_zero, Nat.mul_one]
  | N + 1, k + 1, a, o, w, u, v2, v3, h1, h2, ha, ho, hb => by
    have hw : w * (2 * (k + 1)) = w * (2 * k) + (w + w) := by rw [show 2 * (k + 1) = 2 * k + 2 by omega, Nat.mul_add]; omega
    have la : (strN a).length ≤ 50000 := Nat.le_trans (strN_len ha) (by omega)
    have lo : (strN o).length ≤ 50000 := Nat.le_trans (strN_len ho) (by omega)
    have haa := pow_mul_lt ha ha
    have hdiv : (k + 1) / 2 ≤ k := by omega
    have hww : (w + w) * (2 * ((k + 1) / 2)) ≤ w * (2 * (k + 1)) := by
      rw [← Nat.two_mul, Nat.mul_comm 2 w, Nat.mul_assoc]
      exact Nat.mul_le_mul_left _ (by omega)
    have g1 : ∀ c, pGtr (nn (k + 1)) (nn 0) c = c (.b true) := fun c => by rw [gtr_n (by omega) (by omega), decide_eq_true (by omega)]
    have g2 : ∀ c, pRem (nn (k + 1)) (nn 2) c = c (nn ((k + 1) % 2)) := fun c => rem_n (by omega) (by omega) (by omega) c
    have g6 : ∀ c, pQuo (nn (k + 1)) (nn 2) c = c (nn ((k + 1) / 2)) := fun c => quo_n (by omega) (by omega) (by omega) c
    by_cases hodd : (k + 1) % 2 = 1
    · have hww2 : (w + w) * (2 * ((k + 1) / 2)) + (w + w) = w * (2 * (k + 1)) := by
        rw [show 2 * ((k + 1) / 2) = k by omega, hw, Nat.add_mul, ← Nat.mul_assoc w 2 k, Nat.mul_comm w 2, Nat.mul_assoc]; omega
      obtain ⟨w0, w3, z⟩ := w_loop N ((k + 1) / 2) (a * a) (o * a) (w + w) (u + w) (.b true) (.b true) (by omega) (by omega) haa (pow_mul_lt ho ha) (by omega)
      refine ⟨w0, w3, fun kx kr v5 => ?_⟩
      rw [loopN_succ, w_odd (h1 := g1) (h2 := g2) (h3 := fun c => by rw [eql_n, decide_eq_true hodd]) (h4 := fun k => mul_eq lo la S k) (h5 := fun k => mul_eq la la S k) (h6 := g6), z]
      congr 3
      have e : k + 1 = 2 * ((k + 1) / 2) + 1 := by omega
      conv => rhs; rw [e, Nat.pow_succ, Nat.pow_mul, Nat.pow_two]
      rw [Nat.mul_assoc, Nat.mul_comm a]
    · obtain ⟨w0, w3, z⟩ := w_loop N ((k + 1) / 2) (a * a) o (w + w) u (.b true) (.b false) (by omega) (by omega) haa ho (by omega)
      refine ⟨w0, w3, fun kx kr v5 => ?_⟩
      rw [loopN_succ, w_even (h1 := g1) (h2 := g2) (h3 := fun c => by rw [eql_n, decide_eq_false hodd]) (h5 := fun k => mul_eq la la S k) (h6 := g6), z]
      congr 3
      have e : k + 1 = 2 * ((k + 1) / 2) := by omega
      conv => rhs; rw [e, Nat.pow_mul, Nat.pow_two]
def F63x : Gn 2 := G63 (C63 F17t F61t)
theorem K63x : FOK Tryz.prog 63 (un 2 F63x) := fokP (.cons K17t (.cons K61t .nil)) .nil hm Tryz.func63 (by kernel_rfl) (D63 F17t F61t) (H63 _)
theorem pow_eq {a k w : Nat} (ha : a < 256 ^ w) (hk : k < 1000000) (hb : 1 + w * (2 * k) ≤ 50000) (S : St) (c : Cont) : F63x (.s (strN a)) (nn k) S c = c (.s (strN (a ^ k))) S := by
  obtain ⟨w0, w3, z⟩ := w_loop (S := S) 1000000 k a 1 w 1 .other .other (by omega) hk ha (by decide) hb
  rw [Nat.one_mul] at z
  unfold F63x G63
  rw [C63_eq, w_head (a := .s (strN 1)) (w0 := w0) (w1 := nn 0) (w2 := .b false) (w3 := w3) (w4 := .s (strN (a ^ k))) (h1 := fun k => F61t_eq (by decide) S k) (hL := fun kn kx kr => ?_)]
  obtain ⟨kx', e1, e2⟩ := block_loop0 (B63 F17t) kn kx kr
  rw [e2, z kx' kr, e1]
end
end Go.AM

/- galoisref01.Sub: a pure text on strings. -/
namespace Go.AM
open Go.Proofs
open Go.AM.Q
open Go.AM.U
set_option linter.unusedVariables false
set_option linter.unusedSimpArgs false
noncomputable section
variable {S0 S : St} {out : V × St}
def B104 : CS 12 := (cSeq (cSeq (cReg fun kn v0 v1 v2 v3 v4 v5 v6 v7 v8 v9 v10 v11 S => pLen v4 (fun a0 => pLss v3 a0 (fun a1 => kn v0 v1 v2 v3 v4 a1 v6 v7 v8 v9 v10 v11 S))) (cCond (fun x y v0 v1 v2 v3 v4 v5 v6 v7 v8 v9 v10 v11 S => pIf v5 (x v0 v1 v2 v3 v4 v5 v6 v7 v8 v9 v10 v11 S) (y v0 v1 v2 v3 v4 v5 v6 v7 v8 v9 v10 v11 S)) cSkip (cExit 0))) (cSeq (cBlock 1 (cSeq (cReg fun kn v0 v1 v2 v3 v4 v5 v6 v7 v8 v9 v10 v11 S => kn v0 v1 v2 v3 v4 v5 v6 v7 v8 v6 v10 v11 S) (cSeq (cSeq (cReg fun kn v0 v1 v2 v3 v4 v5 v6 v7 v8 v9 v10 v11 S => pLen v7 (fun a0 => pLss v3 a0 (fun a1 => kn v0 v1 v2 v3 v4 v5 v6 v7 a1 v9 v10 v11 S))) (cCond (fun x y v0 v1 v2 v3 v4 v5 v6 v7 v8 v9 v10 v11 S => pIf v8 (x v0 v1 v2 v3 v4 v5 v6 v7 v8 v9 v10 v11 S) (y v0 v1 v2 v3 v4 v5 v6 v7 v8 v9 v10 v11 S)) (cReg fun kn v0 v1 v2 v3 v4 v5 v6 v7 v8 v9 v10 v11 S => pIdx 1 v7 v3 (fun a0 => pLd a0 S (fun a1 => pAdd v9 a1 (fun a2 => kn v0 v1 v2 v3 v4 v5 v6 v7 v8 a2 v10 v11 S)))) cSkip)) (cSeq (cReg fun kn v0 v1 v2 v3 v4 v5 v6 v7 v8 v9 v10 v11 S => kn v0 v1 v2 v3 v4 v5 (.i .u64 0) v7 v8 v9 v10 v11 S) (cSeq (cSeq (cReg fun kn v0 v1 v2 v3 v4 v5 v6 v7 v8 v9 v10 v11 S => pIdx 1 v4 v3 (fun a0 => pLd a0 S (fun a1 => pLss a1 v9 (fun a2 => kn v0 v1 v2 v3 v4 v5 v6 v7 v8 v9 a2 v11 S)))) (cCond (fun x y v0 v1 v2 v3 v4 v5 v6 v7 v8 v9 v10 v11 S => pIf v10 (x v0 v1 v2 v3 v4 v5 v6 v7 v8 v9 v10 v11 S) (y v0 v1 v2 v3 v4 v5 v6 v7 v8 v9 v10 v11 S)) (cSeq (cReg fun kn v0 v1 v2 v3 v4 v5 v6 v7 v8 v9 v10 v11 S => pIdx 1 v4 v3 (fun a0 => pLd a0 S (fun a1 => pAdd a1 (.i .u64 4294967296) (fun a2 => pIdx 1 v4 v3 (fun a3 => pSt 1 a3 a2 S (fun S => kn v0 v1 v2 v3 v4 v5 v6 v7 v8 v9 v10 v11 S)))))) (cReg fun kn v0 v1 v2 v3 v4 v5 v6 v7 v8 v9 v10 v11 S => kn v0 v1 v2 v3 v4 v5 (.i .u64 1) v7 v8 v9 v10 v11 S)) cSkip)) (cReg fun kn v0 v1 v2 v3 v4 v5 v6 v7 v8 v9 v10 v11 S => pIdx 1 v4 v3 (fun a0 => pLd a0 S (fun a1 => pSub a1 v9 (fun a2 => pIdx 1 v4 v3 (fun a3 => pSt 1 a3 a2 S (fun S => kn v0 v1 v2 v3 v4 v5 v6 v7 v8 v9 v10 v11 S))))))))))) (cReg fun kn v0 v1 v2 v3 v4 v5 v6 v7 v8 v9 v10 v11 S => pAdd v3 (.i .i64 1) (fun a0 => kn v0 v1 v2 a0 v4 v5 v6 v7 v8 v9 v10 v11 S))))
def HT104 (f59 f60 : Gn 1) (f103 : Gn 2) (I0 : CS 12) : CS 12 := (cSeq (cReg fun kn v0 v1 v2 v3 v4 v5 v6 v7 v8 v9 v10 v11 S => kn v0 v1 v2 v3 v4 v5 v6 v7 v8 v9 v10 (.s []) S) (cSeq (cSeq (cReg fun kn v0 v1 v2 v3 v4 v5 v6 v7 v8 v9 v10 v11 S => f103 v0 v1 S (fun a0 S => pLss a0 (.i .i64 0) (fun a1 => kn v0 v1 a1 v3 v4 v5 v6 v7 v8 v9 v10 v11 S))) (cCond (fun x y v0 v1 v2 v3 v4 v5 v6 v7 v8 v9 v10 v11 S => pIf v2 (x v0 v1 v2 v3 v4 v5 v6 v7 v8 v9 v10 v11 S) (y v0 v1 v2 v3 v4 v5 v6 v7 v8 v9 v10 v11 S)) (cSeq (cReg fun kn v0 v1 v2 v3 v4 v5 v6 v7 v8 v9 v10 v11 S => kn v0 v1 v2 v3 v4 v5 v6 v7 v8 v9 v10 (.s []) S) cRet) cSkip)) (cSeq (cReg fun kn v0 v1 v2 v3 v4 v5 v6 v7 v8 v9 v10 v11 S => f59 v0 S (fun a0 S => f59 v1 S (fun a1 S => kn v0 v1 v2 v3 a0 v5 v6 a1 v8 v9 v10 v11 S))) (cSeq (cReg fun kn v0 v1 v2 v3 v4 v5 v6 v7 v8 v9 v10 v11 S => kn v0 v1 v2 v3 v4 v5 (.i .u64 0) v7 v8 v9 v10 v11 S) (cSeq (cSeq (cReg fun kn v0 v1 v2 v3 v4 v5 v6 v7 v8 v9 v10 v11 S => kn v0 v1 v2 (.i .i64 0) v4 v5 v6 v7 v8 v9 v10 v11 S) I0) (cSeq (cReg fun kn v0 v1 v2 v3 v4 v5 v6 v7 v8 v9 v10 v11 S => f60 v4 S (fun a0 S => kn v0 v1 v2 v3 v4 v5 v6 v7 v8 v9 v10 a0 S)) cRet))))))
theorem C104_eq (f59 f60 : Gn 1) (f103 : Gn 2) : C104 f59 f60 f103 = HT104 f59 f60 f103 (cBlock 0 (cLoop B104)) := by rfl
section
variable (f59 f60 : Gn 1) (f103 : Gn 2) (K : Fn 12) (kx : Nat → Fn 12) (kr : Fn 12) (v0 v1 v2 v3 v4 v5 v6 v7 v8 v9 v10 v11 a b d d' g q q' x x' y z s s1 o r c' n' w3 w5 w6 w8 w9 w10 : V) (S S1 S2 S3 S4 : St)
theorem b_end (h0 : ∀ c, pLen v4 c = c a) (h1 : ∀ c, pLss v3 a c = c (.b false)) : B104 K kx kr v0 v1 v2 v3 v4 v5 v6 v7 v8 v9 v10 v11 S = kx 0 v0 v1 v2 v3 v4 (.b false) v6 v7 v8 v9 v10 v11 S := by
  simp only [B104, cSeq, cReg, cCond, cBlock, cSkip, cExit, cRet, h0, h1, ifF]
theorem b_yb (h0 : ∀ c, pLen v4 c = c a) (h1 : ∀ c, pLss v3 a c = c (.b true)) (h2 : ∀ c, pLen v7 c = c b) (h3 : ∀ c, pLss v3 b c = c (.b true)) (g1 : ∀ c, pIdx 1 v7 v3 c = c q') (g2 : ∀ c, pLd q' S c = c y) (g3 : ∀ c, pAdd v6 y c = c d) (h4 : ∀ c, pIdx 1 v4 v3 c = c q) (h5 : ∀ c, pLd q S c = c x) (h6 : ∀ c, pLss x d c = c (.b true))
    (h7 : ∀ c, pAdd x (uu 4294967296) c = c x') (h8 : ∀ c, pSt 1 q x' S c = c S1) (h9 : ∀ c, pLd q S1 c = c x') (h10 : ∀ c, pSub x' d c = c z) (h11 : ∀ c, pSt 1 q z S1 c = c S2) (h12 : ∀ c, pAdd v3 (nn 1) c = c n') :
    B104 K kx kr v0 v1 v2 v3 v4 v5 v6 v7 v8 v9 v10 v11 S = K v0 v1 v2 n' v4 (.b true) (uu 1) v7 (.b true) d (.b true) v11 S2 := by
  simp only [B104, cSeq, cReg, cCond, cBlock, cSkip, cExit, cRet, h0, h1, h2, h3, g1, g2, g3, h4, h5, h6, h7, h8, h9, h10, h11, h12, ifT]
theorem b_yn (h0 : ∀ c, pLen v4 c = c a) (h1 : ∀ c, pLss v3 a c = c (.b true)) (h2 : ∀ c, pLen v7 c = c b) (h3 : ∀ c, pLss v3 b c = c (.b true)) (g1 : ∀ c, pIdx 1 v7 v3 c = c q') (g2 : ∀ c, pLd q' S c = c y) (g3 : ∀ c, pAdd v6 y c = c d) (h4 : ∀ c, pIdx 1 v4 v3 c = c q) (h5 : ∀ c, pLd q S c = c x) (h6 : ∀ c, pLss x d c = c (.b false))
    (h10 : ∀ c, pSub x d c = c z) (h11 : ∀ c, pSt 1 q z S c = c S2) (h12 : ∀ c, pAdd v3 (nn 1) c = c n') :
    B104 K kx kr v0 v1 v2 v3 v4 v5 v6 v7 v8 v9 v10 v11 S = K v0 v1 v2 n' v4 (.b true) (uu 0) v7 (.b true) d (.b false) v11 S2 := by
  simp only [B104, cSeq, cReg, cCond, cBlock, cSkip, cExit, cRet, h0, h1, h2, h3, g1, g2, g3, h4, h5, h6, h10, h11, h12, ifT, ifF]
theorem b_nb (h0 : ∀ c, pLen v4 c = c a) (h1 : ∀ c, pLss v3 a c = c (.b true)) (h2 : ∀ c, pLen v7 c = c b) (h3 : ∀ c, pLss v3 b c = c (.b false)) (h4 : ∀ c, pIdx 1 v4 v3 c = c q) (h5 : ∀ c, pLd q S c = c x) (h6 : ∀ c, pLss x v6 c = c (.b true))
    (h7 : ∀ c, pAdd x (uu 4294967296) c = c x') (h8 : ∀ c, pSt 1 q x' S c = c S1) (h9 : ∀ c, pLd q S1 c = c x') (h10 : ∀ c, pSub x' v6 c = c z) (h11 : ∀ c, pSt 1 q z S1 c = c S2) (h12 : ∀ c, pAdd v3 (nn 1) c = c n') :
    B104 K kx kr v0 v1 v2 v3 v4 v5 v6 v7 v8 v9 v10 v11 S = K v0 v1 v2 n' v4 (.b true) (uu 1) v7 (.b false) v6 (.b true) v11 S2 := by
  simp only [B104, cSeq, cReg, cCond, cBlock, cSkip, cExit, cRet, h0, h1, h2, h3, h4, h5, h6, h7, h8, h9, h10, h11, h12, ifT, ifF]
theorem b_nn (h0 : ∀ c, pLen v4 c = c a) (h1 : ∀ c, pLss v3 a c = c (.b true)) (h2 : ∀ c, pLen v7 c = c b) (h3 : ∀ c, pLss v3 b c = c (.b false)) (h4 : ∀ c, pIdx 1 v4 v3 c = c q) (h5 : ∀ c, pLd q S c = c x) (h6 : ∀ c, pLss x v6 c = c (.b false))
    (h10 : ∀ c, pSub x v6 c = c z) (h11 : ∀ c, pSt 1 q z S c = c S2) (h12 : ∀ c, pAdd v3 (nn 1) c = c n') :
    B104 K kx kr v0 v1 v2 v3 v4 v5 v6 v7 v8 v9 v10 v11 S = K v0 v1 v2 n' v4 (.b true) (uu 0) v7 (.b false) v6 (.b false) v11 S2 := by
  simp only [B104, cSeq, cReg, cCond, cBlock, cSkip, cExit, cRet, h0, h1, h2, h3, h4, h5, h6, h10, h11, h12, ifT, ifF]
theorem b_head (I0 : CS 12) (h0 : ∀ c, f103 v0 v1 S c = c g S) (h0' : ∀ c, pLss g (nn 0) c = c (.b false)) (h1 : ∀ c, f59 v0 S c = c a S1) (h2 : ∀ c, f59 v1 S1 c = c b S2)
    (hL : ∀ (kn : Fn 12) (kx : Nat → Fn 12) (kr : Fn 12), I0 kn kx kr v0 v1 (.b false) (nn 0) a v5 (uu 0) b v8 v9 v10 (.s []) S2 = kn v0 v1 (.b false) w3 a w5 w6 b w8 w9 w10 (.s []) S3) (h3 : ∀ c, f60 a S3 c = c r S4) :
    HT104 f59 f60 f103 I0 K kx kr v0 v1 v2 v3 v4 v5 v6 v7 v8 v9 v10 v11 S = kr v0 v1 (.b false) w3 a w5 w6 b w8 w9 w10 r S4 := by
  simp only [HT104, cSeq, cReg, cCond, cBlock, cSkip, cExit, cRet, h0, h0', h1, h2, hL, h3, ifF]
theorem b_less (I0 : CS 12) (h0 : ∀ c, f103 v0 v1 S c = c g S) (h0' : ∀ c, pLss g (nn 0) c = c (.b true)) : HT104 f59 f60 f103 I0 K kx kr v0 v1 v2 v3 v4 v5 v6 v7 v8 v9 v10 v11 S = kr v0 v1 (.b true) v3 v4 v5 v6 v7 v8 v9 v10 (.s []) S := by
  simp only [HT104, cSeq, cReg, cCond, cBlock, cSkip, cExit, cRet, h0, h0', ifT]
end
theorem usub {a b : Nat} (h : b ≤ a) (ha : a < 18446744073709551616) (c : V → R) : pSub (uu a) (uu b) c = c (uu (a - b)) := by
  have e : pSub (uu a) (uu b) c = c (uu ((a + (18446744073709551616 - b)) % 18446744073709551616)) := pSub_i .u64 a b c
  rw [e, show a + (18446744073709551616 - b) = (a - b) + 18446744073709551616 by omega, Nat.add_mod_right, Nat.mod_eq_of_lt (by omega)]
/-- one's own row at the beginning of a block, with something behind -/
def WRow (S0 S : St) (id : Pos) (L : List Nat) (t : List V) : Prop := Own S0 S id (L.map uu ++ t)
theorem WRow.get {id : Pos} {L : List Nat} {t : List V} {j : Nat} (h : WRow S0 S id L t) (hj : j < L.length) (c : V → R) : pLd (.p id j) S c = c (uu (L.getD j 0)) := by
  obtain ⟨h0, n, h1, h2⟩ := h
  exact pLd_eq h1 (by rw [List.getElem?_append_left (by rw [List.length_map]; exact hj), List.getElem?_map, getD_of hj]; rfl) c
theorem WRow.put {id : Pos} {L : List Nat} {t : List V} {j : Nat} (h : WRow S0 S id L t) (r : Run S0 S) (hj : j < L.length) (v : Nat) : ∃ S', Run S0 S' ∧ WRow S0 S' id (L.set j v) t ∧ (∀ q ds, q ≠ id → Own S0 S q ds → Own S0 S' q ds) ∧ ∀ c : St → R, pSt 1 (.p id j) (uu v) S c = c S' := by
  obtain ⟨S', r1, o1, k1, a1⟩ := U.Own_put (x := uu v) h r (i := j) (by rw [List.length_append, List.length_map]; omega) (fun k => cellsK_i _ _ k)
  refine ⟨S', r1, ?_, k1, a1⟩
  rw [List.set_append_left _ _ (by rw [List.length_map]; exact hj), map_set_uu] at o1
  exact o1
theorem len_so (id : Pos) {n m : Nat} (h : n ≤ 1073741824) (c : V → R) : pLen (.so id 0 n m 1) c = c (nn n) := by
  show gu (Nat.ble n 1073741824) (retI c .i64 n) = _
  rw [Nat.ble_eq_true_of_le h, gu_true, retI_eq]
theorem idx_so (id : Pos) {n m i : Nat} (hi : i < n) (hn : n ≤ 1073741824) (c : V → R) : pIdx 1 (.so id 0 n m 1) (nn i) c = c (.p id i) := by
  show gu (Bool.not (neg .i64 i)) (gu (Nat.blt i n) (fN (Nat.add 0 (Nat.mul i 1)) (fun o => c (.p id o)))) = _
  rw [neg_n (by omega), blt_eq, decide_eq_true hi, fN_eq]
  show c (.p id (0 + i * 1)) = _
  rw [Nat.mul_one, Nat.zero_add]
theorem b_loop {vy : V} {y : List Nat} {id : Pos} {n m X : Nat} {t : List V} (hy : ∀ z ∈ y, z < B32) (ly : y.length ≤ 90000) (hn : n ≤ 90000) :
    ∀ (N i c : Nat) (S : St) (L : List Nat) (v5 v8 v9 v10 : V), i ≤ n → n < N + i → L.length = n → c ≤ 1 → Run S0 S → WRow S0 S id L t → TRow S0 vy y S id → (∀ z ∈ L, z < B32) → ofL B32 L + ofL B32 y = X + B32 ^ i * (c + ofL B32 (y.drop i)) →
    ∃ S' w6 w8 w9 w10 L' c', Run S0 S' ∧ WRow S0 S' id L' t ∧ L'.length = n ∧ (∀ z ∈ L', z < B32) ∧ ofL B32 L' + ofL B32 y = X + B32 ^ n * (c' + ofL B32 (y.drop n)) ∧ (∀ q ds, q ≠ id → Own S0 S q ds → Own S0 S' q ds) ∧
      ∀ (kx : Nat → Fn 12) (kr : Fn 12) (v0 v1 v2 v11 : V), loopN B104 kx kr N v0 v1 v2 (nn i) (.so id 0 n m 1) v5 (uu c) vy v8 v9 v10 v11 S = kx 0 v0 v1 v2 (nn n) (.so id 0 n m 1) (.b false) w6 vy w8 w9 w10 v11 S'
  | 0, i, c, S, L, v5, v8, v9, v10, h1, h2, hL, hc, r, ho, hr, hl, he => by omega
  | N + 1, i, c, S, L, v5, v8, v9, v10, h1, h2, hL, hc, r, ho, hr, hl, he => by
    have e0 : ∀ c, pLen (.so id 0 n m 1) c = c (nn n) := fun c => len_so id (by omega) c
    have eB : B32 = 4294967296 := rfl
    by_cases hi : i < n
    · have bL := getD_lt hl (by decide) i
      have bY := getD_lt hy (by decide) i
      have e1 : ∀ c, pLss (nn i) (nn n) c = c (.b true) := fun c => by rw [lss_n (by omega) (by omega), decide_eq_true hi]
      have e4 : ∀ c, pIdx 1 (.so id 0 n m 1) (nn i) c = c (.p id i) := fun c => idx_so id hi (by omega) c
      have e12 : ∀ c, pAdd (nn i) (nn 1) c = c (nn (i + 1)) := fun c => add_n (by omega) c
      have hset := ofL_set (B := B32) L i
      have hdr := dropG B32 y i
      have cont : ∀ (c2 nv : Nat) (S2 : St) (w5 w8 w9 w10 : V), nv < B32 → c2 ≤ 1 → nv + (c + y.getD i 0) = L.getD i 0 + B32 * c2 → Run S0 S2 → WRow S0 S2 id (L.set i nv) t → (∀ q ds, q ≠ id → Own S0 S q ds → Own S0 S2 q ds) →
          (∀ (K : Fn 12) (kx : Nat → Fn 12) (kr : Fn 12) (v0 v1 v2 v11 : V), B104 K kx kr v0 v1 v2 (nn i) (.so id 0 n m 1) v5 (uu c) vy v8 v9 v10 v11 S = K v0 v1 v2 (nn (i + 1)) (.so id 0 n m 1) w5 (uu c2) vy w8 w9 w10 v11 S2) →
          ∃ S' w6 w8 w9 w10 L' c', Run S0 S' ∧ WRow S0 S' id L' t ∧ L'.length = n ∧ (∀ z ∈ L', z < B32) ∧ ofL B32 L' + ofL B32 y = X + B32 ^ n * (c' + ofL B32 (y.drop n)) ∧ (∀ q ds, q ≠ id → Own S0 S q ds → Own S0 S' q ds) ∧
            ∀ (kx : Nat → Fn 12) (kr : Fn 12) (v0 v1 v2 v11 : V), loopN B104 kx kr (N + 1) v0 v1 v2 (nn i) (.so id 0 n m 1) v5 (uu c) vy v8 v9 v10 v11 S = kx 0 v0 v1 v2 (nn n) (.so id 0 n m 1) (.b false) w6 vy w8 w9 w10 v11 S' := fun c2 nv S2 w5 w8 w9 w10 hnv hc2 heq r2 ho2 k2 run => by
        obtain ⟨S', x6, x8, x9, x10, L', c', z1, z2, z3, z4, z5, z6, z7⟩ := b_loop (X := X) (m := m) (t := t) hy ly hn N (i + 1) c2 S2 (L.set i nv) w5 w8 w9 w10 (by omega) (by omega) (by rw [List.length_set]; exact hL) hc2 r2 ho2 (hr.step k2) (fun z hz => by
          rcases List.mem_or_eq_of_mem_set hz with h | h
          · exact hl z h
          · rw [h]; exact hnv) (by
          have e := hset nv (by omega)
          rw [hdr] at he
          rw [Nat.pow_succ]
          generalize ofL B32 (y.drop (i + 1)) = Y at *
          generalize y.getD i 0 = yi at *
          generalize L.getD i 0 = li at *
          generalize B32 ^ i = Pw at *
          have f1 : Pw * (c + (yi + B32 * Y)) = Pw * (c + yi) + Pw * B32 * Y := by rw [← Nat.add_assoc, Nat.mul_add, Nat.mul_assoc]
          have f2 : Pw * B32 * (c2 + Y) = Pw * (B32 * c2) + Pw * B32 * Y := by rw [Nat.mul_add, Nat.mul_assoc]
          have f3 : Pw * nv + Pw * (c + yi) = Pw * li + Pw * (B32 * c2) := by rw [← Nat.mul_add, ← Nat.mul_add, heq]
          rw [f1] at he
          rw [f2]
          omega)
        exact ⟨S', x6, x8, x9, x10, L', c', z1, z2, z3, z4, z5, fun q ds a b => z6 q ds a (k2 q ds a b), fun kx kr v0 v1 v2 v11 => by rw [loopN_succ, run]; exact z7 kx kr v0 v1 v2 v11⟩
      have e5 : ∀ c, pLd (.p id i) S c = c (uu (L.getD i 0)) := fun c => ho.get (by omega) c
      by_cases q2 : i < y.length
      · obtain ⟨q', t3, t4⟩ := hr.row.get q2
        have e3 : ∀ c, pLss (nn i) (nn y.length) c = c (.b true) := fun c => by rw [lss_n (by omega) (by omega), decide_eq_true q2]
        have ed : ∀ k, pAdd (uu c) (uu (y.getD i 0)) k = k (uu (c + y.getD i 0)) := fun k => uadd (by omega) k
        by_cases hb : L.getD i 0 < c + y.getD i 0
        · obtain ⟨S1, r1, o1, k1, a1⟩ := ho.put r (j := i) (by omega) (L.getD i 0 + 4294967296)
          have gx : (L.set i (L.getD i 0 + 4294967296)).getD i 0 = L.getD i 0 + 4294967296 := by rw [gset, if_pos ⟨rfl, by omega⟩]
          have e9 : ∀ c, pLd (.p id i) S1 c = c (uu (L.getD i 0 + 4294967296)) := fun c => by rw [o1.get (by rw [List.length_set]; omega), gx]
          obtain ⟨S2, r2, o2, k2, a2⟩ := o1.put r1 (j := i) (by rw [List.length_set]; omega) (L.getD i 0 + 4294967296 - (c + y.getD i 0))
          rw [List.set_set] at o2
          exact cont 1 _ S2 (.b true) (.b true) (uu (c + y.getD i 0)) (.b true) (by omega) (by omega) (by omega) r2 o2 (fun q ds a b => k2 q ds a (k1 q ds a b)) (fun K kx kr v0 v1 v2 v11 => by
            rw [b_yb (h0 := e0) (h1 := e1) (h2 := hr.row.len.1) (h3 := e3) (g1 := t3) (g2 := t4) (g3 := ed) (h4 := e4) (h5 := e5) (h6 := fun k => by rw [ulss (by omega) (by omega), decide_eq_true hb]) (h7 := fun k => uadd (by omega) k) (h8 := a1) (h9 := e9) (h10 := fun k => usub (by omega) (by omega) k) (h11 := a2) (h12 := e12)])
        · obtain ⟨S2, r2, o2, k2, a2⟩ := ho.put r (j := i) (by omega) (L.getD i 0 - (c + y.getD i 0))
          exact cont 0 _ S2 (.b true) (.b true) (uu (c + y.getD i 0)) (.b false) (by omega) (by omega) (by omega) r2 o2 k2 (fun K kx kr v0 v1 v2 v11 => by
            rw [b_yn (h0 := e0) (h1 := e1) (h2 := hr.row.len.1) (h3 := e3) (g1 := t3) (g2 := t4) (g3 := ed) (h4 := e4) (h5 := e5) (h6 := fun k => by rw [ulss (by omega) (by omega), decide_eq_false hb]) (h10 := fun k => usub (by omega) (by omega) k) (h11 := a2) (h12 := e12)])
      · have hy0 := getD_out q2
        have e3 : ∀ c, pLss (nn i) (nn y.length) c = c (.b false) := fun c => by rw [lss_n (by omega) (by omega), decide_eq_false q2]
        by_cases hb : L.getD i 0 < c
        · obtain ⟨S1, r1, o1, k1, a1⟩ := ho.put r (j := i) (by omega) (L.getD i 0 + 4294967296)
          have gx : (L.set i (L.getD i 0 + 4294967296)).getD i 0 = L.getD i 0 + 4294967296 := by rw [gset, if_pos ⟨rfl, by omega⟩]
          have e9 : ∀ c, pLd (.p id i) S1 c = c (uu (L.getD i 0 + 4294967296)) := fun c => by rw [o1.get (by rw [List.length_set]; omega), gx]
          obtain ⟨S2, r2, o2, k2, a2⟩ := o1.put r1 (j := i) (by rw [List.length_set]; omega) (L.getD i 0 + 4294967296 - c)
          rw [List.set_set] at o2
          exact cont 1 _ S2 (.b true) (.b false) (uu c) (.b true) (by omega) (by omega) (by omega) r2 o2 (fun q ds a b => k2 q ds a (k1 q ds a b)) (fun K kx kr v0 v1 v2 v11 => by
            rw [b_nb (h0 := e0) (h1 := e1) (h2 := hr.row.len.1) (h3 := e3) (h4 := e4) (h5 := e5) (h6 := fun k => by rw [ulss (by omega) (by omega), decide_eq_true hb]) (h7 := fun k => uadd (by omega) k) (h8 := a1) (h9 := e9) (h10 := fun k => usub (by omega) (by omega) k) (h11 := a2) (h12 := e12)])
        · obtain ⟨S2, r2, o2, k2, a2⟩ := ho.put r (j := i) (by omega) (L.getD i 0 - c)
          exact cont 0 _ S2 (.b true) (.b false) (uu c) (.b false) (by omega) (by omega) (by omega) r2 o2 k2 (fun K kx kr v0 v1 v2 v11 => by
            rw [b_nn (h0 := e0) (h1 := e1) (h2 := hr.row.len.1) (h3 := e3) (h4 := e4) (h5 := e5) (h6 := fun k => by rw [ulss (by omega) (by omega), decide_eq_false hb]) (h10 := fun k => usub (by omega) (by omega) k) (h11 := a2) (h12 := e12)])
    · have : i = n := by omega
      subst this
      refine ⟨S, uu c, v8, v9, v10, L, c, r, ho, hL, hl, he, fun q ds _ h => h, fun kx kr v0 v1 v2 v11 => ?_⟩
      rw [loopN_succ, b_end (h0 := e0) (h1 := fun c => by rw [lss_n (by omega) (by omega), decide_eq_false (by omega)])]
theorem lss_neg1 (c : V → R) : pLss (nn 18446744073709551615) (nn 0) c = c (.b true) := by
  have := sh_neg (d := 1) (by omega) (by omega)
  rw [show M64 - 1 = 18446744073709551615 from rfl] at this
  rw [pLss_i, this, sh_lt (by omega), blt_eq, decide_eq_true (by omega)]
theorem sub_run {p q : Nat} (hle : q ≤ p) (la : (strN p).length ≤ 50000) (lb : (strN q).length ≤ 50000) (r : Run S0 S) : ∃ S', Run S0 S' ∧ ∀ k, F104 (.s (strN p)) (.s (strN q)) S k = k (.s (strN (p - q))) S' := by
  have hcmp : ∃ g, (∀ c, F103 (.s (strN p)) (.s (strN q)) S c = c g S) ∧ ∀ c, pLss g (nn 0) c = c (.b false) := by
    refine ⟨cmpV p q, fun c => cmp_run (by omega) (by omega) S c, fun c => ?_⟩
    unfold cmpV
    rw [if_neg (by omega)]
    split
    · rw [lss_n (by omega) (by omega)]; rfl
    · rw [lss_n (by omega) (by omega)]; rfl
  obtain ⟨g, hc1, hc2⟩ := hcmp
  obtain ⟨S1, x, r1, x1, x2, x3⟩ := limbs_run (strN_lt p) (by omega) r
  obtain ⟨S2, y, r2, y1, y2, y3⟩ := limbs_run2 (strN_lt q) (by omega) r1
  have lx := len_dg (strN_lt p)
  have ly := len_dg (strN_lt q)
  rw [val_strN] at x1 y1 lx ly
  generalize hX : dg B32 p = X at *
  generalize hY : dg B32 q = Y at *
  have vX : ofL B32 X = p := by rw [← hX]; exact ofL_dg (by decide) _
  have vY : ofL B32 Y = q := by rw [← hY]; exact ofL_dg (by decide) _
  have dX : ∀ z ∈ X, z < B32 := by rw [← hX]; exact dg_lt (by decide) _
  have dY : ∀ z ∈ Y, z < B32 := by rw [← hY]; exact dg_lt (by decide) _
  rcases x1 with ⟨rfl, e0⟩ | ⟨id, m, t, rfl, h1, h2, ho⟩
  · -- the first number is zero
    subst e0
    have hp : p = 0 := vX.symm
    have hq : q = 0 := by omega
    obtain ⟨S3, p1, p2, p3⟩ := pack_nil r2
    refine ⟨S3, p1, fun k => ?_⟩
    unfold F104 G104
    rw [C104_eq, b_head (g := g) (a := .sn) (b := y) (w3 := nn 0) (w5 := .b false) (w6 := uu 0) (w8 := .other) (w9 := .other) (w10 := .other) (r := .s []) (S1 := S1) (S2 := S2) (S3 := S2) (S4 := S3) (h0 := hc1) (h0' := hc2) (h1 := x3) (h2 := y3) (hL := fun kn kx kr => ?_) (h3 := p3)]
    · rw [hp, hq]; rfl
    · obtain ⟨kx', e1, e2⟩ := block_loop0 B104 kn kx kr
      have key : ∀ N : Nat, 0 < N → ∀ v5 v8 v9 v10 v0 v1 v2 v11, loopN B104 kx' kr N v0 v1 v2 (nn 0) .sn v5 (uu 0) y v8 v9 v10 v11 S2 = kx' 0 v0 v1 v2 (nn 0) .sn (.b false) (uu 0) y v8 v9 v10 v11 S2 := fun N h v5 v8 v9 v10 v0 v1 v2 v11 => by
        cases N with
        | zero => omega
        | succ N => rw [loopN_succ, b_end (a := nn 0) (h0 := fun c => rfl) (h1 := fun c => by rw [lss_n (by omega) (by omega)]; rfl)]
      rw [e2, key 1000000 (by omega), e1]
  · obtain ⟨ho2, hap⟩ := y2 _ _ ho
    have hw : WRow S0 S2 id X t := ho2
    have hry : TRow S0 y Y S2 id := by
      rcases y1 with ⟨e1, e2⟩ | ⟨id2, m2, t2, e1, g1, g2, g3⟩
      · exact .inl ⟨e1, e2⟩
      · refine .inr ⟨id2, _, g3, fun e => ?_, fun S' ⟨k0, n, k4, k5⟩ => ?_⟩
        · subst e; exact hap _ _ _ _ e1
        · rw [e1]; exact ⟨rfl, rfl, by omega, by omega, _, k4, t2, by simp⟩
    obtain ⟨S3, w6, w8, w9, w10, L', c', z1, z2, z3, z4, z5, z6, z7⟩ := b_loop (X := p) (m := m) (t := t) dY (by omega) (show X.length ≤ 90000 by omega) 1000000 0 0 S2 X .other .other .other .other (by omega) (by omega) rfl (by omega) r2 hw hry dX (by rw [vX, vY, List.drop_zero, vY, Nat.pow_zero]; omega)
    have hL := ofL_lt (B := B32) (by decide) z4
    rw [z3] at hL
    have hz : c' + ofL B32 (Y.drop X.length) = 0 := by
      rcases Nat.eq_zero_or_pos (c' + ofL B32 (Y.drop X.length)) with h | h
      · exact h
      · have := Nat.mul_le_mul_left (B32 ^ X.length) h
        rw [vY] at z5
        omega
    rw [hz, Nat.mul_zero, vY] at z5
    have hv : ofL B32 L' = p - q := by omega
    obtain ⟨S4, p1, p2, p3⟩ := pack_run (v := .so id 0 X.length m 1) (l := L') (fun S' ⟨k0, n, k4, k5⟩ => ⟨rfl, by omega, by omega, by omega, _, k4, t, by simp⟩) z2 z1 (by omega) z4
    rw [hv] at p3
    refine ⟨S4, p1, fun k => ?_⟩
    unfold F104 G104
    rw [C104_eq, b_head (g := g) (a := .so id 0 X.length m 1) (b := y) (w3 := nn X.length) (w5 := .b false) (w6 := w6) (w8 := w8) (w9 := w9) (w10 := w10) (r := .s (strN (p - q))) (S1 := S1) (S2 := S2) (S3 := S3) (S4 := S4) (h0 := hc1) (h0' := hc2) (h1 := x3) (h2 := y3) (hL := fun kn kx kr => ?_) (h3 := p3)]
    obtain ⟨kx', e1, e2⟩ := block_loop0 B104 kn kx kr
    rw [e2]
    refine (z7 kx' kr _ _ _ _).trans ?_
    rw [e1]
theorem sub_less {p q : Nat} (hlt : p < q) (la : (strN p).length ≤ 50000) (lb : (strN q).length ≤ 50000) (S : St) (k : Cont) : F104 (.s (strN p)) (.s (strN q)) S k = k (.s (strN (p - q))) S := by
  unfold F104 G104
  rw [C104_eq, b_less (g := nn 18446744073709551615) (h0 := fun c => by rw [cmp_run (by omega) (by omega), cmpV, if_pos hlt]) (h0' := fun c => lss_neg1 c), show p - q = 0 by omega]; rfl
open Classical in
/-- a function of two strings of numbers, as a pure text -/
def E2c (op : Nat → Nat → Nat) (m : Nat) : List V → Option V
  | [.s a, .s b] => if (∃ p, a = strN p) ∧ (∃ q, b = strN q) ∧ a.length ≤ m ∧ b.length ≤ m then some (.s (strN (op (U.val a) (U.val b)))) else none
  | _ => none
theorem E2c_ok {P : Program} {f : FuncId} {F : Gn 2} (hF : FOK P f (un 2 F)) {op : Nat → Nat → Nat} {m : Nat} (h : ∀ p q, (strN p).length ≤ m → (strN q).length ≤ m → ∃ S', ∀ k, F (.s (strN p)) (.s (strN q)) (mkS []) k = k (.s (strN (op p q))) S') : FOK P f (un 2 (cur 2 (pureF (E2c op m)))) :=
  cur_ok 2 (pure_ok hF (E2c op m) fun vs v hv => by
    unfold E2c at hv
    split at hv
    · split at hv
      · rename_i a b hc
        obtain ⟨⟨p, rfl⟩, ⟨q, rfl⟩, l1, l2⟩ := hc
        cases hv
        obtain ⟨S', z⟩ := h p q l1 l2
        rw [val_strN, val_strN]
        exact ⟨by rfl, by rfl, S', by rw [un2p]; exact z _⟩
      · cases hv
    · cases hv)
theorem E2c_eq {op : Nat → Nat → Nat} {m a b : Nat} (ha : (strN a).length ≤ m) (hb : (strN b).length ≤ m) (S : St) (k : Cont) : cur 2 (pureF (E2c op m)) (.s (strN a)) (.s (strN b)) S k = k (.s (strN (op a b))) S := by
  have e : E2c op m [.s (strN a), .s (strN b)] = some (.s (strN (op a b))) := by
    unfold E2c
    simp only []
    rw [if_pos ⟨⟨a, rfl⟩, ⟨b, rfl⟩, ha, hb⟩, val_strN, val_strN]
  show pureF (E2c op m) [.s (strN a), .s (strN b)] S k = _
  simp only [pureF, e]
def F104t : Gn 2 := cur 2 (pureF (E2c (· - ·) 50000))
theorem K104t : FOK Tryz.prog 104 (un 2 F104t) := E2c_ok K104 fun p q la lb => by
  rcases Nat.lt_or_ge p q with h | h
  · exact ⟨_, fun k => sub_less h la lb _ k⟩
  · obtain ⟨S', _, z⟩ := sub_run h la lb mkS_run
    exact ⟨S', z⟩
end
end Go.AM

/- galoisref01.below. -/
namespace Go.AM
open Go.Proofs
open Go.AM.Q
open Go.AM.U
set_option linter.unusedVariables false
set_option linter.unusedSimpArgs false
noncomputable section
variable {S0 S : St} {out : V × St}
def B175 : CS 7 := (cSeq (cSeq (cReg fun kn v0 v1 v2 v3 v4 v5 v6 S => pGeq v3 (.i .i64 0) (fun a0 => kn v0 v1 v2 v3 a0 v5 v6 S)) (cCond (fun x y v0 v1 v2 v3 v4 v5 v6 S => pIf v4 (x v0 v1 v2 v3 v4 v5 v6 S) (y v0 v1 v2 v3 v4 v5 v6 S)) cSkip (cExit 0))) (cSeq (cBlock 1 (cSeq (cReg fun kn v0 v1 v2 v3 v4 v5 v6 S => pIdx 1 v0 v3 (fun a0 => pLd a0 S (fun a1 => pIdx 1 v1 v3 (fun a2 => pLd a2 S (fun a3 => pNeq a1 a3 (fun a4 => kn v0 v1 v2 v3 v4 a4 v6 S)))))) (cCond (fun x y v0 v1 v2 v3 v4 v5 v6 S => pIf v5 (x v0 v1 v2 v3 v4 v5 v6 S) (y v0 v1 v2 v3 v4 v5 v6 S)) (cSeq (cReg fun kn v0 v1 v2 v3 v4 v5 v6 S => pIdx 1 v0 v3 (fun a0 => pLd a0 S (fun a1 => pIdx 1 v1 v3 (fun a2 => pLd a2 S (fun a3 => pLss a1 a3 (fun a4 => kn v0 v1 v2 v3 v4 v5 a4 S)))))) cRet) cSkip))) (cReg fun kn v0 v1 v2 v3 v4 v5 v6 S => pSub v3 (.i .i64 1) (fun a0 => kn v0 v1 v2 a0 v4 v5 v6 S))))
def HT175 (f107 : Gn 1) (I0 : CS 7) : CS 7 := (cSeq (cReg fun kn v0 v1 v2 v3 v4 v5 v6 S => kn v0 v1 v2 v3 v4 v5 (.b false) S) (cSeq (cReg fun kn v0 v1 v2 v3 v4 v5 v6 S => f107 v0 S (fun a0 S => kn a0 v1 v2 v3 v4 v5 v6 S)) (cSeq (cSeq (cReg fun kn v0 v1 v2 v3 v4 v5 v6 S => pLen v0 (fun a0 => pLen v1 (fun a1 => pNeq a0 a1 (fun a2 => kn v0 v1 a2 v3 v4 v5 v6 S)))) (cCond (fun x y v0 v1 v2 v3 v4 v5 v6 S => pIf v2 (x v0 v1 v2 v3 v4 v5 v6 S) (y v0 v1 v2 v3 v4 v5 v6 S)) (cSeq (cReg fun kn v0 v1 v2 v3 v4 v5 v6 S => pLen v0 (fun a0 => pLen v1 (fun a1 => pLss a0 a1 (fun a2 => kn v0 v1 v2 v3 v4 v5 a2 S)))) cRet) cSkip)) (cSeq (cSeq (cReg fun kn v0 v1 v2 v3 v4 v5 v6 S => pLen v0 (fun a0 => pSub a0 (.i .i64 1) (fun a1 => kn v0 v1 v2 a1 v4 v5 v6 S))) I0) (cSeq (cReg fun kn v0 v1 v2 v3 v4 v5 v6 S => kn v0 v1 v2 v3 v4 v5 (.b false) S) cRet)))))
theorem C175_eq (f107 : Gn 1) : C175 f107 = HT175 f107 (cBlock 0 (cLoop B175)) := by rfl
section
variable (f107 : Gn 1) (K : Fn 7) (kx : Nat → Fn 7) (kr : Fn 7) (v0 v1 v2 v3 v4 v5 v6 a b d q q' x y r n' w3 w4 w5 : V) (S : St)
theorem be_end (h1 : ∀ c, pGeq v3 (nn 0) c = c (.b false)) : B175 K kx kr v0 v1 v2 v3 v4 v5 v6 S = kx 0 v0 v1 v2 v3 (.b false) v5 v6 S := by
  simp only [B175, cSeq, cReg, cCond, cBlock, cSkip, cExit, cRet, h1, ifF]
theorem be_ne (h1 : ∀ c, pGeq v3 (nn 0) c = c (.b true)) (h2 : ∀ c, pIdx 1 v0 v3 c = c q) (h3 : ∀ c, pLd q S c = c x) (h4 : ∀ c, pIdx 1 v1 v3 c = c q') (h5 : ∀ c, pLd q' S c = c y) (h6 : ∀ c, pNeq x y c = c (.b true)) (h7 : ∀ c, pLss x y c = c r) : B175 K kx kr v0 v1 v2 v3 v4 v5 v6 S = kr v0 v1 v2 v3 (.b true) (.b true) r S := by
  simp only [B175, cSeq, cReg, cCond, cBlock, cSkip, cExit, cRet, h1, h2, h3, h4, h5, h6, h7, ifT]
theorem be_eq (h1 : ∀ c, pGeq v3 (nn 0) c = c (.b true)) (h2 : ∀ c, pIdx 1 v0 v3 c = c q) (h3 : ∀ c, pLd q S c = c x) (h4 : ∀ c, pIdx 1 v1 v3 c = c q') (h5 : ∀ c, pLd q' S c = c y) (h6 : ∀ c, pNeq x y c = c (.b false)) (h8 : ∀ c, pSub v3 (nn 1) c = c n') : B175 K kx kr v0 v1 v2 v3 v4 v5 v6 S = K v0 v1 v2 n' (.b true) (.b false) v6 S := by
  simp only [B175, cSeq, cReg, cCond, cBlock, cSkip, cExit, cRet, h1, h2, h3, h4, h5, h6, h8, ifT, ifF]
theorem be_len (I0 : CS 7) (h1 : ∀ c, f107 v0 S c = c a S) (h2 : ∀ c, pLen a c = c b) (h3 : ∀ c, pLen v1 c = c d) (h4 : ∀ c, pNeq b d c = c (.b true)) (h5 : ∀ c, pLss b d c = c r) : HT175 f107 I0 K kx kr v0 v1 v2 v3 v4 v5 v6 S = kr a v1 (.b true) v3 v4 v5 r S := by
  simp only [HT175, cSeq, cReg, cCond, cBlock, cSkip, cExit, cRet, h1, h2, h3, h4, h5, ifT]
theorem be_headE (I0 : CS 7) (h1 : ∀ c, f107 v0 S c = c a S) (h2 : ∀ c, pLen a c = c b) (h3 : ∀ c, pLen v1 c = c d) (h4 : ∀ c, pNeq b d c = c (.b false)) (h5 : ∀ c, pSub b (nn 1) c = c n')
    (hL : ∀ (kn : Fn 7) (kx : Nat → Fn 7) (kr : Fn 7), I0 kn kx kr a v1 (.b false) n' v4 v5 (.b false) S = kn a v1 (.b false) w3 w4 w5 (.b false) S) : HT175 f107 I0 K kx kr v0 v1 v2 v3 v4 v5 v6 S = kr a v1 (.b false) w3 w4 w5 (.b false) S := by
  simp only [HT175, cSeq, cReg, cCond, cBlock, cSkip, cExit, cRet, h1, h2, h3, h4, h5, hL, ifF]
theorem be_headN (I0 : CS 7) (h1 : ∀ c, f107 v0 S c = c a S) (h2 : ∀ c, pLen a c = c b) (h3 : ∀ c, pLen v1 c = c d) (h4 : ∀ c, pNeq b d c = c (.b false)) (h5 : ∀ c, pSub b (nn 1) c = c n')
    (hL : ∀ (kn : Fn 7) (kx : Nat → Fn 7) (kr : Fn 7), I0 kn kx kr a v1 (.b false) n' v4 v5 (.b false) S = kr a v1 (.b false) w3 w4 w5 r S) : HT175 f107 I0 K kx kr v0 v1 v2 v3 v4 v5 v6 S = kr a v1 (.b false) w3 w4 w5 r S := by
  simp only [HT175, cSeq, cReg, cCond, cBlock, cSkip, cExit, cRet, h1, h2, h3, h4, h5, hL, ifF]
end
theorem uneq (a b : Nat) (c : V → R) : pNeq (uu a) (uu b) c = c (.b (decide (a ≠ b))) := by
  have e : pNeq (uu a) (uu b) c = retB c (Bool.not (Nat.beq a b)) := two_i ..
  rw [e, retB_eq]
  congr 2
  by_cases h : a = b
  · subst h; rw [Nat.beq_refl, decide_eq_false (by simp)]; rfl
  · rw [decide_eq_true h]
    cases hb : Nat.beq a b with
    | true => exact absurd (Nat.eq_of_beq_eq_true hb) h
    | false => rfl
theorem nneq (a b : Nat) (c : V → R) : pNeq (nn a) (nn b) c = c (.b (decide (a ≠ b))) := by
  have e : pNeq (nn a) (nn b) c = retB c (Bool.not (Nat.beq a b)) := two_i ..
  rw [e, retB_eq]
  congr 2
  by_cases h : a = b
  · subst h; rw [Nat.beq_refl, decide_eq_false (by simp)]; rfl
  · rw [decide_eq_true h]
    cases hb : Nat.beq a b with
    | true => exact absurd (Nat.eq_of_beq_eq_true hb) h
    | false => rfl
theorem split_ofL (B : Nat) (l : List Nat) (i : Nat) (hi : i ≤ l.length) : ofL B l = ofL B (l.take i) + B ^ i * ofL B (l.drop i) := by
  conv => lhs; rw [← List.take_append_drop i l]
  rw [ofL_app, List.length_take, Nat.min_eq_left hi]
theorem take_lt {B : Nat} (hB : 0 < B) {l : List Nat} (h : ∀ x ∈ l, x < B) (i : Nat) (hi : i ≤ l.length) : ofL B (l.take i) < B ^ i := by
  have := ofL_lt hB (l := l.take i) (fun x hx => h x (List.mem_of_mem_take hx))
  rwa [List.length_take, Nat.min_eq_left hi] at this
theorem be_loop {va vy : V} {x y : List Nat} (hx : KRow .u64 S va x) (hy : KRow .u64 S vy y) (bx : ∀ z ∈ x, z < B32) (by' : ∀ z ∈ y, z < B32) (hl : x.length = y.length) (lx : x.length ≤ 100000) : ∀ (N j : Nat) (v4 v5 : V), j ≤ x.length → j < N → ofL B32 (x.drop j) = ofL B32 (y.drop j) →
    (x = y ∧ ∃ w5, ∀ (kx : Nat → Fn 7) (kr : Fn 7) (v2 v6 : V), loopN B175 kx kr N va vy v2 (vk j) v4 v5 v6 S = kx 0 va vy v2 (nn (M64 - 1)) (.b false) w5 v6 S) ∨
    ∃ w3, ∀ (kx : Nat → Fn 7) (kr : Fn 7) (v2 v6 : V), loopN B175 kx kr N va vy v2 (vk j) v4 v5 v6 S = kr va vy v2 w3 (.b true) (.b true) (.b (decide (ofL B32 x < ofL B32 y))) S
  | 0, j, v4, v5, h1, h2, he => by omega
  | N + 1, 0, v4, v5, h1, h2, he => by
    rw [List.drop_zero, List.drop_zero] at he
    refine .inl ⟨?_, v5, fun kx kr v2 v6 => ?_⟩
    · have key : ∀ (a b : List Nat), a.length = b.length → (∀ z ∈ a, z < B32) → (∀ z ∈ b, z < B32) → ofL B32 a = ofL B32 b → a = b := fun a => by
        induction a with
        | nil =>
          intro b h _ _ _
          exact (List.length_eq_zero_iff.1 h.symm).symm
        | cons p a ih =>
          intro b h h3 h4 h5
          match b, h with
          | r :: b, h =>
            have p1 := h3 p (List.mem_cons_self ..)
            have p2 := h4 r (List.mem_cons_self ..)
            have h5 : p + B32 * ofL B32 a = r + B32 * ofL B32 b := h5
            have m1 : (p + B32 * ofL B32 a) % B32 = p := by rw [Nat.add_mul_mod_self_left, Nat.mod_eq_of_lt p1]
            have m2 : (r + B32 * ofL B32 b) % B32 = r := by rw [Nat.add_mul_mod_self_left, Nat.mod_eq_of_lt p2]
            have e1 : p = r := by rw [← m1, ← m2, h5]
            subst e1
            have e2 : ofL B32 a = ofL B32 b := Nat.eq_of_mul_eq_mul_left (show 0 < B32 by decide) (by omega)
            rw [ih b (by simpa using h) (fun z hz => h3 z (List.mem_cons_of_mem _ hz)) (fun z hz => h4 z (List.mem_cons_of_mem _ hz)) e2]
      exact key x y hl bx by' he
    · have e0 : vk 0 = nn (M64 - 1) := rfl
      rw [loopN_succ, e0, be_end (v3 := nn (M64 - 1)) (h1 := fun c => geq_neg (d := 1) (by omega) (by omega) c)]
  | N + 1, j + 1, v4, v5, h1, h2, he => by
    obtain ⟨q, s1, s2⟩ := hx.get (i := j) (by omega)
    obtain ⟨q', s3, s4⟩ := hy.get (i := j) (by omega)
    have ev : vk (j + 1) = nn j := rfl
    have g1 : ∀ c, pGeq (nn j) (nn 0) c = c (.b true) := fun c => by rw [geq_n (by omega) (by omega), decide_eq_true (by omega)]
    have xj := getD_lt bx (by decide) j
    have yj := getD_lt by' (by decide) j
    have dx := dropG B32 x j
    have dy := dropG B32 y j
    by_cases h : x.getD j 0 = y.getD j 0
    · rcases be_loop hx hy bx by' hl lx N j (.b true) (.b false) (by omega) (by omega) (by rw [dx, dy, h, he]) with ⟨e, w5, z⟩ | ⟨w3, z⟩
      · refine .inl ⟨e, w5, fun kx kr v2 v6 => ?_⟩
        rw [loopN_succ, ev, be_eq (v3 := nn j) (h1 := g1) (h2 := s1) (h3 := s2) (h4 := s3) (h5 := s4) (h6 := fun c => by rw [uneq, decide_eq_false (by simpa using h)]) (h8 := fun c => vk_sub j (by omega) c)]
        exact z kx kr v2 v6
      · refine .inr ⟨w3, fun kx kr v2 v6 => ?_⟩
        rw [loopN_succ, ev, be_eq (v3 := nn j) (h1 := g1) (h2 := s1) (h3 := s2) (h4 := s3) (h5 := s4) (h6 := fun c => by rw [uneq, decide_eq_false (by simpa using h)]) (h8 := fun c => vk_sub j (by omega) c)]
        exact z kx kr v2 v6
    · refine .inr ⟨nn j, fun kx kr v2 v6 => ?_⟩
      have hlt : (x.getD j 0 < y.getD j 0) ↔ (ofL B32 x < ofL B32 y) := by
        have ex := split_ofL B32 x j (by omega)
        have ey := split_ofL B32 y j (by omega)
        have tx := take_lt (B := B32) (by decide) bx j (by omega)
        have ty := take_lt (B := B32) (by decide) by' j (by omega)
        rw [dx] at ex; rw [dy, ← he] at ey
        rw [ex, ey]
        generalize ofL B32 (x.take j) = a at *
        generalize ofL B32 (y.take j) = b at *
        generalize ofL B32 (x.drop (j + 1)) = H at *
        generalize x.getD j 0 = p at *
        generalize y.getD j 0 = r at *
        generalize B32 ^ j = P at *
        constructor
        · intro hpr
          have := Nat.mul_le_mul_left P (show p + B32 * H + 1 ≤ r + B32 * H by omega)
          rw [Nat.mul_add P (p + B32 * H) 1] at this
          omega
        · intro hlt
          rcases Nat.lt_or_ge p r with h1 | h1
          · exact h1
          · have := Nat.mul_le_mul_left P (show r + B32 * H + 1 ≤ p + B32 * H by omega)
            rw [Nat.mul_add P (r + B32 * H) 1] at this
            omega
      rw [loopN_succ, ev, be_ne (v3 := nn j) (r := .b (decide (ofL B32 x < ofL B32 y))) (h1 := g1) (h2 := s1) (h3 := s2) (h4 := s3) (h5 := s4) (h6 := fun c => by rw [uneq, decide_eq_true h]) (h7 := fun c => by rw [ulss (by have : B32 = 4294967296 := rfl; omega) (by have : B32 = 4294967296 := rfl; omega), decide_eq_decide.2 hlt])]
theorem dg_mono {B : Nat} (hB : 2 ≤ B) {m n : Nat} (h : (dg B m).length < (dg B n).length) : m < n := by
  rcases Nat.lt_or_ge m n with h1 | h1
  · exact h1
  · have h2 := ofL_lt (B := B) (by omega) (dg_lt hB m)
    rw [ofL_dg hB] at h2
    have := dg_len hB _ n (Nat.lt_of_le_of_lt h1 h2)
    omega
theorem below_run {vx vy : V} {x : List Nat} {Y : Nat} (hx : KRow .u64 S vx x) (hy : KRow .u64 S vy (dg B32 Y)) (bx : ∀ z ∈ x, z < B32) (lx : x.length ≤ 100000) (ly : (dg B32 Y).length ≤ 100000) (k : Cont) : F175 vx vy S k = k (.b (decide (ofL B32 x < Y))) S := by
  obtain ⟨a, t1, _, _, t4⟩ := trim_run hx (by omega)
  rw [trim_dg (by decide) x bx] at t1
  have la : (dg B32 (ofL B32 x)).length ≤ x.length := by rw [← trim_dg (B := B32) (by decide) x bx, List.length_take]; exact Nat.min_le_right _ _
  unfold F175 G175
  by_cases h : (dg B32 (ofL B32 x)).length = (dg B32 Y).length
  · have h4 : ∀ c, pNeq (nn (dg B32 (ofL B32 x)).length) (nn (dg B32 Y).length) c = c (.b false) := fun c => by rw [nneq, decide_eq_false (by simpa using h)]
    have hd : (dg B32 (ofL B32 x)).drop (dg B32 (ofL B32 x)).length = [] := List.drop_length ..
    have hd2 : (dg B32 Y).drop (dg B32 (ofL B32 x)).length = [] := by rw [h]; exact List.drop_length ..
    rcases be_loop t1 hy (dg_lt (by decide) _) (dg_lt (by decide) _) h (by omega) 1000000 (dg B32 (ofL B32 x)).length .other .other (Nat.le_refl _) (by omega) (by rw [hd, hd2]) with ⟨e, w5, z⟩ | ⟨w3, z⟩
    · have hXY : ofL B32 x = Y := by rw [← ofL_dg (B := B32) (by decide) (ofL B32 x), e, ofL_dg (by decide)]
      rw [C175_eq, be_headE (a := a) (b := nn (dg B32 (ofL B32 x)).length) (d := nn (dg B32 Y).length) (n' := vk (dg B32 (ofL B32 x)).length) (w3 := nn (M64 - 1)) (w4 := .b false) (w5 := w5) (h1 := t4) (h2 := t1.len.1) (h3 := hy.len.1) (h4 := h4) (h5 := fun c => vk_sub _ (by omega) c) (hL := fun kn kx kr => ?_)]
      · rw [decide_eq_false (by omega)]
      · obtain ⟨kx', e1, e2⟩ := block_loop0 B175 kn kx kr
        rw [e2, z kx' kr, e1]
    · rw [ofL_dg (by decide), ofL_dg (by decide)] at z
      rw [C175_eq, be_headN (a := a) (b := nn (dg B32 (ofL B32 x)).length) (d := nn (dg B32 Y).length) (n' := vk (dg B32 (ofL B32 x)).length) (w3 := w3) (w4 := .b true) (w5 := .b true) (r := .b (decide (ofL B32 x < Y))) (h1 := t4) (h2 := t1.len.1) (h3 := hy.len.1) (h4 := h4) (h5 := fun c => vk_sub _ (by omega) c) (hL := fun kn kx kr => ?_)]
      obtain ⟨kx', e1, e2⟩ := block_loop0 B175 kn kx kr
      rw [e2, z kx' kr]
  · have hiff : ((dg B32 (ofL B32 x)).length < (dg B32 Y).length) ↔ ofL B32 x < Y := by
      constructor
      · exact dg_mono (by decide)
      · intro hlt
        rcases Nat.lt_or_ge (dg B32 (ofL B32 x)).length (dg B32 Y).length with h1 | h1
        · exact h1
        · have := dg_mono (B := B32) (by decide) (show (dg B32 Y).length < (dg B32 (ofL B32 x)).length by omega)
          omega
    rw [C175_eq, be_len (a := a) (b := nn (dg B32 (ofL B32 x)).length) (d := nn (dg B32 Y).length) (r := .b (decide (ofL B32 x < Y))) (h1 := t4) (h2 := t1.len.1) (h3 := hy.len.1) (h4 := fun c => by rw [nneq, decide_eq_true h]) (h5 := fun c => by rw [lss_n (by omega) (by omega), decide_eq_decide.2 hiff])]
end
end Go.AM

/- galoisref01.DivMod: the subtraction of a multiple of the divisor. -/
namespace Go.AM
open Go.Proofs
open Go.AM.Q
open Go.AM.U
set_option linter.unusedVariables false
set_option linter.unusedSimpArgs false
noncomputable section
variable {S0 S : St} {out : V × St}
def BS143 : CS 19 := (cSeq (cSeq (cReg fun kn v0 v1 v2 v3 v4 v5 v6 v7 v8 v9 v10 v11 v12 v13 v14 v15 v16 v17 v18 S => pLss v12 v5 (fun a0 => kn v0 v1 v2 v3 v4 v5 v6 v7 v8 v9 v10 v11 v12 a0 v14 v15 v16 v17 v18 S)) (cCond (fun x y v0 v1 v2 v3 v4 v5 v6 v7 v8 v9 v10 v11 v12 v13 v14 v15 v16 v17 v18 S => pIf v13 (x v0 v1 v2 v3 v4 v5 v6 v7 v8 v9 v10 v11 v12 v13 v14 v15 v16 v17 v18 S) (y v0 v1 v2 v3 v4 v5 v6 v7 v8 v9 v10 v11 v12 v13 v14 v15 v16 v17 v18 S)) cSkip (cExit 4))) (cSeq (cBlock 5 (cSeq (cReg fun kn v0 v1 v2 v3 v4 v5 v6 v7 v8 v9 v10 v11 v12 v13 v14 v15 v16 v17 v18 S => pIdx 1 v3 v12 (fun a0 => pLd a0 S (fun a1 => pMul a1 v11 (fun a2 => pAdd a2 v14 (fun a3 => kn v0 v1 v2 v3 v4 v5 v6 v7 v8 v9 v10 v11 v12 v13 v14 a3 v16 v17 v18 S))))) (cSeq (cReg fun kn v0 v1 v2 v3 v4 v5 v6 v7 v8 v9 v10 v11 v12 v13 v14 v15 v16 v17 v18 S => pShr v15 (.i .u64 32) (fun a0 => kn v0 v1 v2 v3 v4 v5 v6 v7 v8 v9 v10 v11 v12 v13 a0 v15 v16 v17 v18 S)) (cSeq (cSeq (cReg fun kn v0 v1 v2 v3 v4 v5 v6 v7 v8 v9 v10 v11 v12 v13 v14 v15 v16 v17 v18 S => pAdd v7 v12 (fun a0 => pIdx 1 v9 a0 (fun a1 => pLd a1 S (fun a2 => pAnd v15 (.i .u64 4294967295) (fun a3 => pLss a2 a3 (fun a4 => kn v0 v1 v2 v3 v4 v5 v6 v7 v8 v9 v10 v11 v12 v13 v14 v15 a4 v17 v18 S)))))) (cCond (fun x y v0 v1 v2 v3 v4 v5 v6 v7 v8 v9 v10 v11 v12 v13 v14 v15 v16 v17 v18 S => pIf v16 (x v0 v1 v2 v3 v4 v5 v6 v7 v8 v9 v10 v11 v12 v13 v14 v15 v16 v17 v18 S) (y v0 v1 v2 v3 v4 v5 v6 v7 v8 v9 v10 v11 v12 v13 v14 v15 v16 v17 v18 S)) (cSeq (cReg fun kn v0 v1 v2 v3 v4 v5 v6 v7 v8 v9 v10 v11 v12 v13 v14 v15 v16 v17 v18 S => pAdd v7 v12 (fun a0 => pAdd v7 v12 (fun a1 => pIdx 1 v9 a1 (fun a2 => pLd a2 S (fun a3 => pAdd a3 (.i .u64 4294967296) (fun a4 => pIdx 1 v9 a0 (fun a5 => pSt 1 a5 a4 S (fun S => kn v0 v1 v2 v3 v4 v5 v6 v7 v8 v9 v10 v11 v12 v13 v14 v15 v16 v17 v18 S)))))))) (cReg fun kn v0 v1 v2 v3 v4 v5 v6 v7 v8 v9 v10 v11 v12 v13 v14 v15 v16 v17 v18 S => pAdd v14 (.i .u64 1) (fun a0 => kn v0 v1 v2 v3 v4 v5 v6 v7 v8 v9 v10 v11 v12 v13 a0 v15 v16 v17 v18 S))) cSkip)) (cReg fun kn v0 v1 v2 v3 v4 v5 v6 v7 v8 v9 v10 v11 v12 v13 v14 v15 v16 v17 v18 S => pAdd v7 v12 (fun a0 => pAdd v7 v12 (fun a1 => pIdx 1 v9 a1 (fun a2 => pLd a2 S (fun a3 => pAnd v15 (.i .u64 4294967295) (fun a4 => pSub a3 a4 (fun a5 => pIdx 1 v9 a0 (fun a6 => pSt 1 a6 a5 S (fun S => kn v0 v1 v2 v3 v4 v5 v6 v7 v8 v9 v10 v11 v12 v13 v14 v15 v16 v17 v18 S))))))))))))) (cReg fun kn v0 v1 v2 v3 v4 v5 v6 v7 v8 v9 v10 v11 v12 v13 v14 v15 v16 v17 v18 S => pAdd v12 (.i .i64 1) (fun a0 => kn v0 v1 v2 v3 v4 v5 v6 v7 v8 v9 v10 v11 a0 v13 v14 v15 v16 v17 v18 S))))
def BG143 (f175 : Gn 2) (I2 : CS 19) : CS 19 := (cSeq (cSeq (cReg fun kn v0 v1 v2 v3 v4 v5 v6 v7 v8 v9 v10 v11 v12 v13 v14 v15 v16 v17 v18 S => pSlc 1 v9 (some v7) none none (fun a0 => f175 a0 v3 S (fun a1 S => pNot a1 (fun a2 => kn v0 v1 v2 v3 v4 v5 v6 v7 v8 v9 a2 v11 v12 v13 v14 v15 v16 v17 v18 S)))) (cCond (fun x y v0 v1 v2 v3 v4 v5 v6 v7 v8 v9 v10 v11 v12 v13 v14 v15 v16 v17 v18 S => pIf v10 (x v0 v1 v2 v3 v4 v5 v6 v7 v8 v9 v10 v11 v12 v13 v14 v15 v16 v17 v18 S) (y v0 v1 v2 v3 v4 v5 v6 v7 v8 v9 v10 v11 v12 v13 v14 v15 v16 v17 v18 S)) cSkip (cExit 2))) (cBlock 3 (cSeq (cReg fun kn v0 v1 v2 v3 v4 v5 v6 v7 v8 v9 v10 v11 v12 v13 v14 v15 v16 v17 v18 S => pAdd v7 v5 (fun a0 => pIdx 1 v9 a0 (fun a1 => pLd a1 S (fun a2 => pShl a2 (.i .u64 32) (fun a3 => pAdd v7 v5 (fun a4 => pSub a4 (.i .i64 1) (fun a5 => pIdx 1 v9 a5 (fun a6 => pLd a6 S (fun a7 => pAdd a3 a7 (fun a8 => pSub v5 (.i .i64 1) (fun a9 => pIdx 1 v3 a9 (fun a10 => pLd a10 S (fun a11 => pAdd a11 (.i .u64 1) (fun a12 => pQuo a8 a12 (fun a13 => pMx [(.i .u64 1), a13] (fun a14 => kn v0 v1 v2 v3 v4 v5 v6 v7 v8 v9 v10 a14 v12 v13 v14 v15 v16 v17 v18 S)))))))))))))))) (cSeq (cReg fun kn v0 v1 v2 v3 v4 v5 v6 v7 v8 v9 v10 v11 v12 v13 v14 v15 v16 v17 v18 S => pIdx 1 v6 v7 (fun a0 => pLd a0 S (fun a1 => pAdd a1 v11 (fun a2 => pIdx 1 v6 v7 (fun a3 => pSt 1 a3 a2 S (fun S => kn v0 v1 v2 v3 v4 v5 v6 v7 v8 v9 v10 v11 v12 v13 v14 v15 v16 v17 v18 S)))))) (cSeq (cReg fun kn v0 v1 v2 v3 v4 v5 v6 v7 v8 v9 v10 v11 v12 v13 v14 v15 v16 v17 v18 S => kn v0 v1 v2 v3 v4 v5 v6 v7 v8 v9 v10 v11 v12 v13 (.i .u64 0) v15 v16 v17 v18 S) (cSeq (cSeq (cReg fun kn v0 v1 v2 v3 v4 v5 v6 v7 v8 v9 v10 v11 v12 v13 v14 v15 v16 v17 v18 S => kn v0 v1 v2 v3 v4 v5 v6 v7 v8 v9 v10 v11 (.i .i64 0) v13 v14 v15 v16 v17 v18 S) I2) (cReg fun kn v0 v1 v2 v3 v4 v5 v6 v7 v8 v9 v10 v11 v12 v13 v14 v15 v16 v17 v18 S => pAdd v7 v5 (fun a0 => pAdd v7 v5 (fun a1 => pIdx 1 v9 a1 (fun a2 => pLd a2 S (fun a3 => pSub a3 v14 (fun a4 => pIdx 1 v9 a0 (fun a5 => pSt 1 a5 a4 S (fun S => kn v0 v1 v2 v3 v4 v5 v6 v7 v8 v9 v10 v11 v12 v13 v14 v15 v16 v17 v18 S))))))))))))))
def BK143 (I1 : CS 19) : CS 19 := (cSeq (cSeq (cReg fun kn v0 v1 v2 v3 v4 v5 v6 v7 v8 v9 v10 v11 v12 v13 v14 v15 v16 v17 v18 S => pGeq v7 (.i .i64 0) (fun a0 => kn v0 v1 v2 v3 v4 v5 v6 v7 a0 v9 v10 v11 v12 v13 v14 v15 v16 v17 v18 S)) (cCond (fun x y v0 v1 v2 v3 v4 v5 v6 v7 v8 v9 v10 v11 v12 v13 v14 v15 v16 v17 v18 S => pIf v8 (x v0 v1 v2 v3 v4 v5 v6 v7 v8 v9 v10 v11 v12 v13 v14 v15 v16 v17 v18 S) (y v0 v1 v2 v3 v4 v5 v6 v7 v8 v9 v10 v11 v12 v13 v14 v15 v16 v17 v18 S)) cSkip (cExit 0))) (cSeq (cBlock 1 I1) (cReg fun kn v0 v1 v2 v3 v4 v5 v6 v7 v8 v9 v10 v11 v12 v13 v14 v15 v16 v17 v18 S => pSub v7 (.i .i64 1) (fun a0 => kn v0 v1 v2 v3 v4 v5 v6 a0 v8 v9 v10 v11 v12 v13 v14 v15 v16 v17 v18 S))))
def HT143 (f59 f60 : Gn 1) (I0 : CS 19) : CS 19 := (cSeq (cReg fun kn v0 v1 v2 v3 v4 v5 v6 v7 v8 v9 v10 v11 v12 v13 v14 v15 v16 v17 v18 S => kn v0 v1 v2 v3 v4 v5 v6 v7 v8 v9 v10 v11 v12 v13 v14 v15 v16 (.s []) (.s []) S) (cSeq (cSeq (cReg fun kn v0 v1 v2 v3 v4 v5 v6 v7 v8 v9 v10 v11 v12 v13 v14 v15 v16 v17 v18 S => pEqS true v1 (.s []) (fun a0 => kn v0 v1 a0 v3 v4 v5 v6 v7 v8 v9 v10 v11 v12 v13 v14 v15 v16 v17 v18 S)) (cCond (fun x y v0 v1 v2 v3 v4 v5 v6 v7 v8 v9 v10 v11 v12 v13 v14 v15 v16 v17 v18 S => pIf v2 (x v0 v1 v2 v3 v4 v5 v6 v7 v8 v9 v10 v11 v12 v13 v14 v15 v16 v17 v18 S) (y v0 v1 v2 v3 v4 v5 v6 v7 v8 v9 v10 v11 v12 v13 v14 v15 v16 v17 v18 S)) (cSeq (cReg fun kn v0 v1 v2 v3 v4 v5 v6 v7 v8 v9 v10 v11 v12 v13 v14 v15 v16 v17 v18 S => kn v0 v1 v2 v3 v4 v5 v6 v7 v8 v9 v10 v11 v12 v13 v14 v15 v16 (.s []) (.s []) S) cRet) cSkip)) (cSeq (cReg fun kn v0 v1 v2 v3 v4 v5 v6 v7 v8 v9 v10 v11 v12 v13 v14 v15 v16 v17 v18 S => f59 v0 S (fun a0 S => f59 v1 S (fun a1 S => kn v0 v1 v2 a1 a0 v5 v6 v7 v8 v9 v10 v11 v12 v13 v14 v15 v16 v17 v18 S))) (cSeq (cReg fun kn v0 v1 v2 v3 v4 v5 v6 v7 v8 v9 v10 v11 v12 v13 v14 v15 v16 v17 v18 S => pLen v3 (fun a0 => kn v0 v1 v2 v3 v4 a0 v6 v7 v8 v9 v10 v11 v12 v13 v14 v15 v16 v17 v18 S)) (cSeq (cReg fun kn v0 v1 v2 v3 v4 v5 v6 v7 v8 v9 v10 v11 v12 v13 v14 v15 v16 v17 v18 S => pBsl [(.i .u64 0)] 1 [(0, 1, (.i .u64 0))] S (fun a0 S => pApp 1 v4 a0 S (fun a1 S => kn v0 v1 v2 v3 v4 v5 v6 v7 v8 a1 v10 v11 v12 v13 v14 v15 v16 v17 v18 S))) (cSeq (cReg fun kn v0 v1 v2 v3 v4 v5 v6 v7 v8 v9 v10 v11 v12 v13 v14 v15 v16 v17 v18 S => pLen v4 (fun a0 => pSub a0 v5 (fun a1 => pAdd a1 (.i .i64 1) (fun a2 => pMx [(.i .i64 0), a2] (fun a3 => pMks [(.i .u64 0)] a3 a3 S (fun a4 S => kn v0 v1 v2 v3 v4 v5 a4 v7 v8 v9 v10 v11 v12 v13 v14 v15 v16 v17 v18 S)))))) (cSeq (cSeq (cReg fun kn v0 v1 v2 v3 v4 v5 v6 v7 v8 v9 v10 v11 v12 v13 v14 v15 v16 v17 v18 S => pLen v6 (fun a0 => pSub a0 (.i .i64 1) (fun a1 => kn v0 v1 v2 v3 v4 v5 v6 a1 v8 v9 v10 v11 v12 v13 v14 v15 v16 v17 v18 S))) I0) (cSeq (cReg fun kn v0 v1 v2 v3 v4 v5 v6 v7 v8 v9 v10 v11 v12 v13 v14 v15 v16 v17 v18 S => f60 v6 S (fun a0 S => f60 v9 S (fun a1 S => kn v0 v1 v2 v3 v4 v5 v6 v7 v8 v9 v10 v11 v12 v13 v14 v15 v16 a0 a1 S))) cRet))))))))
theorem C143_eq (f59 f60 : Gn 1) (f175 : Gn 2) : C143 f59 f60 f175 = HT143 f59 f60 (cBlock 0 (cLoop (BK143 (cBlock 2 (cLoop (BG143 f175 (cBlock 4 (cLoop BS143)))))))) := by rfl
section
variable (f59 f60 : Gn 1) (f175 : Gn 2) (K : Fn 19) (kx : Nat → Fn 19) (kr : Fn 19) (v0 v1 v2 v3 v4 v5 v6 v7 v8 v9 v10 v11 v12 v13 v14 v15 v16 v17 v18 a b d e f g h i j p q q' q2 x x' y z s o r c' c2 n' t t1 t2 t3 m w2 w8 w10 w11 w12 w13 w14 w15 w16 : V) (S S1 S2 S3 S4 S5 S6 : St)
theorem ds_end (h1 : ∀ c, pLss v12 v5 c = c (.b false)) : BS143 K kx kr v0 v1 v2 v3 v4 v5 v6 v7 v8 v9 v10 v11 v12 v13 v14 v15 v16 v17 v18 S = kx 4 v0 v1 v2 v3 v4 v5 v6 v7 v8 v9 v10 v11 v12 (.b false) v14 v15 v16 v17 v18 S := by
  simp only [BS143, cSeq, cReg, cCond, cBlock, cSkip, cExit, cRet, h1, ifF]
theorem ds_b (h1 : ∀ c, pLss v12 v5 c = c (.b true)) (h2 : ∀ c, pIdx 1 v3 v12 c = c q) (h3 : ∀ c, pLd q S c = c y) (h4 : ∀ c, pMul y v11 c = c z) (h5 : ∀ c, pAdd z v14 c = c p) (h6 : ∀ c, pShr p (uu 32) c = c c') (h7 : ∀ c, pAdd v7 v12 c = c a) (h8 : ∀ c, pIdx 1 v9 a c = c q') (h9 : ∀ c, pLd q' S c = c x) (h10 : ∀ c, pAnd p (uu 4294967295) c = c m) (h11 : ∀ c, pLss x m c = c (.b true))
    (h12 : ∀ c, pAdd x (uu 4294967296) c = c x') (h13 : ∀ c, pSt 1 q' x' S c = c S1) (h14 : ∀ c, pAdd c' (uu 1) c = c c2) (h15 : ∀ c, pLd q' S1 c = c x') (h16 : ∀ c, pSub x' m c = c s) (h17 : ∀ c, pSt 1 q' s S1 c = c S2) (h18 : ∀ c, pAdd v12 (nn 1) c = c n') :
    BS143 K kx kr v0 v1 v2 v3 v4 v5 v6 v7 v8 v9 v10 v11 v12 v13 v14 v15 v16 v17 v18 S = K v0 v1 v2 v3 v4 v5 v6 v7 v8 v9 v10 v11 n' (.b true) c2 p (.b true) v17 v18 S2 := by
  simp only [BS143, cSeq, cReg, cCond, cBlock, cSkip, cExit, cRet, h1, h2, h3, h4, h5, h6, h7, h8, h9, h10, h11, h12, h13, h14, h15, h16, h17, h18, ifT]
theorem ds_n (h1 : ∀ c, pLss v12 v5 c = c (.b true)) (h2 : ∀ c, pIdx 1 v3 v12 c = c q) (h3 : ∀ c, pLd q S c = c y) (h4 : ∀ c, pMul y v11 c = c z) (h5 : ∀ c, pAdd z v14 c = c p) (h6 : ∀ c, pShr p (uu 32) c = c c') (h7 : ∀ c, pAdd v7 v12 c = c a) (h8 : ∀ c, pIdx 1 v9 a c = c q') (h9 : ∀ c, pLd q' S c = c x) (h10 : ∀ c, pAnd p (uu 4294967295) c = c m) (h11 : ∀ c, pLss x m c = c (.b false))
    (h16 : ∀ c, pSub x m c = c s) (h17 : ∀ c, pSt 1 q' s S c = c S2) (h18 : ∀ c, pAdd v12 (nn 1) c = c n') :
    BS143 K kx kr v0 v1 v2 v3 v4 v5 v6 v7 v8 v9 v10 v11 v12 v13 v14 v15 v16 v17 v18 S = K v0 v1 v2 v3 v4 v5 v6 v7 v8 v9 v10 v11 n' (.b true) c' p (.b false) v17 v18 S2 := by
  simp only [BS143, cSeq, cReg, cCond, cBlock, cSkip, cExit, cRet, h1, h2, h3, h4, h5, h6, h7, h8, h9, h10, h11, h16, h17, h18, ifT, ifF]
theorem dg_end (I2 : CS 19) (h1 : ∀ c, pSlc 1 v9 (some v7) none none c = c a) (h2 : ∀ c, f175 a v3 S c = c (.b true) S) (h3 : ∀ c, pNot (.b true) c = c (.b false)) : BG143 f175 I2 K kx kr v0 v1 v2 v3 v4 v5 v6 v7 v8 v9 v10 v11 v12 v13 v14 v15 v16 v17 v18 S = kx 2 v0 v1 v2 v3 v4 v5 v6 v7 v8 v9 (.b false) v11 v12 v13 v14 v15 v16 v17 v18 S := by
  simp only [BG143, cSeq, cReg, cCond, cBlock, cSkip, cExit, cRet, h1, h2, h3, ifF]
theorem dg_go (I2 : CS 19) (h1 : ∀ c, pSlc 1 v9 (some v7) none none c = c a) (h2 : ∀ c, f175 a v3 S c = c (.b false) S) (h3 : ∀ c, pNot (.b false) c = c (.b true)) (g1 : ∀ c, pAdd v7 v5 c = c b) (g2 : ∀ c, pIdx 1 v9 b c = c q) (g3 : ∀ c, pLd q S c = c x) (g4 : ∀ c, pShl x (uu 32) c = c t1) (g5 : ∀ c, pSub b (nn 1) c = c d) (g6 : ∀ c, pIdx 1 v9 d c = c q') (g7 : ∀ c, pLd q' S c = c y) (g8 : ∀ c, pAdd t1 y c = c t2)
    (g9 : ∀ c, pSub v5 (nn 1) c = c e) (g10 : ∀ c, pIdx 1 v3 e c = c q2) (g11 : ∀ c, pLd q2 S c = c z) (g12 : ∀ c, pAdd z (uu 1) c = c t3) (g13 : ∀ c, pQuo t2 t3 c = c s) (g14 : ∀ c, pMx [uu 1, s] c = c g) (k1 : ∀ c, pIdx 1 v6 v7 c = c p) (k2 : ∀ c, pLd p S c = c o) (k3 : ∀ c, pAdd o g c = c r) (k4 : ∀ c, pSt 1 p r S c = c S1)
    (hI : ∀ (kn : Fn 19) (kx : Nat → Fn 19) (kr : Fn 19), I2 kn kx kr v0 v1 v2 v3 v4 v5 v6 v7 v8 v9 (.b true) g (nn 0) v13 (uu 0) v15 v16 v17 v18 S1 = kn v0 v1 v2 v3 v4 v5 v6 v7 v8 v9 (.b true) g w12 w13 w14 w15 w16 v17 v18 S2) (l1 : ∀ c, pLd q S2 c = c x') (l2 : ∀ c, pSub x' w14 c = c m) (l3 : ∀ c, pSt 1 q m S2 c = c S3) :
    BG143 f175 I2 K kx kr v0 v1 v2 v3 v4 v5 v6 v7 v8 v9 v10 v11 v12 v13 v14 v15 v16 v17 v18 S = K v0 v1 v2 v3 v4 v5 v6 v7 v8 v9 (.b true) g w12 w13 w14 w15 w16 v17 v18 S3 := by
  simp only [BG143, cSeq, cReg, cCond, cBlock, cSkip, cExit, cRet, h1, h2, h3, g1, g2, g3, g4, g5, g6, g7, g8, g9, g10, g11, g12, g13, g14, k1, k2, k3, k4, hI, l1, l2, l3, ifT]
theorem dk_end (I1 : CS 19) (h1 : ∀ c, pGeq v7 (nn 0) c = c (.b false)) : BK143 I1 K kx kr v0 v1 v2 v3 v4 v5 v6 v7 v8 v9 v10 v11 v12 v13 v14 v15 v16 v17 v18 S = kx 0 v0 v1 v2 v3 v4 v5 v6 v7 (.b false) v9 v10 v11 v12 v13 v14 v15 v16 v17 v18 S := by
  simp only [BK143, cSeq, cReg, cCond, cBlock, cSkip, cExit, cRet, h1, ifF]
theorem dk_go (I1 : CS 19) (h1 : ∀ c, pGeq v7 (nn 0) c = c (.b true)) (hI : ∀ (kn : Fn 19) (kx : Nat → Fn 19) (kr : Fn 19), I1 kn kx kr v0 v1 v2 v3 v4 v5 v6 v7 (.b true) v9 v10 v11 v12 v13 v14 v15 v16 v17 v18 S = kn v0 v1 v2 v3 v4 v5 v6 v7 (.b true) v9 w10 w11 w12 w13 w14 w15 w16 v17 v18 S1) (h2 : ∀ c, pSub v7 (nn 1) c = c n') :
    BK143 I1 K kx kr v0 v1 v2 v3 v4 v5 v6 v7 v8 v9 v10 v11 v12 v13 v14 v15 v16 v17 v18 S = K v0 v1 v2 v3 v4 v5 v6 n' (.b true) v9 w10 w11 w12 w13 w14 w15 w16 v17 v18 S1 := by
  simp only [BK143, cSeq, cReg, cCond, cBlock, cSkip, cExit, cRet, h1, hI, h2, ifT]
theorem d_head (I0 : CS 19) (h0 : ∀ c, pEqS true v1 (.s []) c = c (.b false)) (h1 : ∀ c, f59 v0 S c = c a S1) (h2 : ∀ c, f59 v1 S1 c = c b S2) (h3 : ∀ c, pLen b c = c d) (h4 : ∀ c : Cont, pBsl [.i .u64 0] 1 [(0, 1, .i .u64 0)] S2 (fun z S => pApp 1 a z S c) = c e S3) (h5 : ∀ c, pLen a c = c f) (h6 : ∀ c, pSub f d c = c g) (h7 : ∀ c, pAdd g (nn 1) c = c h) (h8 : ∀ c, pMx [nn 0, h] c = c i) (h9 : ∀ c : Cont, pMks [.i .u64 0] i i S3 c = c j S4) (h10 : ∀ c, pLen j c = c m) (h11 : ∀ c, pSub m (nn 1) c = c n')
    (hL : ∀ (kn : Fn 19) (kx : Nat → Fn 19) (kr : Fn 19), I0 kn kx kr v0 v1 (.b false) b a d j n' v8 e v10 v11 v12 v13 v14 v15 v16 (.s []) (.s []) S4 = kn v0 v1 (.b false) b a d j w2 w8 e w10 w11 w12 w13 w14 w15 w16 (.s []) (.s []) S5) (h12 : ∀ c, f60 j S5 c = c r S6) (S7 : St) (h13 : ∀ c, f60 e S6 c = c s S7) :
    HT143 f59 f60 I0 K kx kr v0 v1 v2 v3 v4 v5 v6 v7 v8 v9 v10 v11 v12 v13 v14 v15 v16 v17 v18 S = kr v0 v1 (.b false) b a d j w2 w8 e w10 w11 w12 w13 w14 w15 w16 r s S7 := by
  simp only [HT143, cSeq, cReg, cCond, cBlock, cSkip, cExit, cRet, h0, h1, h2, h3, h4, h5, h6, h7, h8, h9, h10, h11, hL, h12, h13, ifF]
end
theorem ds_loop {vy : V} {y : List Nat} {id : Pos} {g k nr m : Nat} {t : List V} (hy : ∀ z ∈ y, z < B32) (ly : y.length ≤ 90000) (hg : g < B32) (hkn : k + y.length < nr) (hnr : nr ≤ 200000) (L0 : List Nat) :
    ∀ (N i bw : Nat) (S : St) (L : List Nat) (v13 v15 v16 : V), i ≤ y.length → y.length < N + i → L.length = nr → bw ≤ B32 → Run S0 S → WRow S0 S id L t → TRow S0 vy y S id → (∀ z ∈ L, z < B32) → (∀ j, j < k ∨ k + y.length ≤ j → L.getD j 0 = L0.getD j 0) →
      ofL B32 L + B32 ^ k * (g * ofL B32 y) = ofL B32 L0 + B32 ^ (k + i) * (bw + g * ofL B32 (y.drop i)) →
    ∃ S' w15 w16 L' bw', Run S0 S' ∧ WRow S0 S' id L' t ∧ L'.length = nr ∧ bw' ≤ B32 ∧ (∀ z ∈ L', z < B32) ∧ (∀ j, j < k ∨ k + y.length ≤ j → L'.getD j 0 = L0.getD j 0) ∧ ofL B32 L' + B32 ^ k * (g * ofL B32 y) = ofL B32 L0 + B32 ^ (k + y.length) * bw' ∧ (∀ q ds, q ≠ id → Own S0 S q ds → Own S0 S' q ds) ∧
      ∀ (kx : Nat → Fn 19) (kr : Fn 19) (v0 v1 v2 v4 v6 v8 v10 v17 v18 : V), loopN BS143 kx kr N v0 v1 v2 vy v4 (nn y.length) v6 (nn k) v8 (.so id 0 nr m 1) v10 (uu g) (nn i) v13 (uu bw) v15 v16 v17 v18 S = kx 4 v0 v1 v2 vy v4 (nn y.length) v6 (nn k) v8 (.so id 0 nr m 1) v10 (uu g) (nn y.length) (.b false) (uu bw') w15 w16 v17 v18 S'
  | 0, i, bw, S, L, v13, v15, v16, h1, h2, hL, hb, r, ho, hr, hl, hs, he => by omega
  | N + 1, i, bw, S, L, v13, v15, v16, h1, h2, hL, hb, r, ho, hr, hl, hs, he => by
    have eB : B32 = 4294967296 := rfl
    by_cases hi : i < y.length
    · have bL := getD_lt hl (by decide) (k + i)
      have bY := getD_lt hy (by decide) i
      have hyg : y.getD i 0 * g ≤ 4294967295 * 4294967295 := Nat.mul_le_mul (by omega) (by omega)
      have e1 : ∀ c, pLss (nn i) (nn y.length) c = c (.b true) := fun c => by rw [lss_n (by omega) (by omega), decide_eq_true hi]
      have e7 : ∀ c, pAdd (nn k) (nn i) c = c (nn (k + i)) := fun c => add_n (by omega) c
      have e8 : ∀ c, pIdx 1 (.so id 0 nr m 1) (nn (k + i)) c = c (.p id (k + i)) := fun c => idx_so id (by omega) (by omega) c
      have e9 : ∀ c, pLd (.p id (k + i)) S c = c (uu (L.getD (k + i) 0)) := fun c => ho.get (by omega) c
      have e18 : ∀ c, pAdd (nn i) (nn 1) c = c (nn (i + 1)) := fun c => add_n (by omega) c
      obtain ⟨q, t3, t4⟩ := hr.row.get hi
      generalize hp : y.getD i 0 * g + bw = p at *
      have hp64 : p < 18446744073709551616 := by omega
      have hdm := Nat.div_add_mod p B32
      have hpm : p % B32 < B32 := Nat.mod_lt _ (by decide)
      have hpd : p / B32 < B32 := Nat.div_lt_of_lt_mul (by show p < 4294967296 * 4294967296; omega)
      have e4 : ∀ c, pMul (uu (y.getD i 0)) (uu g) c = c (uu (y.getD i 0 * g)) := fun c => umul (by omega) c
      have e5 : ∀ c, pAdd (uu (y.getD i 0 * g)) (uu bw) c = c (uu p) := fun c => by rw [uadd (by omega), hp]
      have cont : ∀ (e nv : Nat) (S2 : St) (w13 w15 w16 : V), nv < B32 → e ≤ 1 → nv + p % B32 = L.getD (k + i) 0 + B32 * e → Run S0 S2 → WRow S0 S2 id (L.set (k + i) nv) t → (∀ q ds, q ≠ id → Own S0 S q ds → Own S0 S2 q ds) →
          (∀ (K : Fn 19) (kx : Nat → Fn 19) (kr : Fn 19) (v0 v1 v2 v4 v6 v8 v10 v17 v18 : V), BS143 K kx kr v0 v1 v2 vy v4 (nn y.length) v6 (nn k) v8 (.so id 0 nr m 1) v10 (uu g) (nn i) v13 (uu bw) v15 v16 v17 v18 S = K v0 v1 v2 vy v4 (nn y.length) v6 (nn k) v8 (.so id 0 nr m 1) v10 (uu g) (nn (i + 1)) w13 (uu (p / B32 + e)) w15 w16 v17 v18 S2) →
          ∃ S' w15 w16 L' bw', Run S0 S' ∧ WRow S0 S' id L' t ∧ L'.length = nr ∧ bw' ≤ B32 ∧ (∀ z ∈ L', z < B32) ∧ (∀ j, j < k ∨ k + y.length ≤ j → L'.getD j 0 = L0.getD j 0) ∧ ofL B32 L' + B32 ^ k * (g * ofL B32 y) = ofL B32 L0 + B32 ^ (k + y.length) * bw' ∧ (∀ q ds, q ≠ id → Own S0 S q ds → Own S0 S' q ds) ∧
            ∀ (kx : Nat → Fn 19) (kr : Fn 19) (v0 v1 v2 v4 v6 v8 v10 v17 v18 : V), loopN BS143 kx kr (N + 1) v0 v1 v2 vy v4 (nn y.length) v6 (nn k) v8 (.so id 0 nr m 1) v10 (uu g) (nn i) v13 (uu bw) v15 v16 v17 v18 S = kx 4 v0 v1 v2 vy v4 (nn y.length) v6 (nn k) v8 (.so id 0 nr m 1) v10 (uu g) (nn y.length) (.b false) (uu bw') w15 w16 v17 v18 S' := fun e nv S2 w13 w15 w16 hnv hee heq r2 ho2 k2 run => by
        obtain ⟨S', x15, x16, L', bw', z1, z2, z3, z4, z5, z6, z7, z8, z9⟩ := ds_loop (m := m) (t := t) hy ly hg hkn hnr L0 N (i + 1) (p / B32 + e) S2 (L.set (k + i) nv) w13 w15 w16 (by omega) (by omega) (by rw [List.length_set]; exact hL) (by omega) r2 ho2 (hr.step k2) (fun z hz => by
          rcases List.mem_or_eq_of_mem_set hz with h | h
          · exact hl z h
          · rw [h]; exact hnv) (fun j hj => by rw [gset, if_neg (by omega)]; exact hs j hj) (by
          have e2 := ofL_set (B := B32) L (k + i) nv (by omega)
          have hdr := dropG B32 y i
          rw [hdr] at he
          rw [show k + (i + 1) = (k + i) + 1 by omega, Nat.pow_succ]
          generalize ofL B32 (y.drop (i + 1)) = Y at *
          generalize y.getD i 0 = yi at *
          generalize L.getD (k + i) 0 = li at *
          generalize B32 ^ (k + i) = Pw at *
          generalize B32 ^ k * (g * ofL B32 y) = G at *
          have f0 : bw + g * (yi + B32 * Y) = p + B32 * (g * Y) := by
            rw [Nat.mul_add, ← hp, Nat.mul_comm yi g, Nat.mul_left_comm g B32 Y]; omega
          have f1 : Pw * (p + B32 * (g * Y)) = Pw * p + Pw * (B32 * (g * Y)) := Nat.mul_add ..
          have f2 : Pw * B32 * (p / B32 + e + g * Y) = Pw * (B32 * (p / B32)) + Pw * (B32 * e) + Pw * (B32 * (g * Y)) := by
            rw [Nat.mul_assoc, Nat.mul_add, Nat.mul_add, Nat.mul_add, Nat.mul_add]
          have f3 : Pw * p = Pw * (B32 * (p / B32)) + Pw * (p % B32) := by rw [← Nat.mul_add, hdm]
          have f4 : Pw * nv + Pw * (p % B32) = Pw * li + Pw * (B32 * e) := by rw [← Nat.mul_add, ← Nat.mul_add, heq]
          rw [f0, f1] at he
          rw [f2]
          omega)
        exact ⟨S', x15, x16, L', bw', z1, z2, z3, z4, z5, z6, z7, fun q ds a b => z8 q ds a (k2 q ds a b), fun kx kr v0 v1 v2 v4 v6 v8 v10 v17 v18 => by rw [loopN_succ, run]; exact z9 kx kr v0 v1 v2 v4 v6 v8 v10 v17 v18⟩
      by_cases hb2 : L.getD (k + i) 0 < p % B32
      · obtain ⟨S1, r1, o1, k1, a1⟩ := ho.put r (j := k + i) (by omega) (L.getD (k + i) 0 + 4294967296)
        have gx : (L.set (k + i) (L.getD (k + i) 0 + 4294967296)).getD (k + i) 0 = L.getD (k + i) 0 + 4294967296 := by rw [gset, if_pos ⟨rfl, by omega⟩]
        have e15 : ∀ c, pLd (.p id (k + i)) S1 c = c (uu (L.getD (k + i) 0 + 4294967296)) := fun c => by rw [o1.get (by rw [List.length_set]; omega), gx]
        obtain ⟨S2, r2, o2, k2, a2⟩ := o1.put r1 (j := k + i) (by rw [List.length_set]; omega) (L.getD (k + i) 0 + 4294967296 - p % B32)
        rw [List.set_set] at o2
        exact cont 1 _ S2 (.b true) (uu p) (.b true) (by omega) (by omega) (by omega) r2 o2 (fun q ds a b => k2 q ds a (k1 q ds a b)) (fun K kx kr v0 v1 v2 v4 v6 v8 v10 v17 v18 => by
          rw [ds_b (h1 := e1) (h2 := t3) (h3 := t4) (h4 := e4) (h5 := e5) (h6 := fun c => ushr32 _ c) (h7 := e7) (h8 := e8) (h9 := e9) (h10 := fun c => ulow _ c) (h11 := fun c => by rw [ulss (by omega) (by omega), decide_eq_true hb2]) (h12 := fun c => uadd (by omega) c) (h13 := a1) (h14 := fun c => uadd (by omega) c) (h15 := e15) (h16 := fun c => usub (by omega) (by omega) c) (h17 := a2) (h18 := e18)])
      · obtain ⟨S2, r2, o2, k2, a2⟩ := ho.put r (j := k + i) (by omega) (L.getD (k + i) 0 - p % B32)
        exact cont 0 _ S2 (.b true) (uu p) (.b false) (by omega) (by omega) (by omega) r2 o2 k2 (fun K kx kr v0 v1 v2 v4 v6 v8 v10 v17 v18 => by
          rw [ds_n (h1 := e1) (h2 := t3) (h3 := t4) (h4 := e4) (h5 := e5) (h6 := fun c => ushr32 _ c) (h7 := e7) (h8 := e8) (h9 := e9) (h10 := fun c => ulow _ c) (h11 := fun c => by rw [ulss (by omega) (by omega), decide_eq_false hb2]) (h16 := fun c => usub (by omega) (by omega) c) (h17 := a2) (h18 := e18)]; rfl)
    · have : i = y.length := by omega
      subst this
      refine ⟨S, v15, v16, L, bw, r, ho, hL, hb, hl, hs, ?_, fun q ds _ h => h, fun kx kr v0 v1 v2 v4 v6 v8 v10 v17 v18 => ?_⟩
      · rw [he, List.drop_length]; simp [ofL]
      · rw [loopN_succ, ds_end (h1 := fun c => by rw [lss_n (by omega) (by omega), decide_eq_false (by omega)])]
end
end Go.AM

/- galoisref01.DivMod: the guesses. -/
namespace Go.AM
open Go.Proofs
open Go.AM.Q
open Go.AM.U
set_option linter.unusedVariables false
set_option linter.unusedSimpArgs false
noncomputable section
variable {S0 S : St} {out : V × St}
theorem pShl_e (k k' : IntKind) (a b : Nat) (c : V → R) (h : neg k' b = false) : pShl (.i k a) (.i k' b) c = retI c k (Nat.mod (Nat.mul a (Nat.pow 2 (minN b (bits k)))) (M k)) := by
  show gu (Bool.not (neg k' b)) _ = _
  rw [h]; rfl
theorem ushl32 {x : Nat} (hx : x < B32) (c : V → R) : pShl (uu x) (uu 32) c = c (uu (x * B32)) := by
  have h1 : Nat.pow 2 (minN 32 (bits .u64)) = 4294967296 := by decide
  have hx : x < 4294967296 := hx
  rw [pShl_e _ _ _ _ _ rfl, retI_eq, h1]
  congr 2
  exact Nat.mod_eq_of_lt (show x * 4294967296 < 18446744073709551616 by omega)
theorem uquo {a b : Nat} (h0 : 0 < b) (c : V → R) : pQuo (uu a) (uu b) c = c (uu (a / b)) := by
  have e : pQuo (uu a) (uu b) c = gu (Nat.blt 0 b) (retI c .u64 (quoI .u64 a b)) := two_i ..
  rw [e, blt_eq, decide_eq_true h0, gu_true, retI_eq]; rfl
theorem umx {s : Nat} (hs : s < 18446744073709551616) (c : V → R) : pMx [uu 1, uu s] c = c (uu (if 1 < s then s else 1)) := by
  rw [mx_e, two_i, retI_eq, pick_e, sh_u 1 (by omega), sh_u s hs, blt_eq]
  by_cases h : 1 < s
  · rw [decide_eq_true h, if_pos h]; rfl
  · rw [decide_eq_false h, if_neg h]; rfl
theorem notF (c : V → R) : pNot (.b false) c = c (.b true) := by rfl
theorem notT (c : V → R) : pNot (.b true) c = c (.b false) := by rfl
theorem ofL_zero (B : Nat) : ∀ l : List Nat, (∀ j, l.getD j 0 = 0) → ofL B l = 0
  | [], h => rfl
  | x :: l, h => by
    have h0 : x = 0 := by simpa using h 0
    rw [ofL, h0, ofL_zero B l (fun j => by simpa using h (j + 1))]; simp
theorem getD_drop (l : List Nat) (a j : Nat) : (l.drop a).getD j 0 = l.getD (a + j) 0 := by
  rw [List.getD_eq_getElem?_getD, List.getElem?_drop, List.getD_eq_getElem?_getD]
/-- two rows that agree below k -/
theorem take_eq {L L' : List Nat} {k : Nat} (hl : L.length = L'.length) (h : ∀ j, j < k → L.getD j 0 = L'.getD j 0) : L.take k = L'.take k := by
  apply List.ext_getElem?
  intro j
  rw [List.getElem?_take, List.getElem?_take]
  by_cases hj : j < k
  · rw [if_pos hj, if_pos hj]
    have := h j hj
    by_cases hjl : j < L.length
    · rw [getD_of hjl, getD_of (by omega : j < L'.length), this]
    · rw [List.getElem?_eq_none (by omega), List.getElem?_eq_none (by omega)]
  · rw [if_neg hj, if_neg hj]
theorem slc_lo {ir : Pos} {nr m k : Nat} {L : List Nat} {t : List V} (h : WRow S0 S ir L t) (hL : L.length = nr) (hm : nr + t.length = m) (hm2 : m ≤ 1000000) (hk : k ≤ nr) : ∃ a, (∀ c, pSlc 1 (.so ir 0 nr m 1) (some (nn k)) none none c = c a) ∧ KRow .u64 S a (L.drop k) := by
  obtain ⟨h0, n, h1, h2⟩ := h
  refine ⟨.so ir (0 + k * 1) (nr - k) (m - k) 1, fun c => ?_, rfl, by rw [List.length_drop, hL], by omega, by omega, _, h1, t, ?_⟩
  · show gu (Nat.ble nr m) (gu (Bool.not (neg .i64 k)) (gu (Nat.ble k nr) (fN (Nat.add 0 (Nat.mul k 1)) (fun o => fN (Nat.sub nr k) (fun n' => fN (Nat.sub m k) (fun q => c (.so ir o n' q 1))))))) = _
    rw [neg_n (by omega), Nat.ble_eq_true_of_le (show nr ≤ m by omega), Nat.ble_eq_true_of_le hk]
    simp only [fN_eq]; rfl
  · show (L.map uu ++ t).drop (0 + k * 1) = _
    rw [Nat.zero_add, Nat.mul_one, List.drop_append_of_le_length (by rw [List.length_map]; omega), List.map_drop]
/-- a guess is not too great, and not too small -/
theorem guess_ok {R Y T t low lowY P g s : Nat} (hR : R = low + P * T) (hlow : low < P) (hY : Y = lowY + P * t) (hlY : lowY < P) (ht : 1 ≤ t) (hs : s = T / (t + 1)) (hg : g = if 1 < s then s else 1) (hb : Y ≤ R) : g * Y ≤ R ∧ 1 ≤ g ∧ R / Y ≤ 2 * g + 1 := by
  have hP : 0 < P := by omega
  have hYpos : 0 < Y := by
    have := Nat.mul_le_mul_left P ht
    omega
  have hsT : s * (t + 1) ≤ T := by rw [hs]; exact Nat.div_mul_le_self ..
  have hYlt : Y < P * (t + 1) := by rw [Nat.mul_add, Nat.mul_one]; omega
  have hgs : s ≤ g := by rw [hg]; split <;> omega
  have hg1 : 1 ≤ g := by rw [hg]; split <;> omega
  refine ⟨?_, hg1, ?_⟩
  · rw [hg]
    split
    · calc s * Y ≤ s * (P * (t + 1)) := Nat.mul_le_mul_left _ (Nat.le_of_lt hYlt)
        _ = P * (s * (t + 1)) := by rw [Nat.mul_left_comm]
        _ ≤ P * T := Nat.mul_le_mul_left _ hsT
        _ ≤ R := by omega
    · omega
  · -- q * t ≤ T < (s + 1) * (t + 1)
    have hq : R / Y * Y ≤ R := Nat.div_mul_le_self ..
    have h1 : P * (R / Y * t) ≤ R := by
      calc P * (R / Y * t) = R / Y * (P * t) := by rw [Nat.mul_left_comm]
        _ ≤ R / Y * Y := Nat.mul_le_mul_left _ (by omega)
        _ ≤ R := hq
    have h2 : R / Y * t ≤ T := by
      rcases Nat.lt_or_ge T (R / Y * t) with h | h
      · have := Nat.mul_le_mul_left P (show T + 1 ≤ R / Y * t from h)
        rw [Nat.mul_add, Nat.mul_one] at this
        omega
      · exact h
    have h3 : T < (s + 1) * (t + 1) := by
      rw [hs]
      have := Nat.div_add_mod T (t + 1)
      have hm := Nat.mod_lt T (show 0 < t + 1 by omega)
      rw [Nat.add_mul, Nat.one_mul, Nat.mul_comm (T / (t + 1))]; omega
    generalize R / Y = q at *
    rcases Nat.lt_or_ge (2 * g + 1) q with h | h
    · have h4 : (2 * g + 2) * t ≤ q * t := Nat.mul_le_mul_right _ h
      have h5 : (s + 1) * (t + 1) ≤ (g + 1) * (t + 1) := Nat.mul_le_mul_right _ (by omega)
      have h6 : (g + 1) * (t + 1) ≤ (2 * g + 2) * t := by
        rw [show 2 * g + 2 = (g + 1) * 2 by omega, Nat.mul_assoc]
        exact Nat.mul_le_mul_left _ (by omega)
      omega
    · exact h
theorem block_loop4 {n : Nat} (c : CS n) (kn : Fn n) (kx : Nat → Fn n) (kr : Fn n) : ∃ kx' : Nat → Fn n, kx' 4 = kn ∧ cBlock 4 (cLoop c) kn kx kr = loopN c kx' kr 1000000 :=
  ⟨fun id' => Bool.rec (fun kx kn => kx) (fun kx kn => kn) (Nat.beq id' 4) (kx id') kn, rfl, by unfold cBlock cLoop; rfl⟩
/-- a row that stays while two blocks are written -/
def YRow (S0 : St) (v : V) (l : List Nat) (S : St) (b c : Pos) : Prop := v = .sn ∧ l = [] ∨ ∃ id cs, Own S0 S id cs ∧ id ≠ b ∧ id ≠ c ∧ ORow S0 id cs v l
theorem YRow.trow {b c : Pos} {v : V} {l : List Nat} (h : YRow S0 v l S b c) : TRow S0 v l S b := by
  rcases h with h | ⟨id, cs, h1, h2, h3, h4⟩
  · exact .inl h
  · exact .inr ⟨id, cs, h1, h2, h4⟩
theorem YRow.step {b c : Pos} {S' : St} {v : V} {l : List Nat} (h : YRow S0 v l S b c) (hk : ∀ q ds, q ≠ b → q ≠ c → Own S0 S q ds → Own S0 S' q ds) : YRow S0 v l S' b c := by
  rcases h with h | ⟨id, cs, h1, h2, h3, h4⟩
  · exact .inl h
  · exact .inr ⟨id, cs, hk id cs h2 h3 h1, h2, h3, h4⟩
theorem g_loop {vy : V} {Y n k nr qn m X R0 : Nat} {ir iq : Pos} {t : List V} (hY : 0 < Y) (hn : n = (dg B32 Y).length) (hkn : k + n < nr) (hnr : nr ≤ 90000) (hkq : k < qn) (hqn : qn ≤ 100000) (hm : nr + t.length = m) (hm2 : m ≤ 1000000) (hne : ir ≠ iq) (hR0 : R0 < B32 * Y) :
    ∀ (N : Nat) (S : St) (L Q : List Nat) (v10 v11 v12 v13 v14 v15 v16 : V), L.length = nr → Q.length = qn → Run S0 S → WRow S0 S ir L t → Own S0 S iq (Q.map uu) → YRow S0 vy (dg B32 Y) S ir iq → (∀ z ∈ L, z < B32) → (∀ z ∈ Q, z < B32) → (∀ j, k + n < j → L.getD j 0 = 0) →
      ofL B32 (L.drop k) + Q.getD k 0 * Y = R0 → ofL B32 L + ofL B32 Q * Y = X → ((∃ mm, 1 ≤ mm ∧ ofL B32 (L.drop k) / Y ≤ 2 ^ mm + 1 ∧ mm + 3 ≤ N) ∨ ofL B32 (L.drop k) / Y + 1 ≤ N) →
    ∃ S' L' Q' w11 w12 w13 w14 w15 w16, Run S0 S' ∧ L'.length = nr ∧ Q'.length = qn ∧ WRow S0 S' ir L' t ∧ Own S0 S' iq (Q'.map uu) ∧ YRow S0 vy (dg B32 Y) S' ir iq ∧ (∀ z ∈ L', z < B32) ∧ (∀ z ∈ Q', z < B32) ∧ (∀ j, j < k → Q'.getD j 0 = Q.getD j 0) ∧ ofL B32 (L'.drop k) < Y ∧ ofL B32 L' + ofL B32 Q' * Y = X ∧
      ∀ (kx : Nat → Fn 19) (kr : Fn 19) (v0 v1 v2 v4 v8 v17 v18 : V), loopN (BG143 F175 (cBlock 4 (cLoop BS143))) kx kr N v0 v1 v2 vy v4 (nn n) (.sl iq 0 qn qn) (nn k) v8 (.so ir 0 nr m 1) v10 v11 v12 v13 v14 v15 v16 v17 v18 S = kx 2 v0 v1 v2 vy v4 (nn n) (.sl iq 0 qn qn) (nn k) v8 (.so ir 0 nr m 1) (.b false) w11 w12 w13 w14 w15 w16 v17 v18 S'
  | 0, S, L, Q, v10, v11, v12, v13, v14, v15, v16, hL, hQ, r, ho, hq, hr1, bL, bQ, hz, hR, hX, hf => by
    rcases hf with ⟨mm, _, _, h⟩ | h
    · omega
    · exact absurd h (Nat.not_succ_le_zero _)
  | N + 1, S, L, Q, v10, v11, v12, v13, v14, v15, v16, hL, hQ, r, ho, hq, hr1, bL, bQ, hz, hR, hX, hf => by
    have eB : B32 = 4294967296 := rfl
    obtain ⟨a, s1, s2⟩ := slc_lo ho hL hm hm2 (k := k) (by omega)
    have bD : ∀ z ∈ L.drop k, z < B32 := fun z hz => bL z (List.mem_of_mem_drop hz)
    have hbel : ∀ c, F175 a vy S c = c (.b (decide (ofL B32 (L.drop k) < Y))) S := fun c => below_run s2 hr1.trow.row bD (by rw [List.length_drop]; omega) (by omega) c
    by_cases hlt : ofL B32 (L.drop k) < Y
    · refine ⟨S, L, Q, v11, v12, v13, v14, v15, v16, r, hL, hQ, ho, hq, hr1, bL, bQ, fun j _ => rfl, hlt, hX, fun kx kr v0 v1 v2 v4 v8 v17 v18 => ?_⟩
      rw [loopN_succ, dg_end (a := a) (h1 := s1) (h2 := fun c => by rw [hbel, decide_eq_true hlt]) (h3 := fun c => notT c)]
    · have hn1 : 1 ≤ n := by
        rcases Nat.eq_zero_or_pos n with h | h
        · have h2 : dg B32 Y = [] := List.length_eq_zero_iff.1 (by omega)
          have := ofL_dg (B := B32) (by decide) Y
          rw [h2] at this
          have : Y = 0 := this.symm
          omega
        · exact h
      have bY := dg_lt (B := B32) (by decide) Y
      -- the top digits
      have htop : ofL B32 (L.drop (k + n + 1)) = 0 := ofL_zero _ _ (fun j => by rw [getD_drop]; exact hz _ (by omega))
      have hT : ofL B32 (L.drop (k + n - 1)) = L.getD (k + n) 0 * B32 + L.getD (k + n - 1) 0 := by
        rw [dropG B32 L (k + n - 1), show k + n - 1 + 1 = k + n by omega, dropG B32 L (k + n), htop, Nat.mul_zero, Nat.add_zero, Nat.mul_comm]; omega
      have hRs := split_ofL B32 (L.drop k) (n - 1) (by rw [List.length_drop]; omega)
      have hRl := take_lt (B := B32) (by decide) bD (n - 1) (by rw [List.length_drop]; omega)
      rw [List.drop_drop, show k + (n - 1) = k + n - 1 by omega, hT] at hRs
      have hYs := split_ofL B32 (dg B32 Y) (n - 1) (by omega)
      have hYl := take_lt (B := B32) (by decide) bY (n - 1) (by omega)
      rw [ofL_dg (by decide)] at hYs
      have hYt : ofL B32 ((dg B32 Y).drop (n - 1)) = (dg B32 Y).getD (n - 1) 0 := by
        rw [dropG, show n - 1 + 1 = n by omega, List.drop_eq_nil_of_le (by omega)]; simp [ofL]
      rw [hYt] at hYs
      have ht1 : 1 ≤ (dg B32 Y).getD (n - 1) 0 := by
        rcases Nat.eq_zero_or_pos ((dg B32 Y).getD (n - 1) 0) with h | h
        · rw [h, Nat.mul_zero, Nat.add_zero] at hYs
          have := dg_len (B := B32) (by decide) (n - 1) Y (Nat.lt_of_le_of_lt (Nat.le_of_eq hYs) hYl)
          omega
        · exact h
      have bt := getD_lt bY (by decide) (n - 1)
      have bl1 := getD_lt bL (by decide) (k + n)
      have bl2 := getD_lt bL (by decide) (k + n - 1)
      obtain ⟨gY, g1, gq⟩ := guess_ok (s := (L.getD (k + n) 0 * B32 + L.getD (k + n - 1) 0) / ((dg B32 Y).getD (n - 1) 0 + 1)) hRs hRl hYs hYl ht1 rfl rfl (by omega)
      have hT64 : L.getD (k + n) 0 * B32 + L.getD (k + n - 1) 0 < 18446744073709551616 := by rw [eB]; omega
      have hs64 : (L.getD (k + n) 0 * B32 + L.getD (k + n - 1) 0) / ((dg B32 Y).getD (n - 1) 0 + 1) < 18446744073709551616 := Nat.lt_of_le_of_lt (Nat.div_le_self ..) hT64
      have hmx := fun c => umx hs64 c
      generalize hgg : (if 1 < (L.getD (k + n) 0 * B32 + L.getD (k + n - 1) 0) / ((dg B32 Y).getD (n - 1) 0 + 1) then (L.getD (k + n) 0 * B32 + L.getD (k + n - 1) 0) / ((dg B32 Y).getD (n - 1) 0 + 1) else 1) = g at *
      have hQg : (Q.getD k 0 + g) * Y < B32 * Y := by rw [Nat.add_mul]; omega
      have hQg2 : Q.getD k 0 + g < B32 := Nat.lt_of_mul_lt_mul_right hQg
      obtain ⟨S1, r1, q1, k1, a1⟩ := U.Own_put (x := uu (Q.getD k 0 + g)) hq r (i := k) (by rw [List.length_map]; omega) (fun k => cellsK_i _ _ k)
      rw [map_set_uu] at q1
      have ho1 : WRow S0 S1 ir L t := k1 ir _ hne ho
      have hy1 := hr1.step (S' := S1) (fun q ds _ h2 h3 => k1 q ds h2 h3)
      have hYY : ofL B32 (dg B32 Y) = Y := ofL_dg (by decide) Y
      obtain ⟨S2, w15, w16, L1, bw, r2, o2, lL1, hbw, bL1, same, eqn, k2, run⟩ := ds_loop (g := g) (k := k) (nr := nr) (m := m) (t := t) bY (by omega) (by omega) (by omega) (by omega) L 1000000 0 0 S1 L v13 v15 v16 (by omega) (by omega) hL (by omega) r1 ho1 hy1.trow bL (fun j _ => rfl) (by rw [Nat.zero_add, List.drop_zero, Nat.add_zero])
      rw [← hn] at same eqn run
      rw [hYY] at eqn
      have hLkn : L1.getD (k + n) 0 = L.getD (k + n) 0 := same _ (.inr (Nat.le_refl _))
      have hP : 0 < B32 ^ (k + n) := Nat.pow_pos (by decide)
      have hPk : 0 < B32 ^ k := Nat.pow_pos (by decide)
      have sL := split_ofL B32 L k (by omega)
      have hbl : bw ≤ L.getD (k + n) 0 := by
        have h1 := split_ofL B32 L1 (k + n) (by omega)
        have h2 := take_lt (B := B32) (by decide) bL1 (k + n) (by omega)
        have h3 : ofL B32 (L1.drop (k + n)) = L.getD (k + n) 0 := by
          rw [dropG, hLkn, ofL_zero B32 (L1.drop (k + n + 1)) (fun j => by rw [getD_drop, same _ (.inr (by omega))]; exact hz _ (by omega))]; simp
        rw [h3] at h1
        have h4 := Nat.mul_le_mul_left (B32 ^ k) gY
        have h5 : B32 ^ (k + n) * bw < B32 ^ (k + n) * (L.getD (k + n) 0 + 1) := by rw [Nat.mul_add, Nat.mul_one]; omega
        have := Nat.lt_of_mul_lt_mul_left h5
        omega
      obtain ⟨S3, r3, o3, k3, a3⟩ := o2.put r2 (j := k + n) (by omega) (L.getD (k + n) 0 - bw)
      have hv2 : ofL B32 (L1.set (k + n) (L.getD (k + n) 0 - bw)) + B32 ^ k * (g * Y) = ofL B32 L := by
        have h1 := ofL_set (B := B32) L1 (k + n) (L.getD (k + n) 0 - bw) (by omega)
        rw [hLkn] at h1
        have h2 : B32 ^ (k + n) * L.getD (k + n) 0 = B32 ^ (k + n) * (L.getD (k + n) 0 - bw) + B32 ^ (k + n) * bw := by rw [← Nat.mul_add]; congr 1; omega
        omega
      have lL2 : (L1.set (k + n) (L.getD (k + n) 0 - bw)).length = nr := by rw [List.length_set]; exact lL1
      have htk : (L1.set (k + n) (L.getD (k + n) 0 - bw)).take k = L.take k := take_eq (by omega) (fun j hj => by rw [gset, if_neg (by omega), same _ (.inl hj)])
      have sL2 := split_ofL B32 (L1.set (k + n) (L.getD (k + n) 0 - bw)) k (by omega)
      rw [htk] at sL2
      generalize hL2 : L1.set (k + n) (L.getD (k + n) 0 - bw) = L2 at *
      have hR2 : ofL B32 (L2.drop k) + g * Y = ofL B32 (L.drop k) := by
        have : B32 ^ k * (ofL B32 (L2.drop k) + g * Y) = B32 ^ k * ofL B32 (L.drop k) := by rw [Nat.mul_add]; omega
        exact Nat.eq_of_mul_eq_mul_left hPk this
      have hq2 : ofL B32 (L.drop k) / Y = ofL B32 (L2.drop k) / Y + g := by rw [← hR2, Nat.add_mul_div_right _ _ hY]
      have hQ2 : ofL B32 (Q.set k (Q.getD k 0 + g)) = ofL B32 Q + B32 ^ k * g := by
        have := ofL_set (B := B32) Q k (Q.getD k 0 + g) (by omega)
        rw [Nat.mul_add] at this
        omega
      have hgk : (Q.set k (Q.getD k 0 + g)).getD k 0 = Q.getD k 0 + g := by rw [gset, if_pos ⟨rfl, by omega⟩]
      obtain ⟨S', L', Q', x11, x12, x13, x14, x15, x16, z1, z2, z3, z4, z5, z6, z7, z8, z9, z10, z11, z12⟩ := g_loop (X := X) (R0 := R0) (m := m) (t := t) hY hn hkn hnr hkq hqn hm hm2 hne hR0 N S3 L2 (Q.set k (Q.getD k 0 + g)) (.b true) (uu g) (nn n) (.b false) (uu bw) w15 w16 lL2 (by rw [List.length_set]; exact hQ) r3 o3 (k3 iq _ (Ne.symm hne) (k2 iq _ (Ne.symm hne) q1)) ((hy1.step (S' := S2) (fun q ds h1 _ h3 => k2 q ds h1 h3)).step (S' := S3) (fun q ds h1 _ h3 => k3 q ds h1 h3))
        (fun z hz => by
          rw [← hL2] at hz
          rcases List.mem_or_eq_of_mem_set hz with h | h
          · exact bL1 z h
          · rw [h]; omega)
        (fun z hz => by
          rcases List.mem_or_eq_of_mem_set hz with h | h
          · exact bQ z h
          · rw [h]; exact hQg2)
        (fun j hj => by rw [← hL2, gset, if_neg (by omega), same _ (.inr (by omega))]; exact hz j hj)
        (by rw [hgk, Nat.add_mul]; omega) (by
          rw [hQ2, Nat.add_mul, Nat.mul_assoc]; omega) (by
          generalize hqa : ofL B32 (L2.drop k) / Y = qa at *
          rcases hf with ⟨mm, m1, m2, m3⟩ | h
          · rw [hq2] at m2
            by_cases hmm : 2 ≤ mm
            · obtain ⟨mp, rfl⟩ : ∃ mp, mm = mp + 1 := ⟨mm - 1, by omega⟩
              rw [Nat.pow_succ] at m2
              exact .inl ⟨mp, by omega, by omega, by omega⟩
            · have : mm = 1 := by omega
              subst this
              exact .inr (by omega)
          · rw [hq2] at h
            exact .inr (by omega))
      have hI : ∀ (kn : Fn 19) (kx : Nat → Fn 19) (kr : Fn 19) (v0 v1 v2 v4 v8 v17 v18 : V), cBlock 4 (cLoop BS143) kn kx kr v0 v1 v2 vy v4 (nn n) (.sl iq 0 qn qn) (nn k) v8 (.so ir 0 nr m 1) (.b true) (uu g) (nn 0) v13 (uu 0) v15 v16 v17 v18 S1 = kn v0 v1 v2 vy v4 (nn n) (.sl iq 0 qn qn) (nn k) v8 (.so ir 0 nr m 1) (.b true) (uu g) (nn n) (.b false) (uu bw) w15 w16 v17 v18 S2 := fun kn kx kr v0 v1 v2 v4 v8 v17 v18 => by
        obtain ⟨kx', e1, e2⟩ := block_loop4 BS143 kn kx kr
        rw [e2, ← e1]
        exact run kx' kr v0 v1 v2 v4 (.sl iq 0 qn qn) v8 (.b true) v17 v18
      obtain ⟨qy, y1, y2⟩ := hr1.trow.row.get (i := n - 1) (by omega)
      refine ⟨S', L', Q', x11, x12, x13, x14, x15, x16, z1, z2, z3, z4, z5, z6, z7, z8, fun j hj => by rw [z9 j hj, gset, if_neg (by omega)], z10, z11, fun kx kr v0 v1 v2 v4 v8 v17 v18 => ?_⟩
      rw [loopN_succ, dg_go (a := a) (g := uu g) (w12 := nn n) (w13 := .b false) (w14 := uu bw) (w15 := w15) (w16 := w16) (S1 := S1) (S2 := S2) (S3 := S3) (h1 := s1) (h2 := fun c => by rw [hbel, decide_eq_false hlt]) (h3 := fun c => notF c) (g1 := fun c => add_n (by omega) c) (g2 := fun c => idx_so ir (by omega) (by omega) c) (g3 := fun c => ho.get (by omega) c) (g4 := fun c => ushl32 bl1 c) (g5 := fun c => sub_n (by omega) (by omega) c) (g6 := fun c => idx_so ir (by omega) (by omega) c) (g7 := fun c => ho.get (by omega) c) (g8 := fun c => uadd hT64 c)
        (g9 := fun c => sub_n hn1 (by omega) c) (g10 := y1) (g11 := y2) (g12 := fun c => uadd (by omega) c) (g13 := fun c => uquo (by omega) c) (g14 := hmx) (k1 := fun c => idx_sl iq hkq (by omega) c) (k2 := fun c => U.Own_get hq (by omega) c) (k3 := fun c => uadd (by omega) c) (k4 := a1)
        (hI := fun kn kx kr => hI kn kx kr _ _ _ _ _ _ _) (l1 := fun c => by rw [o2.get (by omega), hLkn]) (l2 := fun c => usub hbl (by omega) c) (l3 := a3)]
      exact z12 kx kr v0 v1 v2 v4 v8 v17 v18
end
end Go.AM

/- galoisref01.DivMod: a pure text on strings of numbers. -/
namespace Go.AM
open Go.Proofs
open Go.AM.Q
open Go.AM.U
set_option linter.unusedVariables false
set_option linter.unusedSimpArgs false
noncomputable section
variable {S0 S : St} {out : V × St}
theorem all_zero {B : Nat} (hB : 0 < B) : ∀ {l : List Nat}, ofL B l = 0 → ∀ j, l.getD j 0 = 0
  | [], h, j => by simp
  | x :: l, h, 0 => by
    have h : x + B * ofL B l = 0 := h
    show x = 0
    omega
  | x :: l, h, j + 1 => by
    have h : x + B * ofL B l = 0 := h
    have h2 : B * ofL B l = 0 := by omega
    have h3 : ofL B l = 0 := by
      rcases Nat.mul_eq_zero.1 h2 with h | h
      · omega
      · exact h
    rw [List.getD_cons_succ]; exact all_zero hB h3 j
theorem zero_of_lt {B n : Nat} (hB : 0 < B) {l : List Nat} (h : ofL B l < B ^ n) (j : Nat) (hj : n ≤ j) : l.getD j 0 = 0 := by
  by_cases hl : n ≤ l.length
  · have e := split_ofL B l n hl
    have hP : 0 < B ^ n := Nat.pow_pos hB
    have h0 : ofL B (l.drop n) = 0 := by
      rcases Nat.eq_zero_or_pos (ofL B (l.drop n)) with h1 | h1
      · exact h1
      · have := Nat.mul_le_mul_left (B ^ n) h1
        omega
    have := all_zero hB h0 (j - n)
    rwa [getD_drop, show n + (j - n) = j by omega] at this
  · exact getD_out (by omega)
theorem lt_pow_dg {B : Nat} (hB : 2 ≤ B) (Y : Nat) : Y < B ^ (dg B Y).length := by
  have := ofL_lt (B := B) (by omega) (dg_lt hB Y)
  rwa [ofL_dg hB] at this
theorem k_loop {vy : V} {Y n nr qn m X : Nat} {ir iq : Pos} {t : List V} (hY : 0 < Y) (hn : n = (dg B32 Y).length) (hq0 : qn = 0 ∨ qn + n = nr) (hnr : nr ≤ 90000) (hqn : qn ≤ 100000) (hm : nr + t.length = m) (hm2 : m ≤ 1000000) (hne : ir ≠ iq) :
    ∀ (N j : Nat) (S : St) (L Q : List Nat) (v8 v10 v11 v12 v13 v14 v15 v16 : V), j ≤ qn → j < N → L.length = nr → Q.length = qn → Run S0 S → WRow S0 S ir L t → Own S0 S iq (Q.map uu) → YRow S0 vy (dg B32 Y) S ir iq → (∀ z ∈ L, z < B32) → (∀ z ∈ Q, z < B32) → (∀ i, i < j → Q.getD i 0 = 0) → ofL B32 (L.drop j) < Y → ofL B32 L + ofL B32 Q * Y = X →
    ∃ S' L' Q' w10 w11 w12 w13 w14 w15 w16, Run S0 S' ∧ L'.length = nr ∧ Q'.length = qn ∧ WRow S0 S' ir L' t ∧ Own S0 S' iq (Q'.map uu) ∧ (∀ z ∈ L', z < B32) ∧ (∀ z ∈ Q', z < B32) ∧ ofL B32 L' < Y ∧ ofL B32 L' + ofL B32 Q' * Y = X ∧
      ∀ (kx : Nat → Fn 19) (kr : Fn 19) (v0 v1 v2 v4 v17 v18 : V), loopN (BK143 (cBlock 2 (cLoop (BG143 F175 (cBlock 4 (cLoop BS143)))))) kx kr N v0 v1 v2 vy v4 (nn n) (.sl iq 0 qn qn) (vk j) v8 (.so ir 0 nr m 1) v10 v11 v12 v13 v14 v15 v16 v17 v18 S = kx 0 v0 v1 v2 vy v4 (nn n) (.sl iq 0 qn qn) (nn (M64 - 1)) (.b false) (.so ir 0 nr m 1) w10 w11 w12 w13 w14 w15 w16 v17 v18 S'
  | 0, j, S, L, Q, v8, v10, v11, v12, v13, v14, v15, v16, h1, h2, hL, hQ, r, ho, hq, hy, bL, bQ, hz, hR, hX => by omega
  | N + 1, 0, S, L, Q, v8, v10, v11, v12, v13, v14, v15, v16, h1, h2, hL, hQ, r, ho, hq, hy, bL, bQ, hz, hR, hX => by
    refine ⟨S, L, Q, v10, v11, v12, v13, v14, v15, v16, r, hL, hQ, ho, hq, bL, bQ, hR, hX, fun kx kr v0 v1 v2 v4 v17 v18 => ?_⟩
    have e0 : vk 0 = nn (M64 - 1) := rfl
    rw [loopN_succ, e0, dk_end (v7 := nn (M64 - 1)) (h1 := fun c => geq_neg (d := 1) (by omega) (by omega) c)]
  | N + 1, j + 1, S, L, Q, v8, v10, v11, v12, v13, v14, v15, v16, h1, h2, hL, hQ, r, ho, hq, hy, bL, bQ, hz, hR, hX => by
    have bj := getD_lt bL (by decide) j
    have hd := dropG B32 L j
    have hYn := lt_pow_dg (B := B32) (by decide) Y
    rw [← hn] at hYn
    have hR0 : ofL B32 (L.drop j) < B32 * Y := by
      have : B32 * (ofL B32 (L.drop (j + 1)) + 1) ≤ B32 * Y := Nat.mul_le_mul_left _ hR
      rw [Nat.mul_add, Nat.mul_one] at this
      omega
    obtain ⟨S1, L1, Q1, w11, w12, w13, w14, w15, w16, z1, z2, z3, z4, z5, z6, z7, z8, z9, z10, z11, z12⟩ := g_loop (vy := vy) (X := X) (R0 := ofL B32 (L.drop j)) (k := j) (nr := nr) (qn := qn) (m := m) (ir := ir) (iq := iq) (t := t) hY hn (by omega) hnr (by omega) hqn hm hm2 hne hR0 1000000 S L Q v10 v11 v12 v13 v14 v15 v16 hL hQ r ho hq hy bL bQ (fun i hi => by
        have := zero_of_lt (B := B32) (by decide) (Nat.lt_trans hR hYn) (i - (j + 1)) (by omega)
        rwa [getD_drop, show j + 1 + (i - (j + 1)) = i by omega] at this) (by rw [hz j (by omega)]; omega) hX (.inl ⟨32, by omega, by
        have : ofL B32 (L.drop j) / Y < B32 := Nat.div_lt_of_lt_mul (by rw [Nat.mul_comm]; exact hR0)
        have e : 2 ^ 32 = B32 := by decide
        omega, by omega⟩)
    obtain ⟨S', L', Q', x10, x11, x12, x13, x14, x15, x16, y1, y2, y3, y4, y5, y6, y7, y8, y9, y10⟩ := k_loop hY hn hq0 hnr hqn hm hm2 hne N j S1 L1 Q1 (.b true) (.b false) w11 w12 w13 w14 w15 w16 (by omega) (by omega) z2 z3 z1 z4 z5 z6 z7 z8 (fun i hi => by rw [z9 i hi]; exact hz i (by omega)) z10 z11
    refine ⟨S', L', Q', x10, x11, x12, x13, x14, x15, x16, y1, y2, y3, y4, y5, y6, y7, y8, y9, fun kx kr v0 v1 v2 v4 v17 v18 => ?_⟩
    have ev : vk (j + 1) = nn j := rfl
    have hI : ∀ (kn : Fn 19) (kx : Nat → Fn 19) (kr : Fn 19) (v0 v1 v2 v4 v8 v17 v18 : V), cBlock 2 (cLoop (BG143 F175 (cBlock 4 (cLoop BS143)))) kn kx kr v0 v1 v2 vy v4 (nn n) (.sl iq 0 qn qn) (nn j) v8 (.so ir 0 nr m 1) v10 v11 v12 v13 v14 v15 v16 v17 v18 S = kn v0 v1 v2 vy v4 (nn n) (.sl iq 0 qn qn) (nn j) v8 (.so ir 0 nr m 1) (.b false) w11 w12 w13 w14 w15 w16 v17 v18 S1 := fun kn kx kr v0 v1 v2 v4 v8 v17 v18 => by
      obtain ⟨kx', e1, e2⟩ := block_loop2 (BG143 F175 (cBlock 4 (cLoop BS143))) kn kx kr
      rw [e2, ← e1]
      exact z12 kx' kr v0 v1 v2 v4 v8 v17 v18
    rw [loopN_succ, ev, dk_go (v7 := nn j) (w10 := .b false) (w11 := w11) (w12 := w12) (w13 := w13) (w14 := w14) (w15 := w15) (w16 := w16) (S1 := S1) (h1 := fun c => by rw [geq_n (by omega) (by omega), decide_eq_true (by omega)]) (hI := fun kn kx kr => hI kn kx kr _ _ _ _ _ _ _) (h2 := fun c => vk_sub j (by omega) c)]
    exact y10 kx kr v0 v1 v2 v4 v17 v18
theorem updK_eq {id : Pos} {b n : Nat} {cs : List V} {x : V} (h : S.h.get id = some ⟨b, cs⟩) (hb : S.fl ≤ b) (hn : n < cs.length) (c : St → R) : updK id S n [x] c = c (S.upd id ⟨b, cs.set n x⟩) := by
  show getBK id S.h _ = _
  rw [getBK_eq _ _ _ _ h]
  show gu (Nat.ble S.fl b) _ = _
  rw [Nat.ble_eq_true_of_le hb]
  show putK cs n [x] (fun cs' => setBK id (.mk b cs') S.h (fun h' => c (.mk h' S.nx S.cnt S.fl))) = _
  rw [putK_one _ _ _ _ hn, setBK_eq]; rfl
theorem set_mid (l : List Nat) (t : List V) (y : V) (x : Nat) : (l.map uu ++ y :: t).set l.length (uu x) = (l ++ [x]).map uu ++ t := by
  induction l with
  | nil => rfl
  | cons a l ih => simp
/-- a zero is put behind the digits -/
theorem limb_app {a : V} {l : List Nat} (h : Limb S0 S a l) (r : Run S0 S) (hl : l.length < 900000) : ∃ S' ir m t, Run S0 S' ∧ WRow S0 S' ir (l ++ [0]) t ∧ l.length + 1 + t.length = m ∧ m ≤ 1000000 ∧ (∀ q ds, Own S0 S q ds → Apart a q → Own S0 S' q ds ∧ q ≠ ir) ∧ ∀ c : Cont, pBsl [.i .u64 0] 1 [(0, 1, .i .u64 0)] S (fun z S => pApp 1 a z S c) = c (.so ir 0 (l.length + 1) m 1) S' := by
  have r1 := r.new [uu 0]
  obtain ⟨_, n2, g1, g2⟩ := Own.new r [uu 0]
  rcases h with ⟨rfl, rfl⟩ | ⟨id, m, t, rfl, h1, h2, ho⟩
  · refine ⟨_, (S.new [uu 0]).nx, 1, [], r1.new [uu 0], Own.new r1 [uu 0], rfl, by omega, fun q ds hq _ => ?_, fun c => ?_⟩
    · obtain ⟨k1, _⟩ := hq.keep r [uu 0]
      exact k1.keep r1 [uu 0]
    · have e : pBsl [.i .u64 0] 1 [(0, 1, .i .u64 0)] S (fun z S => pApp 1 .sn z S c) = (fun z S => pApp 1 .sn z S c) (.sl S.nx 0 1 1) (S.new [uu 0]) := kbsl_eq (kd := .u64) 0 0 S _
      rw [e]; exact kapp_nil g1 c
  · obtain ⟨ho1, hne⟩ := ho.keep r [uu 0]
    have ho2 := ho1
    obtain ⟨h0, n, h3, h4⟩ := ho2
    have hp := r.pos
    have e : ∀ c : Cont, pBsl [.i .u64 0] 1 [(0, 1, .i .u64 0)] S (fun z S => pApp 1 (.so id 0 l.length m 1) z S c) = pApp 1 (.so id 0 l.length m 1) (.sl S.nx 0 1 1) (S.new [uu 0]) c := fun c => kbsl_eq (kd := .u64) 0 0 S _
    cases t with
    | nil =>
      have hm : m = l.length := by simpa using h1.symm
      subst hm
      have r2 := r1.kill ho1
      rw [List.append_nil] at h3
      refine ⟨_, ((S.new [uu 0]).upd id ⟨0, []⟩).nx, l.length + 1, [], r2.new (l.map uu ++ [uu 0]), ?_, rfl, by omega, fun q ds hq ha => ?_, fun c => ?_⟩
      · have := Own.new r2 (l.map uu ++ [uu 0])
        unfold WRow
        rw [List.append_nil, List.map_append]; exact this
      · obtain ⟨k1, _⟩ := hq.keep r [uu 0]
        have hqi : q ≠ id := fun e => ha _ _ _ _ (by rw [e])
        exact (k1.upd (ds := []) (b := ⟨0, []⟩) hqi).keep r2 (l.map uu ++ [uu 0])
      · rw [e]; exact kapp_so g1 h3 (by rw [r1.fl]; exact h4) (by rw [List.length_map]) (by omega) c
    | cons y t =>
      have hm : l.length + (t.length + 1) = m := h1
      refine ⟨(S.new [uu 0]).upd id ⟨n, (l.map uu ++ y :: t).set l.length (uu 0)⟩, id, m, t, ⟨r1.ok.upd h3 (.inl ⟨rfl, show n ≠ 0 by omega⟩), r1.fl, r1.cnt, r1.pos, fun q hq => ?_⟩, ⟨h0, n, by rw [St.upd_get, set_mid], h4⟩, by omega, by omega, fun q ds hq ha => ?_, fun c => ?_⟩
      · rw [St.upd_get_ne _ (fun e => by rw [e] at hq; omega)]; exact r1.old q hq
      · obtain ⟨k1, _⟩ := hq.keep r [uu 0]
        have hqi : q ≠ id := fun e => ha _ _ _ _ (by rw [e])
        exact ⟨k1.upd (ds := []) hqi, hqi⟩
      · rw [e]
        show elems 1 S.nx 0 1 (S.new [uu 0]) (fun new => app1 1 1 new (.so id 0 l.length m 1) (S.new [uu 0]) c) = _
        rw [elems_eq g1 (by simp)]
        show Bool.rec (motive := fun _ => Unit → R) _ _ (Nat.ble (l.length + 1) m) () = _
        have e2 : Nat.ble (l.length + 1) m = true := Nat.ble_eq_true_of_le (by omega)
        rw [e2]
        show updK id (S.new [uu 0]) (0 + l.length * 1) [uu 0] (fun S' => fN (Nat.add l.length 1) (fun l' => c (.so id 0 l' m 1) S')) = _
        rw [Nat.zero_add, Nat.mul_one, updK_eq h3 (by rw [r1.fl]; exact h4) (by simp), fN_eq]
theorem div_run {p q : Nat} (hq : 0 < q) (la : (strN p).length ≤ 50000) (lb : (strN q).length ≤ 50000) (r : Run S0 S) : ∃ S', Run S0 S' ∧ ∀ k, F143 (.s (strN p)) (.s (strN q)) S k = k (.tu [.s (strN (p / q)), .s (strN (p % q))]) S' := by
  obtain ⟨S1, x, r1, x1, x2, x3⟩ := limbs_run (strN_lt p) (by omega) r
  obtain ⟨S2, y, r2, y1, y2, y3⟩ := limbs_run2 (strN_lt q) (by omega) r1
  have lx := len_dg (strN_lt p)
  have ly := len_dg (strN_lt q)
  rw [val_strN] at x1 y1 lx ly
  have hs0 : strN q ≠ [] := fun e => by have := (strN_len0 q).1 (by rw [e]; rfl); omega
  generalize hX : dg B32 p = X at *
  have vX : ofL B32 X = p := by rw [← hX]; exact ofL_dg (by decide) _
  have dX : ∀ z ∈ X, z < B32 := by rw [← hX]; exact dg_lt (by decide) _
  have hn0 : 0 < (dg B32 q).length := by
    rcases Nat.eq_zero_or_pos (dg B32 q).length with h | h
    · have h2 : dg B32 q = [] := List.length_eq_zero_iff.1 h
      have := ofL_dg (B := B32) (by decide) q
      rw [h2] at this
      have : q = 0 := this.symm
      omega
    · exact h
  -- the divisor's row
  have hx2 : Limb S0 S2 x X ∧ (∀ id m, x = .so id 0 X.length m 1 → Apart y id) := by
    rcases x1 with ⟨e1, e2⟩ | ⟨id, m, t, e1, h1, h2, ho⟩
    · exact ⟨.inl ⟨e1, e2⟩, fun id m e => by rw [e1] at e; cases e⟩
    · obtain ⟨ho2, hap⟩ := y2 _ _ ho
      refine ⟨.inr ⟨id, m, t, e1, h1, h2, ho2⟩, fun id' m' e => ?_⟩
      rw [e1] at e; cases e; exact hap
  obtain ⟨hx2, hxa⟩ := hx2
  obtain ⟨S3, ir, m, t, r3, w3, hm, hm2, k3, a3⟩ := limb_app hx2 r2 (by omega)
  rcases y1 with ⟨e1, e2⟩ | ⟨iy, my, ty, e1, g1, g2, g3⟩
  · rw [e2] at hn0; simp at hn0
  have hay : Apart x iy := fun a b c d e => by
    rcases hx2 with ⟨f1, _⟩ | ⟨id, m', t', f1, _, _, _⟩
    · rw [f1] at e; cases e
    · have := hxa id m' f1
      rw [f1] at e
      cases e
      exact this _ _ _ _ e1
  obtain ⟨g3', hyr⟩ := k3 _ _ g3 hay
  obtain ⟨qn, hqn⟩ : ∃ qn, qn = X.length + 1 - (dg B32 q).length := ⟨_, rfl⟩
  have r4 := r3.new ((List.replicate qn 0).map uu)
  have oq := Own.new r3 ((List.replicate qn 0).map uu)
  obtain ⟨w4, hrq⟩ := (show Own S0 S3 ir _ from w3).keep r3 ((List.replicate qn 0).map uu)
  obtain ⟨g4, hyq⟩ := g3'.keep r3 ((List.replicate qn 0).map uu)
  have hyrow : YRow S0 y (dg B32 q) (S3.new ((List.replicate qn 0).map uu)) ir S3.nx := .inr ⟨iy, _, g4, hyr, hyq, fun S' ⟨b0, n, b4, b5⟩ => by rw [e1]; exact ⟨rfl, rfl, by omega, by omega, _, b4, ty, by simp⟩⟩
  have v0 : ∀ n, ofL B32 (List.replicate n 0) = 0 := fun n => by
    induction n with
    | zero => rfl
    | succ n ih => rw [List.replicate_succ, ofL, ih]; rfl
  have g0 : ∀ j, (List.replicate qn 0).getD j 0 = 0 := fun j => by
    rw [List.getD_eq_getElem?_getD, List.getElem?_replicate]; split <;> rfl
  have vL : ofL B32 (X ++ [0]) = p := by rw [ofL_app, vX]; simp [ofL]
  have dL : ∀ z ∈ X ++ [0], z < B32 := fun z hz => by
    rcases List.mem_append.1 hz with h | h
    · exact dX z h
    · rw [List.mem_singleton.1 h]; decide
  have htop : ofL B32 ((X ++ [0]).drop qn) < q := by
    by_cases hc : (dg B32 q).length ≤ X.length
    · have e : (X ++ [0]).drop qn = X.drop qn ++ [0] := by rw [List.drop_append_of_le_length (by omega)]
      rw [e, ofL_app]
      have h1 := ofL_lt (B := B32) (by decide) (l := X.drop qn) (fun z hz => dX z (List.mem_of_mem_drop hz))
      rw [List.length_drop] at h1
      have h2 : B32 ^ (X.length - qn) ≤ q := by
        rcases Nat.lt_or_ge q (B32 ^ (X.length - qn)) with h | h
        · have := dg_len (B := B32) (by decide) _ q h
          omega
        · exact h
      have h3 : ofL B32 [0] = 0 := rfl
      rw [h3, Nat.mul_zero]; omega
    · have e : qn = 0 := by omega
      rw [e, List.drop_zero, vL]
      exact dg_mono (B := B32) (by decide) (by rw [hX]; omega)
  obtain ⟨S5, L', Q', w10, w11, w12, w13, w14, w15, w16, z1, z2, z3, z4, z5, z6, z7, z8, z9, z10⟩ := k_loop (vy := y) (Y := q) (n := (dg B32 q).length) (nr := X.length + 1) (qn := qn) (m := m) (X := p) (ir := ir) (iq := S3.nx) (t := t) hq rfl (by omega) (by omega) (by omega) hm (by omega) hrq 1000000 qn _ (X ++ [0]) (List.replicate qn 0) .other .other .other .other .other .other .other .other (Nat.le_refl _) (by omega) (by simp) (by simp) r4 w4 oq hyrow dL (fun z hz => by rw [(List.mem_replicate.1 hz).2]; decide) (fun i _ => g0 i) htop (by rw [v0, vL]; simp)
  have hdiv : p / q = ofL B32 Q' := by
    rw [← z9, Nat.add_mul_div_right _ _ hq, Nat.div_eq_of_lt z8, Nat.zero_add]
  have hmod : p % q = ofL B32 L' := by
    rw [← z9, Nat.add_mul_mod_self_right, Nat.mod_eq_of_lt z8]
  obtain ⟨S6, p1, p2, p3⟩ := pack_run (orow S0 S3.nx Q' (by omega)) z5 z1 (by omega) z7
  have w6 := p2 _ _ z4
  obtain ⟨S7, s1, s2, s3⟩ := pack_run (v := .so ir 0 (X.length + 1) m 1) (l := L') (fun S' ⟨b0, n, b4, b5⟩ => ⟨rfl, by omega, by omega, by omega, _, b4, t, by simp⟩) w6 p1 (by omega) z6
  rw [← hdiv, z3] at p3
  rw [← hmod] at s3
  refine ⟨S7, s1, fun k => ?_⟩
  have hsub : ∃ g h, (∀ c, pSub (nn X.length) (nn (dg B32 q).length) c = c g) ∧ (∀ c, pAdd g (nn 1) c = c h) ∧ ∀ c, pMx [nn 0, h] c = c (nn qn) := by
    by_cases hc : (dg B32 q).length ≤ X.length
    · refine ⟨nn (X.length - (dg B32 q).length), nn (X.length - (dg B32 q).length + 1), fun c => sub_n hc (by omega) c, fun c => add_n (by omega) c, fun c => ?_⟩
      rw [mx_n (by omega) (by omega), if_pos (by omega), hqn]; congr 3; omega
    · obtain ⟨d, hd⟩ : ∃ d, (dg B32 q).length - X.length = d + 1 := ⟨(dg B32 q).length - X.length - 1, by omega⟩
      have e0 : qn = 0 := by omega
      have hs : ∀ c, pSub (nn X.length) (nn (dg B32 q).length) c = c (nn (M64 - (d + 1))) := fun c => by rw [sub_neg (by omega) (by omega), hd]
      have ha : ∀ c, pAdd (nn (M64 - (d + 1))) (nn 1) c = c (nn ((M64 - (d + 1) + 1) % 18446744073709551616)) := fun c => pAdd_i .i64 _ _ c
      by_cases h0 : d = 0
      · refine ⟨_, nn 0, hs, fun c => ?_, fun c => ?_⟩
        · rw [ha, h0, show (M64 - (0 + 1) + 1) % 18446744073709551616 = 0 by decide]
        · rw [mx_n (by omega) (by omega), e0]; rfl
      · refine ⟨_, nn (M64 - d), hs, fun c => ?_, fun c => ?_⟩
        · rw [ha]
          congr 2
          show (18446744073709551616 - (d + 1) + 1) % 18446744073709551616 = 18446744073709551616 - d
          omega
        · rw [mx_neg (by omega) (by omega), e0]
  obtain ⟨g, h, hg, hh, hmx⟩ := hsub
  have hyl : ∀ c, pLen y c = c (nn (dg B32 q).length) := (KRow.len (kd := .u64) (S := S2) (v := y) (l := dg B32 q) (by rw [e1]; obtain ⟨b0, n, b4, b5⟩ := g3; exact ⟨rfl, rfl, by omega, by omega, _, b4, ty, by simp⟩)).1
  have hxl := hx2.row.len.1
  unfold F143 G143
  rw [C143_eq, d_head (a := x) (b := y) (d := nn (dg B32 q).length) (e := .so ir 0 (X.length + 1) m 1) (f := nn X.length) (g := g) (h := h) (i := nn qn) (j := .sl S3.nx 0 qn qn) (m := nn qn) (n' := vk qn) (w2 := nn (M64 - 1)) (w8 := .b false) (w10 := w10) (w11 := w11) (w12 := w12) (w13 := w13) (w14 := w14) (w15 := w15) (w16 := w16) (r := .s (strN (p / q))) (s := .s (strN (p % q))) (S1 := S1) (S2 := S2) (S3 := S3) (S4 := S3.new ((List.replicate qn 0).map uu)) (S5 := S5) (S6 := S6) (S7 := S7)
    (h0 := fun c => by rw [eqS_eq, decide_eq_false hs0]) (h1 := x3) (h2 := y3) (h3 := hyl) (h4 := a3) (h5 := hxl) (h6 := hg) (h7 := hh) (h8 := hmx) (h9 := fun c => mks_u (by omega) S3 c) (h10 := fun c => by
      show gu (Nat.ble qn 1073741824) (retI c .i64 qn) = _
      rw [Nat.ble_eq_true_of_le (by omega), gu_true, retI_eq]) (h11 := fun c => vk_sub qn (by omega) c) (hL := fun kn kx kr => ?_) (h12 := p3) (h13 := s3)]
  obtain ⟨kx', e1', e2'⟩ := block_loop0 (BK143 (cBlock 2 (cLoop (BG143 F175 (cBlock 4 (cLoop BS143)))))) kn kx kr
  rw [e2', ← e1']
  exact z10 kx' kr _ _ _ _ _ _
open Classical in
/-- the quotient and the remainder of two strings of numbers, as a pure text -/
def E143 : List V → Option V
  | [.s a, .s b] => if (∃ p, a = strN p) ∧ (∃ q, b = strN q) ∧ 0 < U.val b ∧ a.length ≤ 50000 ∧ b.length ≤ 50000 then some (.tu [.s (strN (U.val a / U.val b)), .s (strN (U.val a % U.val b))]) else none
  | _ => none
def F143t : Gn 2 := cur 2 (pureF E143)
theorem K143t : FOK Tryz.prog 143 (un 2 F143t) := cur_ok 2 (pure_ok K143 E143 fun vs v hv => by
  unfold E143 at hv
  split at hv
  · split at hv
    · rename_i a b hc
      obtain ⟨⟨p, rfl⟩, ⟨q, rfl⟩, hq, l1, l2⟩ := hc
      cases hv
      rw [val_strN] at hq
      obtain ⟨S', _, z⟩ := div_run hq l1 l2 mkS_run
      rw [val_strN, val_strN]
      exact ⟨by rfl, by rfl, S', by rw [un2p]; exact z _⟩
    · cases hv
  · cases hv)
theorem div_eq {p q : Nat} (hq : 0 < q) (l1 : (strN p).length ≤ 50000) (l2 : (strN q).length ≤ 50000) (S : St) (k : Cont) : F143t (.s (strN p)) (.s (strN q)) S k = k (.tu [.s (strN (p / q)), .s (strN (p % q))]) S := by
  have e : E143 [.s (strN p), .s (strN q)] = some (.tu [.s (strN (p / q)), .s (strN (p % q))]) := by
    unfold E143
    simp only []
    rw [if_pos ⟨⟨p, rfl⟩, ⟨q, rfl⟩, by rw [val_strN]; exact hq, l1, l2⟩, val_strN, val_strN]
  show pureF E143 [.s (strN p), .s (strN q)] S k = _
  simp only [pureF, e]
end
end Go.AM
