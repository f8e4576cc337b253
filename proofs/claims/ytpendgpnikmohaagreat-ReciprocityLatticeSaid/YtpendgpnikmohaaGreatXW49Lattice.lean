/- Lattice: the law returns true at all arguments. -/
import Derived.Test.YtpendgpnikmohaaGreatXSt
import Derived.Test.YtpendgpnikmohaaGreatXGL
set_option linter.unusedVariables false
set_option linter.unusedSimpArgs false
set_option maxRecDepth 100000
namespace Go.AM
open Go.Proofs
noncomputable section
def fin : V → St → R := fun v S => some (v, S)
/- sums over a closure -/
def B89 (t : List (Nat × Fun)) : CS 8 := (cSeq (cReg fun kn v0 v1 v2 v3 v4 v5 v6 v7 S => pLss v2 v3 (fun a0 => kn v0 v1 v2 v3 a0 v5 v6 v7 S)) (cSeq (cCond (fun x y v0 v1 v2 v3 v4 v5 v6 v7 S => pIf v4 (x v0 v1 v2 v3 v4 v5 v6 v7 S) (y v0 v1 v2 v3 v4 v5 v6 v7 S)) cSkip (cExit 0)) (cSeq (cBlock 1 (cSeq (cReg fun kn v0 v1 v2 v3 v4 v5 v6 v7 S => kn v0 v1 v2 v3 v4 v5 v2 v7 S) (cReg fun kn v0 v1 v2 v3 v4 v5 v6 v7 S => pAdd v6 (.i .i64 1) (fun a0 => pCallv t v1 [a0] S (fun a1 S => pAdd v5 a1 (fun a2 => kn v0 v1 v2 v3 v4 a2 v6 v7 S)))))) (cReg fun kn v0 v1 v2 v3 v4 v5 v6 v7 S => pAdd v2 (.i .i64 1) (fun a0 => kn v0 v1 a0 v3 v4 v5 v6 v7 S)))))
def HS (t : List (Nat × Fun)) (Lp : CS 8) : CS 8 := (cSeq (cReg fun kn v0 v1 v2 v3 v4 v5 v6 v7 S => kn v0 v1 v2 v3 v4 v5 v6 (.i .i64 0) S) (cSeq (cReg fun kn v0 v1 v2 v3 v4 v5 v6 v7 S => kn v0 v1 v2 v3 v4 (.i .i64 0) v6 v7 S) (cSeq (cSeq (cReg fun kn v0 v1 v2 v3 v4 v5 v6 v7 S => kn v0 v1 (.i .i64 0) v0 v4 v5 v6 v7 S) Lp) (cSeq (cReg fun kn v0 v1 v2 v3 v4 v5 v6 v7 S => kn v0 v1 v2 v3 v4 v5 v6 v5 S) cRet))))
theorem C89_eq (t : List (Nat × Fun)) : C89 t = HS t (cBlock 0 (cLoop (B89 t))) := by rfl
theorem b89_end (t : List (Nat × Fun)) (K : Fn 8) (kx : Nat → Fn 8) (kr : Fn 8) (v0 v1 v2 v3 v4 v5 v6 v7 : V) (S : St) (h1 : ∀ c, pLss v2 v3 c = c (.b false)) : B89 t K kx kr v0 v1 v2 v3 v4 v5 v6 v7 S = kx 0 v0 v1 v2 v3 (.b false) v5 v6 v7 S := by
  simp only [B89, cSeq, cReg, cCond, cBlock, cSkip, cExit, cRet, h1, pIf_t, pIf_f]
theorem b89_go (t : List (Nat × Fun)) (K : Fn 8) (kx : Nat → Fn 8) (kr : Fn 8) (v0 v1 v2 v3 v4 v5 v6 v7 x y o : V) (S : St) (h1 : ∀ c, pLss v2 v3 c = c (.b true)) (h2 : ∀ c, pAdd v2 (.i .i64 1) c = c x) (h3 : ∀ c : Cont, pCallv t v1 [x] S c = c y S) (h4 : ∀ c, pAdd v5 y c = c o) :
    B89 t K kx kr v0 v1 v2 v3 v4 v5 v6 v7 S = K v0 v1 x v3 (.b true) o v2 v7 S := by
  simp only [B89, cSeq, cReg, cCond, cBlock, cSkip, cExit, cRet, h1, h2, h3, h4, pIf_t, pIf_f]
theorem loop89 (t : List (Nat × Fun)) (fv : V) (f : Nat → Nat) (n : Nat) (S : St) (hn : n < 100000) (hf : ∀ k, 1 ≤ k → k ≤ n → f k < 10000000000) (hc : ∀ k, 1 ≤ k → k ≤ n → ∀ c : Cont, pCallv t fv [ii k] S c = c (ii (f k)) S) : ∀ (N i : Nat) (v4 v6 : V), i ≤ n → n < i + N → sumT f i < 10000000000 * (i + 1) →
    ∃ v6', ∀ (kx : Nat → Fn 8) (kr : Fn 8) (v0 v7 : V), loopN (B89 t) kx kr N v0 fv (ii i) (ii n) v4 (ii (sumT f i)) v6 v7 S = kx 0 v0 fv (ii n) (ii n) (.b false) (ii (sumT f n)) v6' v7 S
  | 0, i, v4, v6, h1, h2, h3 => by omega
  | N + 1, i, v4, v6, h1, h2, h3 => by
    by_cases hi : i < n
    · have h4 := hf (i + 1) (by omega) (by omega)
      have h5 : sumT f (i + 1) < 10000000000 * (i + 1 + 1) := by simp only [sumT]; omega
      obtain ⟨v6', h⟩ := loop89 t fv f n S hn hf hc N (i + 1) (.b true) (ii i) (by omega) (by omega) h5
      refine ⟨v6', fun kx kr v0 v7 => ?_⟩
      rw [loopN_succ, b89_go t _ _ _ _ _ _ _ _ _ _ _ (ii (i + 1)) (ii (f (i + 1))) (ii (sumT f (i + 1))) S (fun c => by rw [lss_n (by omega) (by omega), decide_eq_true hi]) (fun c => add_n (by omega) c) (hc (i + 1) (by omega) (by omega)) (fun c => add_n (by omega) c)]
      exact h kx kr v0 v7
    · have : i = n := by omega
      subst this
      refine ⟨v6, fun kx kr v0 v7 => ?_⟩
      rw [loopN_succ, b89_end t _ _ _ _ _ _ _ _ _ _ _ S (fun c => by rw [lss_n (by omega) (by omega), decide_eq_false (by omega)])]
theorem h89_step (t : List (Nat × Fun)) (B : CS 8) (n fv v2' v3' v4' o v6' : V) (S : St) (k : Cont) (hB : ∀ (kn : Fn 8) (kx : Nat → Fn 8) (kr : Fn 8), B kn kx kr n fv (.i .i64 0) n .other (.i .i64 0) .other (.i .i64 0) S = kn n fv v2' v3' v4' o v6' (.i .i64 0) S) :
    HS t B (fun v0 v1 v2 v3 v4 v5 v6 v7 S => k v7 S) (fun _ => bot 8) (fun v0 v1 v2 v3 v4 v5 v6 v7 S => k v7 S) n fv .other .other .other .other .other .other S = k o S := by
  simp only [HS, cSeq, cReg, cRet, hB]
theorem f89_ok (fv : V) (f : Nat → Nat) (n : Nat) (S : St) (hn : n < 100000) (hf : ∀ k, 1 ≤ k → k ≤ n → f k < 10000000000) (hc : ∀ k, 1 ≤ k → k ≤ n → ∀ c : Cont, pCallv T89 fv [ii k] S c = c (ii (f k)) S) (k : Cont) : F89 (ii n) fv S k = k (ii (sumT f n)) S := by
  unfold F89 G89
  rw [C89_eq]
  obtain ⟨v6', hl⟩ := loop89 T89 fv f n S hn hf hc 1000000 0 .other .other (by omega) (by omega) (by show (0 : Nat) < _; decide)
  refine h89_step T89 (cBlock 0 (cLoop (B89 T89))) (ii n) fv (ii n) (ii n) (.b false) (ii (sumT f n)) v6' S k fun kn kx kr => ?_
  obtain ⟨kx', h1, h2⟩ := block_loop (B89 T89) kn kx kr
  rw [h2]
  exact (hl kx' kr (ii n) (ii 0)).trans (by rw [h1])
/- sign -/
def sgZ (n : Nat) : Nat := if n % 2 = 0 then 1 else m1
theorem f54_step (v a b c' : V) (S : St) (k : Cont) (h1 : ∀ c, pRem v (.i .i64 2) c = c a) (h2 : ∀ c, pMul a (.i .i64 2) c = c b) (h3 : ∀ c, pSub (.i .i64 1) b c = c c') : F54 v S k = k c' S := by
  simp only [F54, G54, C54, cSeq, cReg, cRet, h1, h2, h3]
theorem f54_ok {n : Nat} (hn : n < 9223372036854775808) (S : St) (k : Cont) : F54 (ii n) S k = k (ii (sgZ n)) S := by
  have e1 : ∀ c, pRem (ii n) (.i .i64 2) c = c (ii (n % 2)) := fun c => rem_n hn (by omega) (by omega) c
  unfold sgZ
  rcases Nat.mod_two_eq_zero_or_one n with h | h
  · rw [if_pos h]
    rw [h] at e1
    exact f54_step _ _ (ii 0) _ S k e1 (fun c => by rfl) (fun c => by rfl)
  · rw [if_neg (by omega)]
    rw [h] at e1
    exact f54_step _ _ (ii 2) _ S k e1 (fun c => by rfl) (fun c => by rfl)
/- Eisenstein's way -/
theorem f90_step (v0 v1 v2 a x p y : V) (S : St) (k : Cont) (h1 : ∀ c, pLd v1 S c = c a) (h2 : ∀ c, pMul v0 a c = c x) (h3 : ∀ c, pLd v2 S c = c p) (h4 : ∀ c, pQuo x p c = c y) : F90 v0 v1 v2 S k = k y S := by
  simp only [F90, G90, C90, cSeq, cReg, cRet, h1, h2, h3, h4]
theorem call90 (x a b : V) (S : St) (k : Cont) : pCallv T89 (.f 90 [a, b]) [x] S k = F90 x a b S k := by rfl
theorem call88 (x y : V) (S : St) (k : Cont) : pCallv T26 (.f 88 []) [x, y] S k = F88 x y S k := by rfl
theorem f88_step (v0 v1 q1 q2 x y z s : V) (S S1 S2 : St) (k : Cont) (h1 : ∀ c : Cont, pBox v0 S c = c q1 S1) (h2 : ∀ c : Cont, pBox v1 S1 c = c q2 S2) (h3 : ∀ c, pLd q2 S2 c = c v1) (h4 : ∀ c, pSub v1 (.i .i64 1) c = c x) (h5 : ∀ c, pQuo x (.i .i64 2) c = c y)
    (h6 : ∀ c : Cont, F89 y (.f 90 [q1, q2]) S2 c = c z S2) (h7 : ∀ c : Cont, F54 z S2 c = c s S2) : F88 v0 v1 S k = k s S2 := by
  simp only [F88, G88, C88, cSeq, cReg, cRet, h1, h2, h3, h4, h5, h6, h7]
theorem sub1 {p : Nat} (h : 1 ≤ p) (h' : p < 100000) (c : V → R) : pSub (ii p) (.i .i64 1) c = c (ii (p - 1)) := by
  have e : (p + (M .i64 - 1)) % M .i64 = p - 1 := by
    show (p + 18446744073709551615) % 18446744073709551616 = p - 1
    omega
  rw [pSub_i, e]
theorem f88_ok {a p : Nat} (ha : a < 100000) (h3 : 3 ≤ p) (hp : p ≤ 3000) {S : St} (ok : SOK S) : ∃ S', ∀ k, F88 (ii a) (ii p) S k = k (ii (sgZ (sumT (fun k => k * a / p) ((p - 1) / 2)))) S' := by
  have ok1 := ok.new [ii a]
  have g1 : ((S.new [ii a]).new [ii p]).h.get S.nx = some ⟨S.cnt, [ii a]⟩ := by
    rw [St.new_get_ne _ (ok1.ne_nx (St.new_get S [ii a]))]; exact St.new_get _ _
  have g2 : ((S.new [ii a]).new [ii p]).h.get (S.new [ii a]).nx = some ⟨_, [ii p]⟩ := St.new_get _ _
  have hb : ∀ k, k ≤ (p - 1) / 2 → k * a < 10000000000 := fun k hk => by
    calc k * a ≤ 1500 * a := Nat.mul_le_mul_right _ (by omega)
      _ ≤ 1500 * 99999 := Nat.mul_le_mul_left _ (by omega)
      _ < _ := by decide
  have hf : ∀ k, 1 ≤ k → k ≤ (p - 1) / 2 → k * a / p < 10000000000 := fun k _ hk => Nat.lt_of_le_of_lt (Nat.div_le_self _ _) (hb k hk)
  have hs : ∀ n, n ≤ (p - 1) / 2 → sumT (fun k => k * a / p) n ≤ n * 10000000000 := fun n => by
    induction n with
    | zero => intro _; exact Nat.le_refl _
    | succ n ih =>
      intro h
      have h1 := ih (by omega)
      have h2 := hf (n + 1) (by omega) h
      simp only [sumT]
      omega
  have hs' := hs _ (Nat.le_refl _)
  refine ⟨(S.new [ii a]).new [ii p], fun k => ?_⟩
  refine f88_step (ii a) (ii p) (.p S.nx 0) (.p (S.new [ii a]).nx 0) (ii (p - 1)) (ii ((p - 1) / 2)) (ii (sumT (fun k => k * a / p) ((p - 1) / 2))) _ S _ _ k (fun c => pBox_eq (cellsK_i _ _) S c) (fun c => pBox_eq (cellsK_i _ _) _ c) (fun c => pLd_eq g2 (by rfl) c) (fun c => sub1 (by omega) (by omega) c)
    (fun c => quo_n (by omega) (by omega) (by omega) c) (fun c => ?_) (fun c => f54_ok (by omega) _ c)
  refine f89_ok _ (fun k => k * a / p) ((p - 1) / 2) _ (by omega) hf (fun k h1 h2 c => ?_) c
  rw [call90]
  exact f90_step _ _ _ (ii a) (ii (k * a)) (ii p) _ _ c (fun c => pLd_eq g1 (by rfl) c) (fun c => mul_n (by have := hb k h2; omega) c) (fun c => pLd_eq g2 (by rfl) c) (fun c => quo_n (by have := hb k h2; omega) (by omega) (by omega) c)
theorem pSt2_eq {S : St} {id : Pos} {b : Nat} {y1 y2 x1 x2 : V} (h : S.h.get id = some ⟨b, [y1, y2]⟩) (hb : S.fl ≤ b) (c : St → R) : pSt 2 (.p id 0) (.ag [x1, x2]) S c = c (S.upd id ⟨b, [x1, x2]⟩) := by
  show updK id S 0 [x1, x2] c = _
  show getBK id S.h _ = _
  rw [getBK_eq _ _ _ _ h]
  show gu (Nat.ble S.fl b) _ = _
  rw [Nat.ble_eq_true_of_le hb]
  show setBK id (.mk b [x1, x2]) S.h _ = _
  rw [setBK_eq]; rfl
theorem pLdn2_eq {S : St} {id : Pos} {b : Nat} {x1 x2 : V} (h : S.h.get id = some ⟨b, [x1, x2]⟩) (c : V → R) : pLdn 2 (.p id 0) S c = c (.ag [x1, x2]) := by
  show cellsAt id S (fun cs => dropK cs 0 (fun l => takeK l 2 (fun l => c (.ag l)))) = _
  rw [cellsAt_eq h]; rfl
abbrev wayE : V := .ag [.s [69, 105, 115, 101, 110, 115, 116, 101, 105, 110], .f 88 []]
theorem f53_step (v0 : V) (S S1 S2 : St) (k : Cont) (h1 : ∀ c : Cont, pAlloc [(.s []), .fn0] S c = c v0 S1) (h2 : ∀ c : St → R, pSt 2 v0 wayE S1 c = c S2) (h3 : ∀ c, pLdn 2 v0 S2 c = c wayE) : F53 S k = k wayE S2 := by
  have e : ∀ c, pBuild [(.s []), .fn0] [(0, 1, (.s [69, 105, 115, 101, 110, 115, 116, 101, 105, 110])), (1, 1, (.f 88 []))] c = c wayE := fun c => by rfl
  simp only [F53, G53, C53, cSeq, cReg, cRet, h1, e, h2, h3]
theorem f53_ok {S : St} (ok : SOK S) : ∃ S', SOK S' ∧ ∀ k : Cont, F53 S k = k wayE S' :=
  ⟨(S.new [(.s []), .fn0]).upd S.nx ⟨S.cnt, [.s [69, 105, 115, 101, 110, 115, 116, 101, 105, 110], .f 88 []]⟩,
    (ok.new _).upd (St.new_get _ _) (.inl ⟨rfl, by have := ok.fl; have := ok.le; show S.cnt ≠ 0; omega⟩),
    fun k => f53_step (.p S.nx 0) S _ _ k (fun c => pAlloc_eq _ S c) (fun c => pSt2_eq (St.new_get _ _) ok.le c) (fun c => pLdn2_eq (St.upd_get _ _) c)⟩
def F26p : Gn 2 := G26 (C26 F43p F53 T26)
theorem K26p : FOK Tryz.prog 26 (un 2 F26p) := fokP (.cons K43p (.cons K53 .nil)) (show LOK Tryz.prog T26 from (.cons K76 (.cons K88 (.cons K90 (.cons K146 (.cons K165 .nil)))))) hm Tryz.func26 (by kernel_rfl) (D26 F43p F53 T26) (H26 _)
def F27p : Gn 1 := G27 (C27 F43p F54)
theorem K27p : FOK Tryz.prog 27 (un 1 F27p) := fokP (.cons K43p (.cons K54 .nil)) .nil hm Tryz.func27 (by kernel_rfl) (D27 F43p F54) (H27 _)
def F6p : Gn 2 := G6 (C6 sayT F18 F23 F26p F27p F28)
theorem K6p : FOK Tryz.prog 6 (un 2 F6p) := fokP (.cons K11y (.cons K18 (.cons K23 (.cons K26p (.cons K27p (.cons K28 .nil)))))) .nil hm Tryz.func6 (by kernel_rfl) (D6 sayT F18 F23 F26p F27p F28) (H6 _)
theorem n70 (c : V → R) : pNeq (ii 7) (.i .i64 0) c = c (.b true) := by rfl
theorem q00 (c : V → R) : pEql (ii 0) (.i .i64 0) c = c (.b true) := by rfl
theorem q77 (c : V → R) : pEql (ii 7) (.i .i64 7) c = c (.b true) := by rfl
theorem q33 (c : V → R) : pEql (ii 3) (.i .i64 3) c = c (.b true) := by rfl
theorem q27 (c : V → R) : pEql (ii 27) (.i .i64 27) c = c (.b true) := by rfl
section
variable (v w sl : V) (S S1 : St) (k : Cont) (h1 : ∀ c : Cont, pBsl [(.i .i64 0)] 1 [(0, 1, w)] S c = c sl S1)
include h1
theorem f26_err (h2 : ∀ c : Cont, F43p sl S1 c = c (ii 7) S1) : F26p v w S k = k (.tu [ii 0, ii 7]) S1 := by
  simp only [F26p, G26, C26, cSeq, cReg, cCond, cRet, h1, h2, n70, pIf_t]
theorem f26_lo (h2 : ∀ c : Cont, F43p sl S1 c = c (ii 0) S1) (h3 : ∀ c, pLss v (.i .i64 1) c = c (.b true)) : F26p v w S k = k (.tu [ii 0, ii 3]) S1 := by
  simp only [F26p, G26, C26, cSeq, cReg, cCond, cRet, cSkip, cBlock, h1, h2, h3, e00, pIf_t, pIf_f, pGd_tf, pPick_t]
theorem f26_hi (h2 : ∀ c : Cont, F43p sl S1 c = c (ii 0) S1) (h3 : ∀ c, pLss v (.i .i64 1) c = c (.b false)) (h4 : ∀ c, pGtr v (.i .i64 65521) c = c (.b true)) : F26p v w S k = k (.tu [ii 0, ii 3]) S1 := by
  simp only [F26p, G26, C26, cSeq, cReg, cCond, cRet, cSkip, cBlock, h1, h2, h3, h4, e00, pIf_t, pIf_f, pGd_ff, pPick_f]
theorem f26_even (a : V) (h2 : ∀ c : Cont, F43p sl S1 c = c (ii 0) S1) (h3 : ∀ c, pLss v (.i .i64 1) c = c (.b false)) (h4 : ∀ c, pGtr v (.i .i64 65521) c = c (.b false)) (h5 : ∀ c, pRem v (.i .i64 2) c = c a) (h6 : ∀ c, pEql a (.i .i64 0) c = c (.b true)) : F26p v w S k = k (.tu [ii 0, ii 27]) S1 := by
  simp only [F26p, G26, C26, cSeq, cReg, cCond, cRet, cSkip, cBlock, h1, h2, h3, h4, h5, h6, e00, pIf_t, pIf_f, pGd_ff, pPick_f]
theorem f26_zero (a b : V) (h2 : ∀ c : Cont, F43p sl S1 c = c (ii 0) S1) (h3 : ∀ c, pLss v (.i .i64 1) c = c (.b false)) (h4 : ∀ c, pGtr v (.i .i64 65521) c = c (.b false)) (h5 : ∀ c, pRem v (.i .i64 2) c = c a) (h6 : ∀ c, pEql a (.i .i64 0) c = c (.b false)) (h7 : ∀ c, pRem v w c = c b) (h8 : ∀ c, pEql b (.i .i64 0) c = c (.b true)) : F26p v w S k = k (.tu [ii 0, ii 0]) S1 := by
  simp only [F26p, G26, C26, cSeq, cReg, cCond, cRet, cSkip, cBlock, h1, h2, h3, h4, h5, h6, h7, h8, e00, pIf_t, pIf_f, pGd_ff, pPick_f]
theorem f26_go (a b x : V) (S2 S3 : St) (h2 : ∀ c : Cont, F43p sl S1 c = c (ii 0) S1) (h3 : ∀ c, pLss v (.i .i64 1) c = c (.b false)) (h4 : ∀ c, pGtr v (.i .i64 65521) c = c (.b false)) (h5 : ∀ c, pRem v (.i .i64 2) c = c a) (h6 : ∀ c, pEql a (.i .i64 0) c = c (.b false)) (h7 : ∀ c, pRem v w c = c b) (h8 : ∀ c, pEql b (.i .i64 0) c = c (.b false))
    (h9 : ∀ c : Cont, F53 S1 c = c wayE S2) (h10 : ∀ c : Cont, pCallv T26 (.f 88 []) [v, w] S2 c = c x S3) : F26p v w S k = k (.tu [x, ii 0]) S3 := by
  have e : ∀ c, pFld 1 wayE c = c (.f 88 []) := fun c => by rfl
  simp only [F26p, G26, C26, cSeq, cReg, cCond, cRet, cSkip, cBlock, h1, h2, h3, h4, h5, h6, h7, h8, h9, h10, e, e00, pIf_t, pIf_f, pGd_ff, pPick_f, Nat.beq_refl]
theorem f27_err (h2 : ∀ c : Cont, F43p sl S1 c = c (ii 7) S1) : F27p w S k = k (.tu [ii 0, ii 7]) S1 := by
  simp only [F27p, G27, C27, cSeq, cReg, cCond, cRet, h1, h2, n70, pIf_t]
theorem f27_go (x y s z : V) (h2 : ∀ c : Cont, F43p sl S1 c = c (ii 0) S1) (h3 : ∀ c, pSub w (.i .i64 1) c = c x) (h4 : ∀ c, pQuo x (.i .i64 2) c = c y) (h5 : ∀ c : Cont, F54 y S1 c = c s S1) (h6 : ∀ c, pMul w s c = c z) : F27p w S k = k (.tu [z, ii 0]) S1 := by
  simp only [F27p, G27, C27, cSeq, cReg, cCond, cRet, cSkip, h1, h2, h3, h4, h5, h6, e00, pIf_f]
end
theorem f23_pos (v a : V) (S : St) (k : Cont) (h1 : ∀ c, pRem v (.i .i64 4) c = c a) (h2 : ∀ c, pEql a (.i .i64 1) c = c (.b true)) : F23 v S k = k v S := by
  simp only [F23, G23, C23, cSeq, cReg, cCond, cRet, cSkip, h1, h2, pIf_t]
theorem f23_neg (v a b : V) (S : St) (k : Cont) (h1 : ∀ c, pRem v (.i .i64 4) c = c a) (h2 : ∀ c, pEql a (.i .i64 1) c = c (.b false)) (h3 : ∀ c, pNeg v c = c b) : F23 v S k = k b S := by
  simp only [F23, G23, C23, cSeq, cReg, cCond, cRet, cSkip, h1, h2, h3, pIf_f]
/-- p star -/
def stZ (p : Nat) : Nat := if p % 4 = 1 then p else 18446744073709551616 - p
theorem f23_ok {p : Nat} (hp : 1 ≤ p) (hp2 : p < 100000) (S : St) (k : Cont) : F23 (ii p) S k = k (ii (stZ p)) S := by
  have e1 : ∀ c, pRem (ii p) (.i .i64 4) c = c (ii (p % 4)) := fun c => rem_n (by omega) (by omega) (by omega) c
  unfold stZ
  by_cases h : p % 4 = 1
  · rw [if_pos h, f23_pos _ _ S k e1 (fun c => by rw [eql_n, decide_eq_true h])]
  · rw [if_neg h, f23_neg _ _ (ii (18446744073709551616 - p)) S k e1 (fun c => by rw [eql_n, decide_eq_false h]) (fun c => ?_)]
    show retI c .i64 (Nat.mod (Nat.sub (M .i64) p) (M .i64)) = _
    rw [retI_eq]
    have e : Nat.mod (Nat.sub (M .i64) p) (M .i64) = 18446744073709551616 - p := by
      show (18446744073709551616 - p) % 18446744073709551616 = _
      omega
    rw [e]
theorem st_mul {p : Nat} (hp : 3 ≤ p) (hp2 : p < 100000) (ho : p % 2 = 1) : (p * sgZ ((p - 1) / 2)) % 18446744073709551616 = stZ p := by
  unfold sgZ stZ
  by_cases h : p % 4 = 1
  · rw [if_pos h, if_pos (by omega), Nat.mul_one]; omega
  · rw [if_neg h, if_neg (by omega)]
    show (p * 18446744073709551615) % 18446744073709551616 = _
    omega
section
variable (v w x e s f : V) (S1 S2 : St) (g1 : ∀ c : Cont, F26p v w S0 c = c (.tu [x, e]) S1) (g2 : ∀ c : Cont, F27p w S1 c = c (.tu [s, f]) S2)
include g1 g2
theorem law_err (h1 : ∀ (S : St) (c : Cont), F18 w S c = c (.b false) S) (h2 : ∀ c, pEql x (.i .i64 0) c = c (.b true)) (h3 : ∀ c, pEql e (.i .i64 7) c = c (.b true)) (h4 : ∀ c, pEql s (.i .i64 0) c = c (.b true)) (h5 : ∀ c, pEql f (.i .i64 7) c = c (.b true)) : F6p v w S0 fin = fin (.b true) S2 := by
  simp only [F6p, G6, C6, cSeq, cReg, cCond, cRet, cSkip, cBlock, sayT, pNot_t, pNot_f, g1, g2, h1, h2, h3, h4, h5, pExt_0, pExt_1, pIf_t, pIf_f, pGd_tt, pGd_ft, pPick_t, pPick_f]
variable (h1 : ∀ (S : St) (c : Cont), F18 w S c = c (.b true) S) (h0 : ∀ c, pGtr w (.i .i64 3000) c = c (.b false)) (h2 : ∀ (S : St) (c : Cont), F23 w S c = c s S) (h3 : ∀ c, pNeq s s c = c (.b false)) (h4 : ∀ c, pNeq f (.i .i64 0) c = c (.b false))
include h1 h0 h2 h3 h4
theorem law_lo (h5 : ∀ c, pLss v (.i .i64 1) c = c (.b true)) (h6 : ∀ c, pEql x (.i .i64 0) c = c (.b true)) (h7 : ∀ c, pEql e (.i .i64 3) c = c (.b true)) : F6p v w S0 fin = fin (.b true) S2 := by
  simp only [F6p, G6, C6, cSeq, cReg, cCond, cRet, cSkip, cBlock, sayT, pNot_t, pNot_f, g1, g2, h0, h1, h2, h3, h4, h5, h6, h7, pExt_0, pExt_1, pIf_t, pIf_f, pGd_tt, pGd_ft, pGd_tf, pGd_ff, pPick_t, pPick_f]
theorem law_hi (h5 : ∀ c, pLss v (.i .i64 1) c = c (.b false)) (h5' : ∀ c, pGtr v (.i .i64 65521) c = c (.b true)) (h6 : ∀ c, pEql x (.i .i64 0) c = c (.b true)) (h7 : ∀ c, pEql e (.i .i64 3) c = c (.b true)) : F6p v w S0 fin = fin (.b true) S2 := by
  simp only [F6p, G6, C6, cSeq, cReg, cCond, cRet, cSkip, cBlock, sayT, pNot_t, pNot_f, g1, g2, h0, h1, h2, h3, h4, h5, h5', h6, h7, pExt_0, pExt_1, pIf_t, pIf_f, pGd_tt, pGd_ft, pGd_tf, pGd_ff, pPick_t, pPick_f]
theorem law_even (a : V) (h5 : ∀ c, pLss v (.i .i64 1) c = c (.b false)) (h5' : ∀ c, pGtr v (.i .i64 65521) c = c (.b false)) (h8 : ∀ c, pRem v (.i .i64 2) c = c a) (h9 : ∀ c, pEql a (.i .i64 0) c = c (.b true)) (h6 : ∀ c, pEql x (.i .i64 0) c = c (.b true)) (h7 : ∀ c, pEql e (.i .i64 27) c = c (.b true)) : F6p v w S0 fin = fin (.b true) S2 := by
  simp only [F6p, G6, C6, cSeq, cReg, cCond, cRet, cSkip, cBlock, sayT, pNot_t, pNot_f, g1, g2, h0, h1, h2, h3, h4, h5, h5', h6, h7, h8, h9, pExt_0, pExt_1, pIf_t, pIf_f, pGd_tt, pGd_ft, pGd_tf, pGd_ff, pPick_t, pPick_f]
theorem law_go (a y : V) (h5 : ∀ c, pLss v (.i .i64 1) c = c (.b false)) (h5' : ∀ c, pGtr v (.i .i64 65521) c = c (.b false)) (h8 : ∀ c, pRem v (.i .i64 2) c = c a) (h9 : ∀ c, pEql a (.i .i64 0) c = c (.b false)) (h10 : ∀ c : Cont, F28 v w S2 c = c y S2) (h6 : ∀ c, pEql x y c = c (.b true)) (h7 : ∀ c, pEql e (.i .i64 0) c = c (.b true)) : F6p v w S0 fin = fin (.b true) S2 := by
  simp only [F6p, G6, C6, cSeq, cReg, cCond, cRet, cSkip, cBlock, sayT, pNot_t, pNot_f, g1, g2, h0, h1, h2, h3, h4, h5, h5', h6, h7, h8, h9, h10, pExt_0, pExt_1, pIf_t, pIf_f, pGd_tt, pGd_ft, pGd_tf, pGd_ff, pPick_t, pPick_f, Nat.beq_refl]
end
theorem law_big (v w : V) (h1 : ∀ (S : St) (c : Cont), F18 w S c = c (.b true) S) (h0 : ∀ c, pGtr w (.i .i64 3000) c = c (.b true)) : F6p v w S0 fin = fin (.b true) S0 := by
  simp only [F6p, G6, C6, cSeq, cReg, cCond, cRet, cSkip, cBlock, sayT, pNot_t, h1, h0, pIf_t, pIf_f, pGd_tt, pPick_t]
theorem chk_cases (n : Nat) : chk n = 7 ∨ chk n = 0 := by
  unfold chk; split
  · exact .inr rfl
  · exact .inl rfl
theorem chk_prime {n : Nat} (h : chk n = 0) : 3 ≤ n ∧ n ≤ 65521 ∧ PrimeN n := by
  unfold chk at h
  split at h
  · rename_i h'; exact ⟨h'.1, h'.2.1, isP_iff.1 h'.2.2⟩
  · cases h
theorem star_ok {m : Nat} (h : chk m = 0) {S : St} (k : Cont) : F27p (ii m) S k = k (.tu [ii (stZ m), ii 0]) (S.new [ii m]) := by
  obtain ⟨h1, h2, h3⟩ := chk_prime h
  have e2 : ∀ c : Cont, F43p (.sl S.nx 0 1 1) (S.new [ii m]) c = c (ii (chk m)) (S.new [ii m]) := fun c => check1 (by omega) (St.new_get _ _) c
  rw [h] at e2
  have ho : m % 2 = 1 := by
    rcases Nat.mod_two_eq_zero_or_one m with h | h
    · exact absurd (Nat.dvd_of_mod_eq_zero h) (h3.2 2 (Nat.le_refl _) (by omega))
    · exact h
  refine f27_go (ii m) _ S _ k (fun c => pBsl1_eq (cellsK_i _ _) S c) (ii (m - 1)) (ii ((m - 1) / 2)) (ii (sgZ ((m - 1) / 2))) _ e2 (fun c => sub1 (by omega) (by omega) c) (fun c => quo_n (by omega) (by omega) (by omega) c) (fun c => f54_ok (by omega) _ c) (fun c => ?_)
  rw [pMul_i, show M .i64 = 18446744073709551616 from rfl, st_mul h1 (by omega) ho]
theorem all6 (n m : Nat) (hn : n < 18446744073709551616) (hm : m < 18446744073709551616) : ∃ S, F6p (ii n) (ii m) S0 fin = fin (.b true) S := by
  have e1 : ∀ c : Cont, pBsl [(.i .i64 0)] 1 [(0, 1, ii m)] S0 c = c (.sl S0.nx 0 1 1) (S0.new [ii m]) := fun c => pBsl1_eq (cellsK_i _ _) S0 c
  have e2 : ∀ c : Cont, F43p (.sl S0.nx 0 1 1) (S0.new [ii m]) c = c (ii (chk m)) (S0.new [ii m]) := fun c => check1 hm (St.new_get _ _) c
  have e3 : ∀ (S : St) (c : Cont), F18 (ii m) S c = c (.b (Nat.beq (chk m) 0)) S := fun S c => f18_ok hm S c
  rcases chk_cases m with h | h
  · have e2' : ∀ (S : St) (c : Cont), F43p (.sl S.nx 0 1 1) (S.new [ii m]) c = c (ii 7) (S.new [ii m]) := fun S c => by
      have := check1 hm (St.new_get S [ii m]) c
      rw [h] at this; exact this
    rw [h] at e2 e3
    exact ⟨_, law_err (ii n) (ii m) (ii 0) (ii 7) (ii 0) (ii 7) _ _ (fun c => f26_err (ii n) (ii m) _ S0 _ c e1 e2) (fun c => f27_err (ii m) _ _ _ c (fun c => pBsl1_eq (cellsK_i _ _) _ c) (e2' _)) e3 q00 q77 q00 q77⟩
  · rw [h] at e2 e3
    obtain ⟨h1, h2, h3⟩ := chk_prime h
    have g0 : ∀ c, pGtr (ii m) (.i .i64 3000) c = c (.b (decide (3000 < m))) := fun c => gtr_n (by omega) (by omega) c
    by_cases hb : 3000 < m
    · rw [decide_eq_true hb] at g0
      exact ⟨_, law_big (ii n) (ii m) e3 g0⟩
    · rw [decide_eq_false hb] at g0
      have h23 : ∀ (S : St) (c : Cont), F23 (ii m) S c = c (ii (stZ m)) S := fun S c => f23_ok (by omega) (by omega) S c
      have hss : ∀ c, pNeq (ii (stZ m)) (ii (stZ m)) c = c (.b false) := fun c => by rw [neq_n, decide_eq_true rfl]; rfl
      by_cases hs : n < 9223372036854775808
      · by_cases ha : n < 1
        · have g5 : ∀ c, pLss (ii n) (.i .i64 1) c = c (.b true) := fun c => by rw [lss_n hs (by omega), decide_eq_true ha]
          exact ⟨_, law_lo (ii n) (ii m) (ii 0) (ii 3) (ii (stZ m)) (ii 0) _ _ (fun c => f26_lo (ii n) (ii m) _ S0 _ c e1 e2 g5) (fun c => star_ok h c) e3 g0 h23 hss e00 g5 q00 q33⟩
        · have g5 : ∀ c, pLss (ii n) (.i .i64 1) c = c (.b false) := fun c => by rw [lss_n hs (by omega), decide_eq_false ha]
          have g6 : ∀ c, pGtr (ii n) (.i .i64 65521) c = c (.b (decide (65521 < n))) := fun c => gtr_n hs (by omega) c
          by_cases hc : 65521 < n
          · rw [decide_eq_true hc] at g6
            exact ⟨_, law_hi (ii n) (ii m) (ii 0) (ii 3) (ii (stZ m)) (ii 0) _ _ (fun c => f26_hi (ii n) (ii m) _ S0 _ c e1 e2 g5 g6) (fun c => star_ok h c) e3 g0 h23 hss e00 g5 g6 q00 q33⟩
          · rw [decide_eq_false hc] at g6
            have g7 : ∀ c, pRem (ii n) (.i .i64 2) c = c (ii (n % 2)) := fun c => rem_n hs (by omega) (by omega) c
            have g8 : ∀ c, pEql (ii (n % 2)) (.i .i64 0) c = c (.b (decide (n % 2 = 0))) := fun c => eql_n _ _ c
            by_cases he : n % 2 = 0
            · rw [decide_eq_true he] at g8
              exact ⟨_, law_even (ii n) (ii m) (ii 0) (ii 27) (ii (stZ m)) (ii 0) _ _ (fun c => f26_even (ii n) (ii m) _ S0 _ c e1 (ii (n % 2)) e2 g5 g6 g7 g8) (fun c => star_ok h c) e3 g0 h23 hss e00 (ii (n % 2)) g5 g6 g7 g8 q00 q27⟩
            · rw [decide_eq_false he] at g8
              have g9 : ∀ c, pRem (ii n) (ii m) c = c (ii (n % m)) := fun c => rem_n hs (by omega) (by omega) c
              have g10 : ∀ c, pEql (ii (n % m)) (.i .i64 0) c = c (.b (decide (n % m = 0))) := fun c => eql_n _ _ c
              by_cases hz : n % m = 0
              · rw [decide_eq_true hz] at g10
                have hc0 : cZ n m = 0 := if_pos hz
                exact ⟨_, law_go (ii n) (ii m) (ii 0) (ii 0) (ii (stZ m)) (ii 0) _ _ (fun c => f26_zero (ii n) (ii m) _ S0 _ c e1 (ii (n % 2)) (ii (n % m)) e2 g5 g6 g7 g8 g9 g10) (fun c => star_ok h c) e3 g0 h23 hss e00 (ii (n % 2)) (ii 0) g5 g6 g7 g8
                  (fun c => by rw [fC_ok h1 (by omega) hs, hc0]) q00 q00⟩
              · rw [decide_eq_false hz] at g10
                obtain ⟨S2, ok2, d1⟩ := f53_ok (S0_ok.new [ii m])
                obtain ⟨S3, d2⟩ := f88_ok (a := n) (p := m) (by omega) h1 (by omega) ok2
                obtain ⟨g, hg⟩ := in_PL h1 (by omega) h3
                have hnd : ¬ m ∣ n := fun hv => hz (Nat.mod_eq_zero_of_dvd hv)
                have hx : sgZ (sumT (fun k => k * n / m) ((m - 1) / 2)) = cZ n m := by
                  rw [cZ_eZ h1 (PL_gen hg) (by omega)]
                  unfold sgZ eZ
                  rw [eN_mod, eisen h3 h1 hnd (by omega)]
                  by_cases hq : muG n m % 2 = 0
                  · rw [if_pos hq, if_pos ((gauss_iff h3 h1 hnd).2 hq)]
                  · rw [if_neg hq, if_neg (fun e => hq ((gauss_iff h3 h1 hnd).1 e))]
                exact ⟨_, law_go (ii n) (ii m) (ii (sgZ (sumT (fun k => k * n / m) ((m - 1) / 2)))) (ii 0) (ii (stZ m)) (ii 0) S3 _ (fun c => f26_go (ii n) (ii m) _ S0 _ c e1 (ii (n % 2)) (ii (n % m)) _ S2 S3 e2 g5 g6 g7 g8 g9 g10 d1 (fun c => by rw [call88, d2])) (fun c => star_ok h c) e3 g0 h23 hss e00 (ii (n % 2)) (ii (cZ n m)) g5 g6 g7 g8
                  (fun c => fC_ok h1 (by omega) hs _ c) (fun c => by rw [eql_n, decide_eq_true hx]) q00⟩
      · have g5 : ∀ c, pLss (ii n) (.i .i64 1) c = c (.b true) := fun c => by rw [pLss_i, sh_ge (by omega) hn, sh_lt (by omega), blt_eq, decide_eq_true (by omega)]
        exact ⟨_, law_lo (ii n) (ii m) (ii 0) (ii 3) (ii (stZ m)) (ii 0) _ _ (fun c => f26_lo (ii n) (ii m) _ S0 _ c e1 e2 g5) (fun c => star_ok h c) e3 g0 h23 hss e00 g5 q00 q33⟩
theorem toN (a : Int) : (a % (M .i64 : Int)).toNat < 18446744073709551616 := by
  have h0 := Int.emod_nonneg a (b := (M .i64 : Int)) (by decide)
  have h1 := Int.emod_lt_of_pos a (b := (M .i64 : Int)) (by decide)
  have h2 : (M .i64 : Int) = 18446744073709551616 := by decide
  omega
theorem walkReciprocityLattice (a b : Int) (W : World) (wa : (Lit.int .i64 a).wf = true) (wb : (Lit.int .i64 b).wf = true) : Calls Tryz.prog 6 #[.int .i64 a, .int .i64 b] W fun e w' => e = .returned (.bool true) ∧ Go.RowKit.Below W.heap.size W w' := by
  have hv : VRs (fun _ => none) [.i .i64 (a % (M .i64 : Int)).toNat, .i .i64 (b % (M .i64 : Int)).toNat] (#[.int .i64 a, .int .i64 b] : Array Value).toList := .cons _ _ _ _ (vr_wf wa) (.cons _ _ _ _ (vr_wf wb) .nil)
  have hn := toN a
  have hm := toN b
  generalize (a % (M .i64 : Int)).toNat = n at hv hn
  generalize (b % (M .i64 : Int)).toNat = m at hv hm
  refine top_calls Tryz.func6 (by kernel_rfl) (by kernel_rfl) K6p _ _ hv ?_ W
  obtain ⟨S, h⟩ := all6 n m hn hm
  rw [un2']
  change yesB (F6p _ _ S0 fin) = true
  rw [h]; rfl
end
end Go.AM
