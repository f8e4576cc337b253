/- Symbols: the law returns true at all arguments. -/
import Derived.Test.YtpendgpnikmohaaGreatXSv
import Derived.Test.YtpendgpnikmohaaGreatXZN
set_option linter.unusedVariables false
set_option linter.unusedSimpArgs false
set_option maxRecDepth 100000
namespace Go.AM
open Go.Proofs
noncomputable section
def fin : V → St → R := fun v S => some (v, S)
/- sums over a closure -/
def B89 (t : List (Nat × Fun)) : CS 8 := (cSeq (cReg fun kn v0 v1 v2 v3 v4 v5 v6 v7 S => pLss v2 v3 (fun a0 => kn v0 v1 v2 v3 a0 v5 v6 v7 S)) (cSeq (cCond (fun x y v0 v1 v2 v3 v4 v5 v6 v7 S => pIf v4 (x v0 v1 v2 v3 v4 v5 v6 v7 S) (y v0 v1 v2 v3 v4 v5 v6 v7 S)) cSkip (cExit 0)) (cSeq (cBlock 1 (cSeq (cReg fun kn v0 v1 v2 v3 v4 v5 v6 v7 S => kn v0 v1 v2 v3 v4 v5 v2 v7 S) (cReg fun kn v0 v1 v2 v3 v4 v5 v6 v7 S => pAdd v6 (.i .i64 1) (fun a0 => pCallv t v1 [a0] S (fun a1 S => pAdd v5 a1 (fun a2 => kn v0 v1 v2 v3 v4 a2 v6 v7 S)))))) (cReg fun kn v0 v1 v2 v3 v4 v5 v6 v7 S => pAdd v2 (.i .i64 1) (fun a0 => kn v0 v1 a0 v3 v4 v5 v6 v7 S)))))
def HS (t : List (Nat × Fun)) (Lp : CS 8) : CS 8 := (cSeq (cReg fun kn v0 v1 v2 v3 v4 v5 v6 v7 S => kn v0 v1 v2 v3 v4 v5 v6 (.i .i64 0) S) (cSeq (cReg fun kn v0 v1 v2 v3 v4 v5 v6 v7 S => kn v0 v1 v2 v3 v4 (.i .i64 0) v6 v7 S) (cSeq (cSeq (cReg fun kn v0 v1 v2 v3 v4 v5 v6 v7 S => kn v0 v1 (.i .i64 0) v0 v4 v5 v6 v7 S) Lp) (cSeq (cReg fun kn v0 v1 v2 v3 v4 v5 v6 v7 S => kn v0 v1 v2 v3 v4 v5 v6 v5 S) cRet))))
theorem C89_eq (t : List (Nat × Fun)) : C89 t = HS t (cBlock 0 (cLoop (B89 t))) := by rfl
theorem b89_end (t : List (Nat × Fun)) (K : Fn 8) (kx : Nat → Fn 8) (kr : Fn 8) (v0 v1 v2 v3 v4 v5 v6 v7 : V) (S : St) (h1 : ∀ c, pLss v2 v3 c = c (.b false)) : B89 t K kx kr v0 v1 v2 v3 v4 v5 v6 v7 S = kx 0 v0 v1 v2 v3 (.b false) v5 v6 v7 S := by
  simp only [B89, cSeq, cReg, cCond, cBlock, cSkip, cExit, cRet, h1, pIf_t, pIf_f]
theorem b89_go (t : List (Nat × Fun)) (K : Fn 8) (kx : Nat → Fn 8) (kr : Fn 8) (v0 v1 v2 v3 v4 v5 v6 v7 x y o : V) (S : St) (h1 : ∀ c, pLss v2 v3 c = c (.b true)) (h2 : ∀ c, pAdd v2 (.i .i64 1) c = c x) (h3 : ∀ c : Cont, pCallv t v1 [x] S c = c y S) (h4 : ∀ c, pAdd v5 y c = c o) :
    B89 t K kx kr v0 v1 v2 v3 v4 v5 v6 v7 S = K v0 v1 x v3 (.b true) o v2 v7 S := by
  simp only [B89, cSeq, cReg, cCond, cBlock, cSkip, cExit, cRet, h1, h2, h3, h4, pIf_t, pIf_f]
theorem loop89 (t : List (Nat × Fun)) (fv : V) (f : Nat → Nat) (n : Nat) (S : St) (hn : n < 100000) (hf : ∀ k, 1 ≤ k → k ≤ n → f k < 10000000000) (hc : ∀ k, 1 ≤ k → k ≤ n → ∀ c : Cont, pCallv t fv [ii k] S c = c (ii (f k)) S) : ∀ (N i : Nat) (v4 v6 : V), i ≤ n → n < i + N → sumT f i < 10000000000 * (i + 1) →
    ∃ v6', ∀ (kx : Nat → Fn 8) (kr : Fn 8) (v0 v7 : V), loopN (B89 t) kx kr N v0 fv (ii i) (ii n) v4 (ii (sumT f i)) v6 v7 S = kx 0 v0 fv (ii n) (ii n) (.b false) (ii (sumT f n)) v6' v7 S
  | 0, i, v4, v6, h1, h2, h3 => by omega
  | N + 1, i, v4, v6, h1, h2, h3 => by
    by_cases hi : i < n
    · have h4 := hf (i + 1) (by omega) (by omega)
      have h5 : sumT f (i + 1) < 10000000000 * (i + 1 + 1) := by simp only [sumT]; omega
      obtain ⟨v6', h⟩ := loop89 t fv f n S hn hf hc N (i + 1) (.b true) (ii i) (by omega) (by omega) h5
      refine ⟨v6', fun kx kr v0 v7 => ?_⟩
      rw [loopN_succ, b89_go t _ _ _ _ _ _ _ _ _ _ _ (ii (i + 1)) (ii (f (i + 1))) (ii (sumT f (i + 1))) S (fun c => by rw [lss_n (by omega) (by omega), decide_eq_true hi]) (fun c => add_n (by omega) c) (hc (i + 1) (by omega) (by omega)) (fun c => add_n (by omega) c)]
      exact h kx kr v0 v7
    · have : i = n := by omega
      subst this
      refine ⟨v6, fun kx kr v0 v7 => ?_⟩
      rw [loopN_succ, b89_end t _ _ _ _ _ _ _ _ _ _ _ S (fun c => by rw [lss_n (by omega) (by omega), decide_eq_false (by omega)])]
theorem h89_step (t : List (Nat × Fun)) (B : CS 8) (n fv v2' v3' v4' o v6' : V) (S : St) (k : Cont) (hB : ∀ (kn : Fn 8) (kx : Nat → Fn 8) (kr : Fn 8), B kn kx kr n fv (.i .i64 0) n .other (.i .i64 0) .other (.i .i64 0) S = kn n fv v2' v3' v4' o v6' (.i .i64 0) S) :
    HS t B (fun v0 v1 v2 v3 v4 v5 v6 v7 S => k v7 S) (fun _ => bot 8) (fun v0 v1 v2 v3 v4 v5 v6 v7 S => k v7 S) n fv .other .other .other .other .other .other S = k o S := by
  simp only [HS, cSeq, cReg, cRet, hB]
theorem f89_ok (fv : V) (f : Nat → Nat) (n : Nat) (S : St) (hn : n < 100000) (hf : ∀ k, 1 ≤ k → k ≤ n → f k < 10000000000) (hc : ∀ k, 1 ≤ k → k ≤ n → ∀ c : Cont, pCallv T89 fv [ii k] S c = c (ii (f k)) S) (k : Cont) : F89 (ii n) fv S k = k (ii (sumT f n)) S := by
  unfold F89 G89
  rw [C89_eq]
  obtain ⟨v6', hl⟩ := loop89 T89 fv f n S hn hf hc 1000000 0 .other .other (by omega) (by omega) (by show (0 : Nat) < _; decide)
  refine h89_step T89 (cBlock 0 (cLoop (B89 T89))) (ii n) fv (ii n) (ii n) (.b false) (ii (sumT f n)) v6' S k fun kn kx kr => ?_
  obtain ⟨kx', h1, h2⟩ := block_loop (B89 T89) kn kx kr
  rw [h2]
  exact (hl kx' kr (ii n) (ii 0)).trans (by rw [h1])
/- sign -/
def sgZ (n : Nat) : Nat := if n % 2 = 0 then 1 else m1
theorem f54_step (v a b c' : V) (S : St) (k : Cont) (h1 : ∀ c, pRem v (.i .i64 2) c = c a) (h2 : ∀ c, pMul a (.i .i64 2) c = c b) (h3 : ∀ c, pSub (.i .i64 1) b c = c c') : F54 v S k = k c' S := by
  simp only [F54, G54, C54, cSeq, cReg, cRet, h1, h2, h3]
theorem f54_ok {n : Nat} (hn : n < 9223372036854775808) (S : St) (k : Cont) : F54 (ii n) S k = k (ii (sgZ n)) S := by
  have e1 : ∀ c, pRem (ii n) (.i .i64 2) c = c (ii (n % 2)) := fun c => rem_n hn (by omega) (by omega) c
  unfold sgZ
  rcases Nat.mod_two_eq_zero_or_one n with h | h
  · rw [if_pos h]
    rw [h] at e1
    exact f54_step _ _ (ii 0) _ S k e1 (fun c => by rfl) (fun c => by rfl)
  · rw [if_neg (by omega)]
    rw [h] at e1
    exact f54_step _ _ (ii 2) _ S k e1 (fun c => by rfl) (fun c => by rfl)
/- Eisenstein's way -/

theorem sub1 {p : Nat} (h : 1 ≤ p) (h' : p < 100000) (c : V → R) : pSub (ii p) (.i .i64 1) c = c (ii (p - 1)) := by
  have e : (p + (M .i64 - 1)) % M .i64 = p - 1 := by
    show (p + 18446744073709551615) % 18446744073709551616 = p - 1
    omega
  rw [pSub_i, e]

theorem pSt2_eq {S : St} {id : Pos} {b : Nat} {y1 y2 x1 x2 : V} (h : S.h.get id = some ⟨b, [y1, y2]⟩) (hb : S.fl ≤ b) (c : St → R) : pSt 2 (.p id 0) (.ag [x1, x2]) S c = c (S.upd id ⟨b, [x1, x2]⟩) := by
  show updK id S 0 [x1, x2] c = _
  show getBK id S.h _ = _
  rw [getBK_eq _ _ _ _ h]
  show gu (Nat.ble S.fl b) _ = _
  rw [Nat.ble_eq_true_of_le hb]
  show setBK id (.mk b [x1, x2]) S.h _ = _
  rw [setBK_eq]; rfl
theorem pLdn2_eq {S : St} {id : Pos} {b : Nat} {x1 x2 : V} (h : S.h.get id = some ⟨b, [x1, x2]⟩) (c : V → R) : pLdn 2 (.p id 0) S c = c (.ag [x1, x2]) := by
  show cellsAt id S (fun cs => dropK cs 0 (fun l => takeK l 2 (fun l => c (.ag l)))) = _
  rw [cellsAt_eq h]; rfl

/- Zolotarev's way -/
def BZi : CS 12 := (cSeq (cSeq (cReg fun kn v0 v1 v2 v3 v4 v5 v6 v7 v8 v9 v10 v11 S => pIdx 1 v5 v9 (fun a0 => pLd a0 S (fun a1 => pNot a1 (fun a2 => kn v0 v1 v2 v3 v4 v5 v6 v7 v8 v9 a2 v11 S)))) (cCond (fun x y v0 v1 v2 v3 v4 v5 v6 v7 v8 v9 v10 v11 S => pIf v10 (x v0 v1 v2 v3 v4 v5 v6 v7 v8 v9 v10 v11 S) (y v0 v1 v2 v3 v4 v5 v6 v7 v8 v9 v10 v11 S)) cSkip (cExit 2))) (cSeq (cBlock 3 (cReg fun kn v0 v1 v2 v3 v4 v5 v6 v7 v8 v9 v10 v11 S => pIdx 1 v5 v9 (fun a0 => pSt 1 a0 (.b true) S (fun S => kn v0 v1 v2 v3 v4 v5 v6 v7 v8 v9 v10 v11 S)))) (cReg fun kn v0 v1 v2 v3 v4 v5 v6 v7 v8 v9 v10 v11 S => pMul v0 v9 (fun a0 => pRem a0 v1 (fun a1 => kn v0 v1 v2 v3 v4 v5 v6 v7 v8 a1 v10 v11 S)))))
def BZo (Ip : CS 12) : CS 12 := (cSeq (cReg fun kn v0 v1 v2 v3 v4 v5 v6 v7 v8 v9 v10 v11 S => pLss v2 v3 (fun a0 => kn v0 v1 v2 v3 a0 v5 v6 v7 v8 v9 v10 v11 S)) (cSeq (cCond (fun x y v0 v1 v2 v3 v4 v5 v6 v7 v8 v9 v10 v11 S => pIf v4 (x v0 v1 v2 v3 v4 v5 v6 v7 v8 v9 v10 v11 S) (y v0 v1 v2 v3 v4 v5 v6 v7 v8 v9 v10 v11 S)) cSkip (cExit 0)) (cSeq (cBlock 1 (cSeq (cReg fun kn v0 v1 v2 v3 v4 v5 v6 v7 v8 v9 v10 v11 S => kn v0 v1 v2 v3 v4 v5 v2 v7 v8 v9 v10 v11 S) (cSeq (cSeq (cReg fun kn v0 v1 v2 v3 v4 v5 v6 v7 v8 v9 v10 v11 S => pIdx 1 v5 v6 (fun a0 => pLd a0 S (fun a1 => kn v0 v1 v2 v3 v4 v5 v6 a1 v8 v9 v10 v11 S))) (cCond (fun x y v0 v1 v2 v3 v4 v5 v6 v7 v8 v9 v10 v11 S => pIf v7 (x v0 v1 v2 v3 v4 v5 v6 v7 v8 v9 v10 v11 S) (y v0 v1 v2 v3 v4 v5 v6 v7 v8 v9 v10 v11 S)) (cExit 1) cSkip)) (cSeq (cReg fun kn v0 v1 v2 v3 v4 v5 v6 v7 v8 v9 v10 v11 S => pAdd v8 (.i .i64 1) (fun a0 => kn v0 v1 v2 v3 v4 v5 v6 v7 a0 v9 v10 v11 S)) (cSeq (cReg fun kn v0 v1 v2 v3 v4 v5 v6 v7 v8 v9 v10 v11 S => kn v0 v1 v2 v3 v4 v5 v6 v7 v8 v6 v10 v11 S) Ip))))) (cReg fun kn v0 v1 v2 v3 v4 v5 v6 v7 v8 v9 v10 v11 S => pAdd v2 (.i .i64 1) (fun a0 => kn v0 v1 a0 v3 v4 v5 v6 v7 v8 v9 v10 v11 S)))))
def HZ (Lp : CS 12) : CS 12 := (cSeq (cReg fun kn v0 v1 v2 v3 v4 v5 v6 v7 v8 v9 v10 v11 S => kn v0 v1 v2 v3 v4 v5 v6 v7 v8 v9 v10 (.i .i64 0) S) (cSeq (cReg fun kn v0 v1 v2 v3 v4 v5 v6 v7 v8 v9 v10 v11 S => pMks [(.b false)] v1 v1 S (fun a0 S => kn v0 v1 v2 v3 v4 a0 v6 v7 v8 v9 v10 v11 S)) (cSeq (cReg fun kn v0 v1 v2 v3 v4 v5 v6 v7 v8 v9 v10 v11 S => kn v0 v1 v2 v3 v4 v5 v6 v7 (.i .i64 0) v9 v10 v11 S) (cSeq (cSeq (cReg fun kn v0 v1 v2 v3 v4 v5 v6 v7 v8 v9 v10 v11 S => kn v0 v1 (.i .i64 0) v1 v4 v5 v6 v7 v8 v9 v10 v11 S) Lp) (cSeq (cReg fun kn v0 v1 v2 v3 v4 v5 v6 v7 v8 v9 v10 v11 S => pSub v1 v8 (fun a0 => F54 a0 S (fun a1 S => kn v0 v1 v2 v3 v4 v5 v6 v7 v8 v9 v10 a1 S))) cRet)))))
theorem C93_eq : C93 F54 = HZ (cBlock 0 (cLoop (BZo (cBlock 2 (cLoop BZi))))) := by rfl
theorem block_loop2 {n : Nat} (c : CS n) (kn : Fn n) (kx : Nat → Fn n) (kr : Fn n) : ∃ kx' : Nat → Fn n, kx' 2 = kn ∧ cBlock 2 (cLoop c) kn kx kr = loopN c kx' kr 1000000 :=
  ⟨fun id' => Bool.rec (fun kx kn => kx) (fun kx kn => kn) (Nat.beq id' 2) (kx id') kn, rfl, by unfold cBlock cLoop; rfl⟩
section
variable (K : Fn 12) (kx : Nat → Fn 12) (kr : Fn 12) (v0 v1 v2 v3 v4 v5 v6 v7 v8 v9 v10 v11 q x y' v2' v8' v9' : V) (S S' : St)
theorem bi_end (h1 : ∀ c, pIdx 1 v5 v9 c = c q) (h2 : ∀ c, pLd q S c = c (.b true)) : BZi K kx kr v0 v1 v2 v3 v4 v5 v6 v7 v8 v9 v10 v11 S = kx 2 v0 v1 v2 v3 v4 v5 v6 v7 v8 v9 (.b false) v11 S := by
  simp only [BZi, cSeq, cReg, cCond, cBlock, cSkip, cExit, cRet, h1, h2, pNot_t, pIf_f]
theorem bi_go (h1 : ∀ c, pIdx 1 v5 v9 c = c q) (h2 : ∀ c, pLd q S c = c (.b false)) (h3 : ∀ c : St → R, pSt 1 q (.b true) S c = c S') (h4 : ∀ c, pMul v0 v9 c = c x) (h5 : ∀ c, pRem x v1 c = c y') :
    BZi K kx kr v0 v1 v2 v3 v4 v5 v6 v7 v8 v9 v10 v11 S = K v0 v1 v2 v3 v4 v5 v6 v7 v8 y' (.b true) v11 S' := by
  simp only [BZi, cSeq, cReg, cCond, cBlock, cSkip, cExit, cRet, h1, h2, h3, h4, h5, pNot_f, pIf_t]
theorem bo_end (Ip : CS 12) (h1 : ∀ c, pLss v2 v3 c = c (.b false)) : BZo Ip K kx kr v0 v1 v2 v3 v4 v5 v6 v7 v8 v9 v10 v11 S = kx 0 v0 v1 v2 v3 (.b false) v5 v6 v7 v8 v9 v10 v11 S := by
  simp only [BZo, cSeq, cReg, cCond, cBlock, cSkip, cExit, cRet, h1, pIf_f]
theorem bo_seen (Ip : CS 12) (h1 : ∀ c, pLss v2 v3 c = c (.b true)) (h2 : ∀ c, pIdx 1 v5 v2 c = c q) (h3 : ∀ c, pLd q S c = c (.b true)) (h4 : ∀ c, pAdd v2 (.i .i64 1) c = c v2') :
    BZo Ip K kx kr v0 v1 v2 v3 v4 v5 v6 v7 v8 v9 v10 v11 S = K v0 v1 v2' v3 (.b true) v5 v2 (.b true) v8 v9 v10 v11 S := by
  simp only [BZo, cSeq, cReg, cCond, cBlock, cSkip, cExit, cRet, h1, h2, h3, h4, pIf_t, Nat.beq_refl]
theorem bo_new (Ip : CS 12) (h1 : ∀ c, pLss v2 v3 c = c (.b true)) (h2 : ∀ c, pIdx 1 v5 v2 c = c q) (h3 : ∀ c, pLd q S c = c (.b false)) (h4 : ∀ c, pAdd v2 (.i .i64 1) c = c v2') (h5 : ∀ c, pAdd v8 (.i .i64 1) c = c v8')
    (hI : ∀ (kn : Fn 12) (kx : Nat → Fn 12) (kr : Fn 12), Ip kn kx kr v0 v1 v2 v3 (.b true) v5 v2 (.b false) v8' v2 v10 v11 S = kn v0 v1 v2 v3 (.b true) v5 v2 (.b false) v8' v9' (.b false) v11 S') :
    BZo Ip K kx kr v0 v1 v2 v3 v4 v5 v6 v7 v8 v9 v10 v11 S = K v0 v1 v2' v3 (.b true) v5 v2 (.b false) v8' v9' (.b false) v11 S' := by
  simp only [BZo, cSeq, cReg, cCond, cBlock, cSkip, cExit, cRet, h1, h2, h3, h4, h5, hI, pIf_t, pIf_f]
end
theorem putK_one : ∀ (l : List V) (n : Nat) (x : V) (k : List V → R), n < l.length → putK l n [x] k = k (l.set n x)
  | [], n, x, k, h => by simp at h
  | y :: l, 0, x, k, h => rfl
  | y :: l, n + 1, x, k, h => by
    show putK l n [x] (fun t => k (y :: t)) = _
    rw [putK_one l n x _ (by simpa using h)]; rfl
theorem pStn_eq {S : St} {id : Pos} {b n : Nat} {cs : List V} {x : V} (h : S.h.get id = some ⟨b, cs⟩) (hb : S.fl ≤ b) (hx : ∀ k, cellsK x k = k [x]) (hn : n < cs.length) (c : St → R) : pSt 1 (.p id n) x S c = c (S.upd id ⟨b, cs.set n x⟩) := by
  show cellsK x (fun ys => lenL ys 0 (fun m => gu (Nat.beq m 1) (updK id S n ys c))) = _
  rw [hx]
  show updK id S n [x] c = _
  show getBK id S.h _ = _
  rw [getBK_eq _ _ _ _ h]
  show gu (Nat.ble S.fl b) _ = _
  rw [Nat.ble_eq_true_of_le hb]
  show putK cs n [x] (fun cs' => setBK id (.mk b cs') S.h (fun h' => c (.mk h' S.nx S.cnt S.fl))) = _
  rw [putK_one _ _ _ _ hn, setBK_eq]; rfl
theorem pIdx_eq {id : Pos} {p n : Nat} (hn : n < p) (hp : p < 100000) (c : V → R) : pIdx 1 (.sl id 0 p p) (ii n) c = c (.p id n) := by
  show gu (Bool.not (neg .i64 n)) (gu (Nat.blt n p) (fN (Nat.add 0 (Nat.mul n 1)) (fun o => c (.p id o)))) = _
  rw [neg_n (by omega), blt_eq, decide_eq_true hn, fN_eq]
  show c (.p id (0 + n * 1)) = _
  rw [Nat.zero_add, Nat.mul_one]
/-- the row of what was seen -/
structure Sn (S : St) (id : Pos) (L : List Bool) (cnt fl : Nat) : Prop where
  ok : SOK S
  get : ∃ b, S.h.get id = some ⟨b, L.map V.b⟩ ∧ S.fl ≤ b
  cnt_ : S.cnt = cnt
  fl_ : S.fl = fl
theorem Sn.mark {S : St} {id : Pos} {L : List Bool} {n f : Nat} (h : Sn S id L n f) {y : Nat} (hy : y < L.length) : ∃ S', Sn S' id (L.set y true) n f ∧ ∀ c : St → R, pSt 1 (.p id y) (.b true) S c = c S' := by
  obtain ⟨b, hb, hf⟩ := h.get
  refine ⟨S.upd id ⟨b, (L.map V.b).set y (.b true)⟩, ⟨h.ok.upd hb (.inl ⟨rfl, by have := h.ok.fl; show b ≠ 0; omega⟩), ⟨b, ?_, hf⟩, h.cnt_, h.fl_⟩, fun c => pStn_eq hb hf (fun k => rfl) (by simpa using hy) c⟩
  rw [St.upd_get, List.map_set]
theorem Sn.look {S : St} {id : Pos} {L : List Bool} {n f : Nat} (h : Sn S id L n f) {y : Nat} {v : Bool} (hy : L[y]? = some v) (c : V → R) : pLd (.p id y) S c = c (.b v) := by
  obtain ⟨b, hb, hf⟩ := h.get
  exact pLd_eq hb (by rw [List.getElem?_map, hy]; rfl) c
theorem inner {a p : Nat} (ha : a < p) (hp : p < 100000) (id : Pos) (L : List Bool) (hL : L.length = p) (x d n f : Nat) (hu : ∀ j, j < d → (marks a p L x j)[orb a p x j]? = some false) (he : (marks a p L x d)[orb a p x d]? = some true) : ∀ (N j : Nat) (S : St), j ≤ d → d < j + N → Sn S id (marks a p L x j) n f →
    ∃ S', Sn S' id (marks a p L x d) n f ∧ ∀ (kx : Nat → Fn 12) (kr : Fn 12) (v2 v3 v4 v6 v7 v8 v10 v11 : V), loopN BZi kx kr N (ii a) (ii p) v2 v3 v4 (.sl id 0 p p) v6 v7 v8 (ii (orb a p x j)) v10 v11 S = kx 2 (ii a) (ii p) v2 v3 v4 (.sl id 0 p p) v6 v7 v8 (ii (orb a p x d)) (.b false) v11 S'
  | 0, j, S, h1, h2, hS => by omega
  | N + 1, j, S, h1, h2, hS => by
    have hlt : ∀ i, orb a p x i < p := fun i => Nat.mod_lt _ (by omega)
    by_cases hj : j < d
    · obtain ⟨S1, hS1, hst⟩ := hS.mark (y := orb a p x j) (by rw [marks_len, hL]; exact hlt j)
      obtain ⟨S', hS', hl⟩ := inner ha hp id L hL x d n f hu he N (j + 1) S1 (by omega) (by omega) hS1
      refine ⟨S', hS', fun kx kr v2 v3 v4 v6 v7 v8 v10 v11 => ?_⟩
      have hao : a * orb a p x j < 10000000000 := by
        have := hlt j
        calc a * orb a p x j ≤ 99999 * orb a p x j := Nat.mul_le_mul_right _ (by omega)
          _ ≤ 99999 * 99999 := Nat.mul_le_mul_left _ (by omega)
          _ < _ := by decide
      rw [loopN_succ, bi_go _ _ _ _ _ _ _ _ _ _ _ _ _ _ _ (.p id (orb a p x j)) (ii (a * orb a p x j)) (ii (orb a p x (j + 1))) S S1 (fun c => pIdx_eq (hlt j) hp c) (fun c => hS.look (hu j hj) c) hst (fun c => mul_n (by omega) c) (fun c => by rw [rem_n (by omega) (by omega) (by omega), orb_succ]), hl]
    · have : j = d := by omega
      subst this
      refine ⟨S, hS, fun kx kr v2 v3 v4 v6 v7 v8 v10 v11 => ?_⟩
      rw [loopN_succ, bi_end _ _ _ _ _ _ _ _ _ _ _ _ _ _ _ (.p id (orb a p x j)) S (fun c => pIdx_eq (hlt j) hp c) (fun c => hS.look he c)]
theorem innerB {a p : Nat} (ha : a < p) (hp : p < 100000) (id : Pos) (L : List Bool) (hL : L.length = p) (x d n f : Nat) (hx : x < p) (hd : d < 1000000) (hu : ∀ j, j < d → (marks a p L x j)[orb a p x j]? = some false) (he : (marks a p L x d)[orb a p x d]? = some true) {S : St} (hS : Sn S id L n f) :
    ∃ S', Sn S' id (marks a p L x d) n f ∧ ∀ (v2 v3 v4 v6 v7 v8 v10 v11 : V) (kn : Fn 12) (kx : Nat → Fn 12) (kr : Fn 12), cBlock 2 (cLoop BZi) kn kx kr (ii a) (ii p) v2 v3 v4 (.sl id 0 p p) v6 v7 v8 (ii x) v10 v11 S = kn (ii a) (ii p) v2 v3 v4 (.sl id 0 p p) v6 v7 v8 (ii (orb a p x d)) (.b false) v11 S' := by
  obtain ⟨S', h1, h2⟩ := inner ha hp id L hL x d n f hu he 1000000 0 S (by omega) (by omega) hS
  refine ⟨S', h1, fun v2 v3 v4 v6 v7 v8 v10 v11 kn kx kr => ?_⟩
  obtain ⟨kx', e1, e2⟩ := block_loop2 BZi kn kx kr
  have := h2 kx' kr v2 v3 v4 v6 v7 v8 v10 v11
  rw [orb_zero hx, e1] at this
  rw [e2]; exact this
theorem cntB_le : ∀ l : List Bool, cntB l ≤ l.length
  | [] => Nat.le_refl _
  | b :: l => by have := cntB_le l; simp only [cntB, List.length_cons]; split <;> omega
/-- the walk over all numbers -/
theorem outer {a p d : Nat} (hP : PrimeN p) (h1a : 1 ≤ a) (ha : a < p) (hp : p < 100000) (hd0 : 0 < d) (hd : a ^ d % p = 1) (hmin : ∀ j, 0 < j → j < d → a ^ j % p ≠ 1) (hd1 : d < 1000000) (id : Pos) (n f : Nat) : ∀ (N i c : Nat) (L : List Bool) (S : St) (v4 v6 v7 v9 v10 : V), 1 ≤ i → i ≤ p → p < i + N →
    L.length = p → Closed a p L → cntB L = 1 + d * c → (∀ z, z < i → L[z]? = some true) → Sn S id L n f →
    ∃ c' L' S' v6' v7' v9' v10', p = 1 + d * c' ∧ Sn S' id L' n f ∧ ∀ (kx : Nat → Fn 12) (kr : Fn 12) (v11 : V), loopN (BZo (cBlock 2 (cLoop BZi))) kx kr N (ii a) (ii p) (ii i) (ii p) v4 (.sl id 0 p p) v6 v7 (ii (c + 1)) v9 v10 v11 S = kx 0 (ii a) (ii p) (ii p) (ii p) (.b false) (.sl id 0 p p) v6' v7' (ii (c' + 1)) v9' v10' v11 S'
  | 0, i, c, L, S, v4, v6, v7, v9, v10, h1, h2, h3, hL, hc, hn, hz, hS => by omega
  | N + 1, i, c, L, S, v4, v6, v7, v9, v10, h1, h2, h3, hL, hc, hn, hz, hS => by
    have hnd : ¬ p ∣ a := fun h => by have := Nat.le_of_dvd h1a h; omega
    have hcp : c < p := by
      have h4 := cntB_le L
      rw [hn, hL] at h4
      have : 1 * c ≤ d * c := Nat.mul_le_mul_right _ hd0
      omega
    by_cases hi : i < p
    · have e1 : ∀ k, pLss (ii i) (ii p) k = k (.b true) := fun k => by rw [lss_n (by omega) (by omega), decide_eq_true hi]
      have e4 : ∀ k, pAdd (ii i) (.i .i64 1) k = k (ii (i + 1)) := fun k => add_n (by omega) k
      by_cases hs : L[i]? = some true
      · obtain ⟨c', L', S', v6', v7', v9', v10', g1, g2, g3⟩ := outer hP h1a ha hp hd0 hd hmin hd1 id n f N (i + 1) c L S (.b true) (ii i) (.b true) v9 v10 (by omega) (by omega) (by omega) hL hc hn (fun z hz' => by
          rcases Nat.lt_or_ge z i with h | h
          · exact hz z h
          · have : z = i := by omega
            rw [this]; exact hs) hS
        refine ⟨c', L', S', v6', v7', v9', v10', g1, g2, fun kx kr v11 => ?_⟩
        rw [loopN_succ, bo_seen _ _ _ _ _ _ _ _ _ _ _ _ _ _ _ (.p id i) (ii (i + 1)) S _ e1 (fun k => pIdx_eq hi hp k) (fun k => hS.look hs k) e4, g3]
      · have hf : L[i]? = some false := by
          have hl : i < L.length := by omega
          rw [List.getElem?_eq_getElem hl] at hs ⊢
          cases hb : L[i]
          · rfl
          · rw [hb] at hs; exact absurd rfl hs
        obtain ⟨S1, hS1, hI⟩ := innerB ha hp id L hL i d n f hi hd1 (fun j hj => marks_step hP hnd hd0 hd hmin hL hc (by omega) hi hs hj) (marks_end hP hnd hd0 hd hmin hL hi) hS
        have hcnt := marks_cnt hP hnd hd0 hd hmin hL hc (show 0 < i by omega) hi hs d (Nat.le_refl _)
        obtain ⟨c', L', S', v6', v7', v9', v10', g1, g2, g3⟩ := outer hP h1a ha hp hd0 hd hmin hd1 id n f N (i + 1) (c + 1) (marks a p L i d) S1 (.b true) (ii i) (.b false) (ii (orb a p i d)) (.b false) (by omega) (by omega) (by omega) (by rw [marks_len, hL]) (marks_closed hP hnd hd0 hd hmin hL hc hi) (by rw [hcnt, hn, Nat.mul_add]; omega) (fun z hz' => by
          rw [marks_get hL (by omega) i z (by omega)]
          rcases Nat.lt_or_ge z i with h | h
          · exact .inl (hz z h)
          · have : z = i := by omega
            rw [this]; exact .inr ⟨0, hd0, (orb_zero hi).symm⟩) hS1
        refine ⟨c', L', S', v6', v7', v9', v10', g1, g2, fun kx kr v11 => ?_⟩
        rw [loopN_succ, bo_new _ _ _ _ _ _ _ _ _ _ _ _ _ _ _ (.p id i) (ii (i + 1)) (ii (c + 1 + 1)) (ii (orb a p i d)) S S1 _ e1 (fun k => pIdx_eq hi hp k) (fun k => hS.look hf k) e4 (fun k => add_n (by omega) k) (fun kn kx kr => hI _ _ _ _ _ _ _ _ kn kx kr), g3]
    · have : i = p := by omega
      subst this
      refine ⟨c, L, S, v6, v7, v9, v10, ?_, hS, fun kx kr v11 => ?_⟩
      · rw [← hn, cntB_all L fun y hy => hz y (by omega), hL]
      · rw [loopN_succ, bo_end _ _ _ _ _ _ _ _ _ _ _ _ _ _ _ S _ (fun k => by rw [lss_n (by omega) (by omega), decide_eq_false (by omega)])]
theorem hz_step (B : CS 12) (v0 v1 sl v6' v7' v8' v9' v10' x o v2' v3' : V) (S S1 S2 : St) (k : Cont) (h1 : ∀ c : Cont, pMks [(.b false)] v1 v1 S c = c sl S1)
    (hB : ∀ (kn : Fn 12) (kx : Nat → Fn 12) (kr : Fn 12), B kn kx kr v0 v1 (.i .i64 0) v1 .other sl .other .other (.i .i64 0) .other .other (.i .i64 0) S1 = kn v0 v1 v2' v3' (.b false) sl v6' v7' v8' v9' v10' (.i .i64 0) S2)
    (h2 : ∀ c, pSub v1 v8' c = c x) (h3 : ∀ c : Cont, F54 x S2 c = c o S2) :
    HZ B (fun v0 v1 v2 v3 v4 v5 v6 v7 v8 v9 v10 v11 S => k v11 S) (fun _ => bot 12) (fun v0 v1 v2 v3 v4 v5 v6 v7 v8 v9 v10 v11 S => k v11 S) v0 v1 .other .other .other .other .other .other .other .other .other .other S = k o S2 := by
  simp only [HZ, cSeq, cReg, cRet, h1, hB, h2, h3]
theorem pMks_eq {p : Nat} (hp : p < 100000) (S : St) (c : Cont) : pMks [(.b false)] (ii p) (ii p) S c = c (.sl S.nx 0 p p) (S.new ((List.replicate p false).map V.b)) := by
  show gu (Bool.and (Bool.and (Bool.not (neg .i64 p)) (Bool.not (neg .i64 p))) (Bool.and (Nat.ble p p) (Nat.ble p 16777216))) (repK [.b false] p (fun cs => newK cs S (fun nx S' => c (.sl nx 0 p p) S'))) = _
  rw [neg_n (by omega), Nat.ble_eq_true_of_le (Nat.le_refl p), Nat.ble_eq_true_of_le (show p ≤ 16777216 by omega), repK_eq, newK_eq]
  show c _ _ = _
  have e : (List.replicate p [V.b false]).flatten = (List.replicate p false).map V.b := by
    rw [List.map_replicate]
    induction p with
    | zero => rfl
    | succ n ih => rw [List.replicate_succ, List.replicate_succ, List.flatten_cons, ih (by omega)]; rfl
  rw [e]
theorem f93_ok {a p g : Nat} (hP : PrimeN p) (h3 : 3 ≤ p) (hg : okg p g = true) (h1a : 1 ≤ a) (ha : a < p) (hp : p < 100000) {S : St} (ok : SOK S) : ∃ S', SOK S' ∧ S'.cnt = S.cnt + 1 ∧ S'.fl = S.fl ∧ ∀ k, F93 (ii a) (ii p) S k = k (ii (eZ a p)) S' := by
  obtain ⟨d, hd0, hd, hmin⟩ := order h3 hg h1a ha
  have hnd : ¬ p ∣ a := fun h => by have := Nat.le_of_dvd h1a h; omega
  have hS : Sn (S.new ((List.replicate p false).map V.b)) S.nx (List.replicate p false) (S.cnt + 1) S.fl := ⟨ok.new _, ⟨_, St.new_get _ _, ok.le⟩, rfl, rfl⟩
  have h00 : orb a p 0 0 = 0 := orb_zero (by omega)
  have h01 : orb a p 0 1 = 0 := by rw [orb_succ, h00, Nat.mul_zero, Nat.zero_mod]
  have hr0 : (List.replicate p false)[0]? = some false := by simp [List.getElem?_replicate]; omega
  obtain ⟨S1, hS1, hI⟩ := innerB ha hp S.nx (List.replicate p false) (by simp) 0 1 _ _ (by omega) (by omega) (fun j hj => by
    have : j = 0 := by omega
    subst this; rw [h00]; exact hr0) (by
    rw [h01]
    show ((List.replicate p false).set (orb a p 0 0) true)[0]? = some true
    rw [h00, List.getElem?_set, if_pos rfl, if_pos (by simp; omega)]) hS
  have hm : marks a p (List.replicate p false) 0 1 = (List.replicate p false).set 0 true := by
    show (List.replicate p false).set (orb a p 0 0) true = _
    rw [h00]
  rw [hm] at hS1
  rw [h01] at hI
  have hd1 : d < 1000000 := by
    rcases Nat.lt_or_ge d 1000000 with h | h
    · exact h
    · obtain ⟨e1, e2⟩ := okg_spec h3 hg
      obtain ⟨k, hk⟩ := e2 a h1a ha
      have hf : a ^ (2 * ((p - 1) / 2)) % p = 1 := by
        rw [Nat.mul_comm, Nat.pow_mul, Nat.pow_mod, hk, gen_pow e1, ← Nat.pow_mod, ← Nat.pow_mul, Nat.mul_comm k 2]
        exact (minus_pow h3 k).1
      exact absurd hf (hmin _ (by omega) (by omega))
  obtain ⟨c', L', S2, v6', v7', v9', v10', g1, g2, g3⟩ := outer hP h1a ha hp hd0 hd hmin hd1 S.nx _ _ 999999 1 0 ((List.replicate p false).set 0 true) S1 (.b true) (ii 0) (.b false) (ii 0) (.b false) (by omega) (by omega) (by omega) (by simp) (zero_closed hP hnd) (by rw [cntB_set _ _ hr0, cntB_rep, Nat.mul_zero]) (fun z hz => by
    have : z = 0 := by omega
    subst this
    rw [List.getElem?_set, if_pos rfl, if_pos (by simp; omega)]) hS1
  refine ⟨S2, g2.ok, g2.cnt_, g2.fl_, fun k => ?_⟩
  unfold F93 G93
  rw [C93_eq]
  have hcp : c' + 1 ≤ p := by
    have : 1 * c' ≤ d * c' := Nat.mul_le_mul_right _ hd0
    omega
  have hres : sgZ (p - (c' + 1)) = eZ a p := by
    have := by_order hP h3 hd0 hd hmin g1
    unfold sgZ eZ
    by_cases hq : (p - (c' + 1)) % 2 = 0
    · rw [if_pos hq, if_pos (this.2 hq)]
    · rw [if_neg hq, if_neg (fun e => hq (this.1 e))]
  refine hz_step _ (ii a) (ii p) (.sl S.nx 0 p p) v6' v7' (ii (c' + 1)) v9' v10' (ii (p - (c' + 1))) (ii (eZ a p)) (ii p) (ii p) S _ S2 k (fun c => pMks_eq hp S c) (fun kn kx kr => ?_) (fun c => ?_) (fun c => by rw [f54_ok (by omega), hres])
  · obtain ⟨kx', e1, e2⟩ := block_loop (BZo (cBlock 2 (cLoop BZi))) kn kx kr
    rw [e2, show (1000000 : Nat) = 999999 + 1 from rfl, loopN_succ, bo_new _ _ _ _ _ _ _ _ _ _ _ _ _ _ _ (.p S.nx 0) (ii 1) (ii 1) (ii 0) _ S1 _ (fun k => by rw [lss_n (by omega) (by omega), decide_eq_true (by omega)]) (fun k => pIdx_eq (by omega) hp k) (fun k => hS.look hr0 k) (fun k => by rfl) (fun k => by rfl) (fun kn kx kr => hI _ _ _ _ _ _ _ _ kn kx kr)]
    exact (g3 kx' kr (ii 0)).trans (by rw [e1])
  · have e : (p + (M .i64 - (c' + 1))) % M .i64 = p - (c' + 1) := by
      show (p + (18446744073709551616 - (c' + 1))) % 18446744073709551616 = p - (c' + 1)
      omega
    rw [pSub_i, e]
/- Gauss's way -/
theorem f92_go (v0 v1 v2 a x p r y : V) (S : St) (k : Cont) (h1 : ∀ c, pLd v1 S c = c a) (h2 : ∀ c, pMul v0 a c = c x) (h3 : ∀ c, pLd v2 S c = c p) (h4 : ∀ c, pRem x p c = c r) (h5 : ∀ c, pMul (.i .i64 2) r c = c y) (b : Bool) (h6 : ∀ c, pGtr y p c = c (.b b)) : F92 v0 v1 v2 S k = k (ii (if b = true then 1 else 0)) S := by
  cases b
  · simp only [F92, G92, C92, cSeq, cReg, cCond, cRet, cSkip, h1, h2, h3, h4, h5, h6, pIf_f, Bool.false_eq_true, if_false]
  · simp only [F92, G92, C92, cSeq, cReg, cCond, cRet, cSkip, h1, h2, h3, h4, h5, h6, pIf_t, if_true]
theorem call92 (x a b : V) (S : St) (k : Cont) : pCallv T89 (.f 92 [a, b]) [x] S k = F92 x a b S k := by rfl
theorem f91_step (v0 v1 q1 q2 x y z s : V) (S S1 S2 : St) (k : Cont) (h1 : ∀ c : Cont, pBox v0 S c = c q1 S1) (h2 : ∀ c : Cont, pBox v1 S1 c = c q2 S2) (h3 : ∀ c, pLd q2 S2 c = c v1) (h4 : ∀ c, pSub v1 (.i .i64 1) c = c x) (h5 : ∀ c, pQuo x (.i .i64 2) c = c y)
    (h6 : ∀ c : Cont, F89 y (.f 92 [q1, q2]) S2 c = c z S2) (h7 : ∀ c : Cont, F54 z S2 c = c s S2) : F91 v0 v1 S k = k s S2 := by
  simp only [F91, G91, C91, cSeq, cReg, cRet, h1, h2, h3, h4, h5, h6, h7]
theorem f91_ok {a p : Nat} (hP : PrimeN p) (h3 : 3 ≤ p) (h1a : 1 ≤ a) (ha : a < p) (hp : p ≤ 3000) {S : St} (ok : SOK S) : ∃ S', SOK S' ∧ S'.cnt = S.cnt + 2 ∧ S'.fl = S.fl ∧ ∀ k, F91 (ii a) (ii p) S k = k (ii (eZ a p)) S' := by
  have ok1 := ok.new [ii a]
  have hnd : ¬ p ∣ a := fun h => by have := Nat.le_of_dvd h1a h; omega
  have g1 : ((S.new [ii a]).new [ii p]).h.get S.nx = some ⟨S.cnt, [ii a]⟩ := by
    rw [St.new_get_ne _ (ok1.ne_nx (St.new_get S [ii a]))]; exact St.new_get _ _
  have g2 : ((S.new [ii a]).new [ii p]).h.get (S.new [ii a]).nx = some ⟨_, [ii p]⟩ := St.new_get _ _
  have hf : ∀ k, 1 ≤ k → k ≤ (p - 1) / 2 → fG a p k < 10000000000 := fun k _ _ => by unfold fG; split <;> omega
  have hs : ∀ n, sumT (fG a p) n ≤ n := fun n => by
    induction n with
    | zero => exact Nat.le_refl _
    | succ n ih =>
      have : fG a p (n + 1) ≤ 1 := by unfold fG; split <;> omega
      simp only [sumT]; omega
  have hres : sgZ (sumT (fG a p) ((p - 1) / 2)) = eZ a p := by
    have := gauss_iff hP h3 hnd
    unfold sgZ eZ
    unfold muG at this
    by_cases hq : sumT (fG a p) ((p - 1) / 2) % 2 = 0
    · rw [if_pos hq, if_pos (this.2 hq)]
    · rw [if_neg hq, if_neg (fun e => hq (this.1 e))]
  refine ⟨(S.new [ii a]).new [ii p], ok1.new _, rfl, rfl, fun k => ?_⟩
  refine f91_step (ii a) (ii p) (.p S.nx 0) (.p (S.new [ii a]).nx 0) (ii (p - 1)) (ii ((p - 1) / 2)) (ii (sumT (fG a p) ((p - 1) / 2))) _ S _ _ k (fun c => pBox_eq (cellsK_i _ _) S c) (fun c => pBox_eq (cellsK_i _ _) _ c) (fun c => pLd_eq g2 (by rfl) c) (fun c => sub1 (by omega) (by omega) c)
    (fun c => quo_n (by omega) (by omega) (by omega) c) (fun c => ?_) (fun c => by have := hs ((p - 1) / 2); rw [f54_ok (by omega), hres])
  refine f89_ok _ (fG a p) ((p - 1) / 2) _ (by omega) hf (fun k h1 h2 c => ?_) c
  rw [call92]
  have hka : k * a < 10000000000 := by
    calc k * a ≤ 1500 * a := Nat.mul_le_mul_right _ (by omega)
      _ ≤ 1500 * 3000 := Nat.mul_le_mul_left _ (by omega)
      _ < _ := by decide
  have hrl : rG a p k < p := Nat.mod_lt _ (by omega)
  have := f92_go (ii k) (.p S.nx 0) (.p (S.new [ii a]).nx 0) (ii a) (ii (k * a)) (ii p) (ii (rG a p k)) (ii (2 * rG a p k)) ((S.new [ii a]).new [ii p]) c (fun c => pLd_eq g1 (by rfl) c) (fun c => mul_n (by omega) c) (fun c => pLd_eq g2 (by rfl) c) (fun c => rem_n (by omega) (by omega) (by omega) c) (fun c => mul_n (by omega) c) (decide (p < 2 * rG a p k)) (fun c => gtr_n (by omega) (by omega) c)
  rw [this]
  congr 2
  unfold fG
  by_cases hq : 2 * rG a p k > p
  · rw [if_pos hq, if_pos (decide_eq_true hq)]
  · rw [if_neg hq, if_neg (by rw [decide_eq_true_eq]; exact hq)]
abbrev way44 : V := .ag [.s [69, 117, 108, 101, 114], .f 76 []]
theorem f44_step (v0 : V) (S S1 S2 : St) (k : Cont) (h1 : ∀ c : Cont, pAlloc [(.s []), .fn0] S c = c v0 S1) (h2 : ∀ c : St → R, pSt 2 v0 way44 S1 c = c S2) (h3 : ∀ c, pLdn 2 v0 S2 c = c way44) : F44 S k = k way44 S2 := by
  have e : ∀ c, pBuild [(.s []), .fn0] [(0, 1, (.s [69, 117, 108, 101, 114])), (1, 1, (.f 76 []))] c = c way44 := fun c => by rfl
  simp only [F44, G44, C44, cSeq, cReg, cRet, h1, e, h2, h3]
theorem f44_ok {S : St} (ok : SOK S) : ∃ S', SOK S' ∧ ∀ k : Cont, F44 S k = k way44 S' :=
  ⟨(S.new [(.s []), .fn0]).upd S.nx ⟨S.cnt, [.s [69, 117, 108, 101, 114], .f 76 []]⟩,
    (ok.new _).upd (St.new_get _ _) (.inl ⟨rfl, by have := ok.fl; have := ok.le; show S.cnt ≠ 0; omega⟩),
    fun k => f44_step (.p S.nx 0) S _ _ k (fun c => pAlloc_eq _ S c) (fun c => pSt2_eq (St.new_get _ _) ok.le c) (fun c => pLdn2_eq (St.upd_get _ _) c)⟩
abbrev way56 : V := .ag [.s [71, 97, 117, 115, 115], .f 91 []]
theorem f56_step (v0 : V) (S S1 S2 : St) (k : Cont) (h1 : ∀ c : Cont, pAlloc [(.s []), .fn0] S c = c v0 S1) (h2 : ∀ c : St → R, pSt 2 v0 way56 S1 c = c S2) (h3 : ∀ c, pLdn 2 v0 S2 c = c way56) : F56 S k = k way56 S2 := by
  have e : ∀ c, pBuild [(.s []), .fn0] [(0, 1, (.s [71, 97, 117, 115, 115])), (1, 1, (.f 91 []))] c = c way56 := fun c => by rfl
  simp only [F56, G56, C56, cSeq, cReg, cRet, h1, e, h2, h3]
theorem f56_ok {S : St} (ok : SOK S) : ∃ S', SOK S' ∧ ∀ k : Cont, F56 S k = k way56 S' :=
  ⟨(S.new [(.s []), .fn0]).upd S.nx ⟨S.cnt, [.s [71, 97, 117, 115, 115], .f 91 []]⟩,
    (ok.new _).upd (St.new_get _ _) (.inl ⟨rfl, by have := ok.fl; have := ok.le; show S.cnt ≠ 0; omega⟩),
    fun k => f56_step (.p S.nx 0) S _ _ k (fun c => pAlloc_eq _ S c) (fun c => pSt2_eq (St.new_get _ _) ok.le c) (fun c => pLdn2_eq (St.upd_get _ _) c)⟩
abbrev way57 : V := .ag [.s [90, 111, 108, 111, 116, 97, 114, 101, 118], .f 93 []]
theorem f57_step (v0 : V) (S S1 S2 : St) (k : Cont) (h1 : ∀ c : Cont, pAlloc [(.s []), .fn0] S c = c v0 S1) (h2 : ∀ c : St → R, pSt 2 v0 way57 S1 c = c S2) (h3 : ∀ c, pLdn 2 v0 S2 c = c way57) : F57 S k = k way57 S2 := by
  have e : ∀ c, pBuild [(.s []), .fn0] [(0, 1, (.s [90, 111, 108, 111, 116, 97, 114, 101, 118])), (1, 1, (.f 93 []))] c = c way57 := fun c => by rfl
  simp only [F57, G57, C57, cSeq, cReg, cRet, h1, e, h2, h3]
theorem f57_ok {S : St} (ok : SOK S) : ∃ S', SOK S' ∧ ∀ k : Cont, F57 S k = k way57 S' :=
  ⟨(S.new [(.s []), .fn0]).upd S.nx ⟨S.cnt, [.s [90, 111, 108, 111, 116, 97, 114, 101, 118], .f 93 []]⟩,
    (ok.new _).upd (St.new_get _ _) (.inl ⟨rfl, by have := ok.fl; have := ok.le; show S.cnt ≠ 0; omega⟩),
    fun k => f57_step (.p S.nx 0) S _ _ k (fun c => pAlloc_eq _ S c) (fun c => pSt2_eq (St.new_get _ _) ok.le c) (fun c => pLdn2_eq (St.upd_get _ _) c)⟩
/-- the residue of a number of 64 bits -/
def mo (a p : Nat) : Nat := if a < 9223372036854775808 then a % p else (p - (18446744073709551616 - a) % p) % p
theorem f66_step (v w x y z : V) (S : St) (k : Cont) (h1 : ∀ c, pRem v w c = c x) (h2 : ∀ c, pAdd x w c = c y) (h3 : ∀ c, pRem y w c = c z) : F66 v w S k = k z S := by
  simp only [F66, G66, C66, cSeq, cReg, cRet, h1, h2, h3]
theorem f66_ok {a p : Nat} (ha : a < 18446744073709551616) (h0 : 0 < p) (hp : p < 1000000) (S : St) (k : Cont) : F66 (ii a) (ii p) S k = k (ii (mo a p)) S := by
  have hr : ∀ x : Nat, x % p < p := fun x => Nat.mod_lt x h0
  by_cases hs : a < 9223372036854775808
  · have e : mo a p = a % p := if_pos hs
    rw [e]
    refine f66_step (ii a) (ii p) (ii (a % p)) (ii (a % p + p)) _ S k (fun c => rem_n hs h0 (by omega) c) (fun c => add_n (by have := hr a; omega) c) (fun c => ?_)
    rw [rem_n (by have := hr a; omega) h0 (by omega), Nat.add_mod_right, Nat.mod_mod]
  · have e : mo a p = (p - (18446744073709551616 - a) % p) % p := if_neg hs
    rw [e]
    have hq := hr (18446744073709551616 - a)
    have e1 : ∀ c : V → R, pRem (ii a) (ii p) c = c (ii ((18446744073709551616 - (18446744073709551616 - a) % p) % 18446744073709551616)) := fun c => by
      obtain ⟨q, rfl⟩ : ∃ x, p = x + 1 := ⟨p - 1, by omega⟩
      rw [show (ii (q + 1)) = V.i .i64 (q + 1) from rfl, pRem_i]
      have e2 : neg .i64 a = true := by
        show Nat.ble 9223372036854775808 a = true
        exact Nat.ble_eq_true_of_le (by omega)
      have e3 : remI .i64 a (q + 1) = (18446744073709551616 - (18446744073709551616 - a) % (q + 1)) % 18446744073709551616 := by
        unfold remI
        rw [e2, neg_n (show q + 1 < 9223372036854775808 by omega)]; rfl
      rw [e3]
    refine f66_step (ii a) (ii p) _ (ii (p - (18446744073709551616 - a) % p)) _ S k e1 (fun c => ?_) (fun c => rem_n (by omega) h0 (by omega) c)
    generalize (18446744073709551616 - a) % p = q at hq
    rw [pAdd_i, show M .i64 = 18446744073709551616 from rfl]
    congr 2
    omega
theorem mo_lt {a p : Nat} (hp : 0 < p) : mo a p < p := by
  unfold mo
  split <;> exact Nat.mod_lt _ hp
theorem draw_ex {f : Sem3} {v : V} {S : St} (ok : SOK S) (h : ∃ S', SOK S' ∧ S.cnt ≤ S'.cnt ∧ ∀ k : Cont, f ⟨S.h, S.nx, S.cnt, S.cnt⟩ k = k v S') : ∃ S', SOK S' ∧ ∀ k : Cont, pDraw f S k = k v S' := by
  obtain ⟨S', h1, h2, h3⟩ := h
  refine ⟨⟨S'.h, S'.nx, S'.cnt, S.fl⟩, ⟨h1.nx, ok.fl, Nat.le_trans ok.le h2, h1.blk⟩, fun k => ?_⟩
  obtain ⟨a, b, c, d⟩ := S
  show f ⟨a, b, c, c⟩ _ = _
  rw [h3]
theorem sok_draw {S : St} (ok : SOK S) : SOK ⟨S.h, S.nx, S.cnt, S.cnt⟩ := ⟨ok.nx, Nat.le_trans ok.fl ok.le, Nat.le_refl _, ok.blk⟩
theorem draw_pure (f : Sem3) (v : V) (h : ∀ S (k : Cont), f S k = k v S) (S : St) (k : Cont) : pDraw f S k = k v S := by
  obtain ⟨a, b, c, d⟩ := S
  show f ⟨a, b, c, c⟩ _ = _
  rw [h]
def F55p : Gn 3 := G55 (C55 F43p F66 T55)
theorem K55p : FOK Tryz.prog 55 (un 3 F55p) := fokP (.cons K43p (.cons K66 .nil)) (show LOK Tryz.prog T55 from (.cons K76 (.cons K91 (.cons K92 (.cons K93 (.cons K146 (.cons K165 .nil))))))) hm Tryz.func55 (by kernel_rfl) (D55 F43p F66 T55) (H55 _)
def F29p : Gn 2 := G29 (C29 F44 F55p)
theorem K29p : FOK Tryz.prog 29 (un 2 F29p) := fokP (.cons K44 (.cons K55p .nil)) .nil hm Tryz.func29 (by kernel_rfl) (D29 F44 F55p) (H29 _)
def F30p : Gn 2 := G30 (C30 F55p F56)
theorem K30p : FOK Tryz.prog 30 (un 2 F30p) := fokP (.cons K55p (.cons K56 .nil)) .nil hm Tryz.func30 (by kernel_rfl) (D30 F55p F56) (H30 _)
def F31p : Gn 2 := G31 (C31 F55p F57)
theorem K31p : FOK Tryz.prog 31 (un 2 F31p) := fokP (.cons K55p (.cons K57 .nil)) .nil hm Tryz.func31 (by kernel_rfl) (D31 F55p F57) (H31 _)
def F7p : Gn 2 := G7 (C7 sayT F18 F28 F29p F30p F31p)
theorem K7p : FOK Tryz.prog 7 (un 2 F7p) := fokP (.cons K11y (.cons K18 (.cons K28 (.cons K29p (.cons K30p (.cons K31p .nil)))))) .nil hm Tryz.func7 (by kernel_rfl) (D7 sayT F18 F28 F29p F30p F31p) (H7 _)
theorem n70 (c : V → R) : pNeq (ii 7) (.i .i64 0) c = c (.b true) := by rfl
theorem q00 (c : V → R) : pEql (ii 0) (.i .i64 0) c = c (.b true) := by rfl
theorem q77 (c : V → R) : pEql (ii 7) (.i .i64 7) c = c (.b true) := by rfl
section
variable (w v p q sl : V) (S S1 S2 : St) (k : Cont) (h0 : ∀ c : Cont, pBox w S c = c q S1) (h1 : ∀ c : Cont, pBsl [(.i .i64 0)] 1 [(0, 1, p)] S1 c = c sl S2)
include h0 h1
theorem f55_err (h2 : ∀ c : Cont, F43p sl S2 c = c (ii 7) S2) : F55p w v p S k = k (.tu [ii 0, ii 7]) S2 := by
  simp only [F55p, G55, C55, cSeq, cReg, cCond, cRet, h0, h1, h2, n70, pIf_t]
theorem f55_zero (h2 : ∀ c : Cont, F43p sl S2 c = c (ii 0) S2) (h3 : ∀ c : Cont, F66 v p S2 c = c (ii 0) S2) : F55p w v p S k = k (.tu [ii 0, ii 0]) S2 := by
  simp only [F55p, G55, C55, cSeq, cReg, cCond, cRet, cSkip, h0, h1, h2, h3, e00, q00, pIf_t, pIf_f]
theorem f55_go (r q1 fn x : V) (S3 : St) (h2 : ∀ c : Cont, F43p sl S2 c = c (ii 0) S2) (h3 : ∀ c : Cont, F66 v p S2 c = c r S2) (h4 : ∀ c, pEql r (.i .i64 0) c = c (.b false)) (h5 : ∀ c, pFa 1 q c = c q1) (h6 : ∀ c, pLd q1 S2 c = c fn) (h7 : ∀ c : Cont, pDraw (F66 v p) S2 c = c r S2) (h8 : ∀ c : Cont, pDraw (pCallv T55 fn [r, p]) S2 c = c x S3) :
    F55p w v p S k = k (.tu [x, ii 0]) S3 := by
  simp only [F55p, G55, C55, cSeq, cReg, cCond, cRet, cSkip, h0, h1, h2, h3, h4, h5, h6, h7, h8, e00, pIf_f]
end
def chZ (r p : Nat) : Nat := if r = 0 then 0 else eZ r p
theorem char_err (nm : List Nat) (fid : Nat) {p : Nat} (hp : p < 18446744073709551616) (h : chk p = 7) (v : V) {S : St} (ok : SOK S) : ∃ S', SOK S' ∧ ∀ k, F55p (.ag [.s nm, .f fid []]) v (ii p) S k = k (.tu [ii 0, ii 7]) S' := by
  refine ⟨(S.new [.s nm, .f fid []]).new [ii p], (ok.new _).new _, fun k => f55_err _ v (ii p) (.p S.nx 0) _ S (S.new [.s nm, .f fid []]) _ k (fun c => ?_) (fun c => pBsl1_eq (cellsK_i _ _) _ c) (fun c => ?_)⟩
  · show newK [.s nm, .f fid []] S (fun nx S' => c (.p nx 0) S') = _
    rw [newK_eq]
  · have := check1 hp (St.new_get (S.new [.s nm, .f fid []]) [ii p]) c
    rw [h] at this; exact this
theorem char_ok (nm : List Nat) (fid : Nat) {a p : Nat} (ha : a < 18446744073709551616) (hp : p < 100000) (h : chk p = 0) (hc : 1 ≤ mo a p → ∀ S : St, SOK S → ∃ S', SOK S' ∧ S.cnt ≤ S'.cnt ∧ ∀ k, pCallv T55 (.f fid []) [ii (mo a p), ii p] S k = k (ii (eZ (mo a p) p)) S') {S : St} (ok : SOK S) :
    ∃ S', SOK S' ∧ ∀ k, F55p (.ag [.s nm, .f fid []]) (ii a) (ii p) S k = k (.tu [ii (chZ (mo a p) p), ii 0]) S' := by
  have hp0 : 0 < p := by
    rcases Nat.eq_zero_or_pos p with h0 | h0
    · subst h0; exact absurd h (by decide)
    · exact h0
  have ok1 := ok.new [.s nm, .f fid []]
  have ok2 := ok1.new [ii p]
  have e0 : ∀ c : Cont, pBox (.ag [.s nm, .f fid []]) S c = c (.p S.nx 0) (S.new [.s nm, .f fid []]) := fun c => by
    show newK [.s nm, .f fid []] S (fun nx S' => c (.p nx 0) S') = _
    rw [newK_eq]
  have e1 : ∀ c : Cont, pBsl [(.i .i64 0)] 1 [(0, 1, ii p)] (S.new [.s nm, .f fid []]) c = c (.sl (S.new [.s nm, .f fid []]).nx 0 1 1) ((S.new [.s nm, .f fid []]).new [ii p]) := fun c => pBsl1_eq (cellsK_i _ _) _ c
  have e2 : ∀ c : Cont, F43p (.sl (S.new [.s nm, .f fid []]).nx 0 1 1) ((S.new [.s nm, .f fid []]).new [ii p]) c = c (ii 0) ((S.new [.s nm, .f fid []]).new [ii p]) := fun c => by
    have := check1 (by omega) (St.new_get (S.new [.s nm, .f fid []]) [ii p]) c
    rw [h] at this; exact this
  have e3 : ∀ (S : St) (c : Cont), F66 (ii a) (ii p) S c = c (ii (mo a p)) S := fun S c => f66_ok ha hp0 (by omega) S c
  unfold chZ
  by_cases hz : mo a p = 0
  · rw [hz] at e3
    refine ⟨_, ok2, fun k => ?_⟩
    rw [if_pos hz]
    exact f55_zero _ (ii a) (ii p) _ _ S _ _ k e0 e1 e2 (e3 _)
  · obtain ⟨S3, ok3, d⟩ := draw_ex ok2 (hc (by omega) _ (sok_draw ok2))
    refine ⟨S3, ok3, fun k => ?_⟩
    rw [if_neg hz]
    have g1 : ((S.new [.s nm, .f fid []]).new [ii p]).h.get S.nx = some ⟨S.cnt, [.s nm, .f fid []]⟩ := by
      rw [St.new_get_ne _ (ok1.ne_nx (St.new_get S _))]; exact St.new_get _ _
    exact f55_go _ (ii a) (ii p) (.p S.nx 0) _ S _ _ k e0 e1 (ii (mo a p)) (.p S.nx 1) (.f fid []) _ S3 e2 (e3 _) (fun c => by rw [eql_n, decide_eq_false hz]) (fun c => by rfl) (fun c => pLd_eq g1 (by rfl) c) (fun c => draw_pure _ _ (fun S k => e3 S k) _ c) d
theorem f29_step (v p w x e : V) (S S1 S2 : St) (k : Cont) (h1 : ∀ c : Cont, F44 S c = c w S1) (h2 : ∀ c : Cont, F55p w v p S1 c = c (.tu [x, e]) S2) : F29p v p S k = k (.tu [x, e]) S2 := by
  simp only [F29p, G29, C29, cSeq, cReg, cRet, h1, h2, pExt_0, pExt_1]
theorem f30_step (v p w x e : V) (S S1 S2 : St) (k : Cont) (h1 : ∀ c : Cont, F56 S c = c w S1) (h2 : ∀ c : Cont, F55p w v p S1 c = c (.tu [x, e]) S2) : F30p v p S k = k (.tu [x, e]) S2 := by
  simp only [F30p, G30, C30, cSeq, cReg, cRet, h1, h2, pExt_0, pExt_1]
theorem f31_step (v p w x e : V) (S S1 S2 : St) (k : Cont) (h1 : ∀ c : Cont, F57 S c = c w S1) (h2 : ∀ c : Cont, F55p w v p S1 c = c (.tu [x, e]) S2) : F31p v p S k = k (.tu [x, e]) S2 := by
  simp only [F31p, G31, C31, cSeq, cReg, cRet, h1, h2, pExt_0, pExt_1]
theorem call76 (x y : V) (S : St) (k : Cont) : pCallv T55 (.f 76 []) [x, y] S k = F76 x y S k := by rfl
theorem call91 (x y : V) (S : St) (k : Cont) : pCallv T55 (.f 91 []) [x, y] S k = F91 x y S k := by rfl
theorem call93 (x y : V) (S : St) (k : Cont) : pCallv T55 (.f 93 []) [x, y] S k = F93 x y S k := by rfl
theorem eu_ok {a p : Nat} (ha : a < 18446744073709551616) (hp : p ≤ 3000) (h : chk p = 0) {S : St} (ok : SOK S) : ∃ S', SOK S' ∧ ∀ k, F29p (ii a) (ii p) S k = k (.tu [ii (chZ (mo a p) p), ii 0]) S' := by
  obtain ⟨S1, ok1, h1⟩ := f44_ok ok
  have hc := h
  unfold chk at hc
  have h3 : 3 ≤ p := by
    split at hc
    · rename_i h'; exact h'.1
    · cases hc
  obtain ⟨S2, ok2, h2⟩ := char_ok [69, 117, 108, 101, 114] 76 ha (by omega) h (fun hm S ok => ⟨S, ok, Nat.le_refl _, fun k => by rw [call76]; exact fE_ok h3 (by omega) (by have := mo_lt (a := a) (show 0 < p by omega); omega) S k⟩) ok1
  exact ⟨S2, ok2, fun k => f29_step _ _ _ _ _ S S1 S2 k h1 h2⟩
theorem chk_prime {n : Nat} (h : chk n = 0) : 3 ≤ n ∧ n ≤ 65521 ∧ PrimeN n := by
  unfold chk at h
  split at h
  · rename_i h'; exact ⟨h'.1, h'.2.1, isP_iff.1 h'.2.2⟩
  · cases h
theorem ga_ok {a p : Nat} (ha : a < 18446744073709551616) (hp : p ≤ 3000) (h : chk p = 0) {S : St} (ok : SOK S) : ∃ S', SOK S' ∧ ∀ k, F30p (ii a) (ii p) S k = k (.tu [ii (chZ (mo a p) p), ii 0]) S' := by
  obtain ⟨S1, ok1, h1⟩ := f56_ok ok
  obtain ⟨h3, _, hP⟩ := chk_prime h
  obtain ⟨S2, ok2, h2⟩ := char_ok [71, 97, 117, 115, 115] 91 ha (by omega) h (fun hm S ok => by
    obtain ⟨S', a1, a2, a3, a4⟩ := f91_ok hP h3 hm (mo_lt (a := a) (show 0 < p by omega)) hp ok
    exact ⟨S', a1, by omega, fun k => by rw [call91]; exact a4 k⟩) ok1
  exact ⟨S2, ok2, fun k => f30_step _ _ _ _ _ S S1 S2 k h1 h2⟩
theorem zo_ok {a p : Nat} (ha : a < 18446744073709551616) (hp : p ≤ 3000) (h : chk p = 0) {S : St} (ok : SOK S) : ∃ S', SOK S' ∧ ∀ k, F31p (ii a) (ii p) S k = k (.tu [ii (chZ (mo a p) p), ii 0]) S' := by
  obtain ⟨S1, ok1, h1⟩ := f57_ok ok
  obtain ⟨h3, _, hP⟩ := chk_prime h
  obtain ⟨g, hg⟩ := in_PL h3 hp hP
  obtain ⟨S2, ok2, h2⟩ := char_ok [90, 111, 108, 111, 116, 97, 114, 101, 118] 93 ha (by omega) h (fun hm S ok => by
    obtain ⟨S', a1, a2, a3, a4⟩ := f93_ok hP h3 (PL_gen hg) hm (mo_lt (a := a) (show 0 < p by omega)) (by omega) ok
    exact ⟨S', a1, by omega, fun k => by rw [call93]; exact a4 k⟩) ok1
  exact ⟨S2, ok2, fun k => f31_step _ _ _ _ _ S S1 S2 k h1 h2⟩
theorem eu_err {p : Nat} (v : V) (hp : p < 18446744073709551616) (h : chk p = 7) {S : St} (ok : SOK S) : ∃ S', SOK S' ∧ ∀ k, F29p v (ii p) S k = k (.tu [ii 0, ii 7]) S' := by
  obtain ⟨S1, ok1, h1⟩ := f44_ok ok
  obtain ⟨S2, ok2, h2⟩ := char_err [69, 117, 108, 101, 114] 76 hp h v ok1
  exact ⟨S2, ok2, fun k => f29_step _ _ _ _ _ S S1 S2 k h1 h2⟩
theorem ga_err {p : Nat} (v : V) (hp : p < 18446744073709551616) (h : chk p = 7) {S : St} (ok : SOK S) : ∃ S', SOK S' ∧ ∀ k, F30p v (ii p) S k = k (.tu [ii 0, ii 7]) S' := by
  obtain ⟨S1, ok1, h1⟩ := f56_ok ok
  obtain ⟨S2, ok2, h2⟩ := char_err [71, 97, 117, 115, 115] 91 hp h v ok1
  exact ⟨S2, ok2, fun k => f30_step _ _ _ _ _ S S1 S2 k h1 h2⟩
theorem zo_err {p : Nat} (v : V) (hp : p < 18446744073709551616) (h : chk p = 7) {S : St} (ok : SOK S) : ∃ S', SOK S' ∧ ∀ k, F31p v (ii p) S k = k (.tu [ii 0, ii 7]) S' := by
  obtain ⟨S1, ok1, h1⟩ := f57_ok ok
  obtain ⟨S2, ok2, h2⟩ := char_err [90, 111, 108, 111, 116, 97, 114, 101, 118] 93 hp h v ok1
  exact ⟨S2, ok2, fun k => f31_step _ _ _ _ _ S S1 S2 k h1 h2⟩
/-- the reference's character of any number -/
theorem hc_neg (B : CS 9) (v0 v1 x r : V) (S : St) (k : Cont) (h1 : ∀ c, pRem v0 v1 c = c x) (h2 : ∀ c, pLss x (.i .i64 0) c = c (.b true)) (h2' : ∀ c, pAdd x v1 c = c r) (h3 : ∀ c, pEql r (.i .i64 0) c = c (.b false)) (o : V)
    (hB : ∀ (kn : Fn 9) (kx : Nat → Fn 9), (∀ v5 v7, kn v0 v1 r (.b true) (.b false) v5 (.b false) v7 (.i .i64 0) S = k (ii m1) S) → B kn kx (fun v0 v1 v2 v3 v4 v5 v6 v7 v8 S => k v8 S) v0 v1 r (.b true) (.b false) (.i .i64 1) .other .other (.i .i64 0) S = k o S) :
    HC B (fun v0 v1 v2 v3 v4 v5 v6 v7 v8 S => k v8 S) (fun _ => bot 9) (fun v0 v1 v2 v3 v4 v5 v6 v7 v8 S => k v8 S) v0 v1 .other .other .other .other .other .other .other S = k o S := by
  simp only [HC, cSeq, cReg, cCond, cSkip, cRet, h1, h2, h2', h3, pIf_f, pIf_t]
  exact hB _ _ fun v5 v7 => by rfl
theorem f28_ok {a p g : Nat} (hp : 3 ≤ p) (hp2 : p < 100000) (hg : okg p g = true) (ha : a < 18446744073709551616) (S : St) (k : Cont) : F28 (ii a) (ii p) S k = k (ii (chZ (mo a p) p)) S := by
  have hm := mo_lt (a := a) (show 0 < p by omega)
  have same : ∀ r, 1 ≤ r → r < p → (if sqB r p = true then 1 else m1) = eZ r p := fun r h1 h2 => by
    have := cZ_eZ (a := r) hp hg (by rw [Nat.mod_eq_of_lt h2]; exact h1)
    rw [Nat.mod_eq_of_lt h2] at this
    have e : cZ r p = if sqB r p = true then 1 else m1 := by
      unfold cZ
      rw [Nat.mod_eq_of_lt h2]; exact if_neg (by omega)
    rw [← e, this]
  unfold chZ
  by_cases hs : a < 9223372036854775808
  · rw [fC_ok hp hp2 hs]
    have e : mo a p = a % p := if_pos hs
    rw [e] at hm ⊢
    unfold cZ
    by_cases h0 : a % p = 0
    · rw [if_pos h0, if_pos h0]
    · rw [if_neg h0, if_neg h0, same _ (by omega) hm]
  · have e : mo a p = (p - (18446744073709551616 - a) % p) % p := if_neg hs
    have hq := Nat.mod_lt (18446744073709551616 - a) (show 0 < p by omega)
    have e1 : ∀ c : V → R, pRem (ii a) (ii p) c = c (ii ((18446744073709551616 - (18446744073709551616 - a) % p) % 18446744073709551616)) := fun c => by
      obtain ⟨q, rfl⟩ : ∃ x, p = x + 1 := ⟨p - 1, by omega⟩
      rw [show (ii (q + 1)) = V.i .i64 (q + 1) from rfl, pRem_i]
      have e2 : neg .i64 a = true := by
        show Nat.ble 9223372036854775808 a = true
        exact Nat.ble_eq_true_of_le (by omega)
      have e3 : remI .i64 a (q + 1) = (18446744073709551616 - (18446744073709551616 - a) % (q + 1)) % 18446744073709551616 := by
        unfold remI
        rw [e2, neg_n (show q + 1 < 9223372036854775808 by omega)]; rfl
      rw [e3]
    rw [e]
    unfold F28 G28
    rw [CC_eq]
    generalize (18446744073709551616 - a) % p = q at hq e1 e
    by_cases h0 : q = 0
    · subst h0
      rw [if_pos (by rw [Nat.sub_zero, Nat.mod_self])]
      exact hc_zero (cBlock 0 (cLoop BC)) (ii a) (ii p) _ S k e1 (fun c => by rfl) (fun c => by rfl)
    · have e2 : (18446744073709551616 - q) % 18446744073709551616 = 18446744073709551616 - q := Nat.mod_eq_of_lt (by omega)
      have e3 : (p - q) % p = p - q := Nat.mod_eq_of_lt (by omega)
      rw [e2] at e1
      rw [e3, if_neg (by omega), ← same _ (by omega) (by omega)]
      refine hc_neg (cBlock 0 (cLoop BC)) (ii a) (ii p) _ (ii (p - q)) S k e1 (fun c => ?_) (fun c => ?_) (fun c => by rw [eql_n, decide_eq_false (by omega)]) _ fun kn kx hkn => ?_
      · rw [pLss_i, sh_ge (by omega) (by omega), sh_lt (by omega), blt_eq, decide_eq_true (by omega)]
      · have e4 : (18446744073709551616 - q + p) % M .i64 = p - q := by
          show (18446744073709551616 - q + p) % 18446744073709551616 = p - q
          omega
        rw [pAdd_i, e4]
      · obtain ⟨kx', h1, h2⟩ := block_loop BC kn kx (fun v0 v1 v2 v3 v4 v5 v6 v7 v8 S => k v8 S)
        rw [h2]
        exact loopC p (p - q) hp hp2 (by omega) kx' k (ii a) (.b true) (.b false) (.i .i64 0) S (fun v5 v7 => by rw [h1]; exact hkn v5 v7) 1000000 1 _ _ (by omega) (by omega) (by omega) fun y a b => by omega
section
variable (v w x e y f z g : V) (S1 S2 S3 : St) (g1 : ∀ c : Cont, F29p v w S0 c = c (.tu [x, e]) S1) (g2 : ∀ c : Cont, F30p v w S1 c = c (.tu [y, f]) S2) (g3 : ∀ c : Cont, F31p v w S2 c = c (.tu [z, g]) S3)
include g1 g2 g3
theorem law_err (h1 : ∀ (S : St) (c : Cont), F18 w S c = c (.b false) S) (h2 : ∀ c, pEql x (.i .i64 0) c = c (.b true)) (h3 : ∀ c, pEql e (.i .i64 7) c = c (.b true)) (h4 : ∀ c, pEql y (.i .i64 0) c = c (.b true)) (h5 : ∀ c, pEql f (.i .i64 7) c = c (.b true)) (h6 : ∀ c, pEql z (.i .i64 0) c = c (.b true)) (h7 : ∀ c, pEql g (.i .i64 7) c = c (.b true)) : F7p v w S0 fin = fin (.b true) S3 := by
  simp only [F7p, G7, C7, cSeq, cReg, cCond, cRet, cSkip, cBlock, sayT, pNot_t, pNot_f, g1, g2, g3, h1, h2, h3, h4, h5, h6, h7, pExt_0, pExt_1, pIf_t, pIf_f, pGd_tt, pGd_ft, pPick_t, pPick_f]
theorem law_go (o : V) (h1 : ∀ (S : St) (c : Cont), F18 w S c = c (.b true) S) (h0 : ∀ c, pGtr w (.i .i64 3000) c = c (.b false)) (h10 : ∀ c : Cont, F28 v w S3 c = c o S3) (h2 : ∀ c, pEql x o c = c (.b true)) (h3 : ∀ c, pEql e (.i .i64 0) c = c (.b true)) (h4 : ∀ c, pEql y o c = c (.b true)) (h5 : ∀ c, pEql f (.i .i64 0) c = c (.b true)) (h6 : ∀ c, pEql z o c = c (.b true)) (h7 : ∀ c, pEql g (.i .i64 0) c = c (.b true)) : F7p v w S0 fin = fin (.b true) S3 := by
  simp only [F7p, G7, C7, cSeq, cReg, cCond, cRet, cSkip, cBlock, sayT, pNot_t, pNot_f, g1, g2, g3, h0, h1, h10, h2, h3, h4, h5, h6, h7, pExt_0, pExt_1, pIf_t, pIf_f, pGd_tt, pGd_ft, pPick_t, pPick_f]
end
theorem law_big (v w : V) (h1 : ∀ (S : St) (c : Cont), F18 w S c = c (.b true) S) (h0 : ∀ c, pGtr w (.i .i64 3000) c = c (.b true)) : F7p v w S0 fin = fin (.b true) S0 := by
  simp only [F7p, G7, C7, cSeq, cReg, cCond, cRet, cSkip, cBlock, sayT, pNot_t, h1, h0, pIf_t, pIf_f, pGd_tt, pPick_t]
theorem chk_cases (n : Nat) : chk n = 7 ∨ chk n = 0 := by
  unfold chk; split
  · exact .inr rfl
  · exact .inl rfl
theorem all7 (n m : Nat) (hn : n < 18446744073709551616) (hm : m < 18446744073709551616) : ∃ S, F7p (ii n) (ii m) S0 fin = fin (.b true) S := by
  have e3 : ∀ (S : St) (c : Cont), F18 (ii m) S c = c (.b (Nat.beq (chk m) 0)) S := fun S c => f18_ok hm S c
  rcases chk_cases m with h | h
  · rw [h] at e3
    obtain ⟨S1, ok1, g1⟩ := eu_err (ii n) hm h S0_ok
    obtain ⟨S2, ok2, g2⟩ := ga_err (ii n) hm h ok1
    obtain ⟨S3, ok3, g3⟩ := zo_err (ii n) hm h ok2
    exact ⟨S3, law_err (ii n) (ii m) _ _ _ _ _ _ S1 S2 S3 g1 g2 g3 e3 q00 q77 q00 q77 q00 q77⟩
  · rw [h] at e3
    obtain ⟨h1, h2, h3⟩ := chk_prime h
    have g0 : ∀ c, pGtr (ii m) (.i .i64 3000) c = c (.b (decide (3000 < m))) := fun c => gtr_n (by omega) (by omega) c
    by_cases hb : 3000 < m
    · rw [decide_eq_true hb] at g0
      exact ⟨_, law_big (ii n) (ii m) e3 g0⟩
    · rw [decide_eq_false hb] at g0
      obtain ⟨g, hg⟩ := in_PL h1 (by omega) h3
      obtain ⟨S1, ok1, g1⟩ := eu_ok hn (by omega) h S0_ok
      obtain ⟨S2, ok2, g2⟩ := ga_ok hn (by omega) h ok1
      obtain ⟨S3, ok3, g3⟩ := zo_ok hn (by omega) h ok2
      have q : ∀ c, pEql (ii (chZ (mo n m) m)) (ii (chZ (mo n m) m)) c = c (.b true) := fun c => by rw [eql_n, decide_eq_true rfl]
      exact ⟨S3, law_go (ii n) (ii m) _ _ _ _ _ _ S1 S2 S3 g1 g2 g3 (ii (chZ (mo n m) m)) e3 g0 (fun c => f28_ok h1 (by omega) (PL_gen hg) hn S3 c) q q00 q q00 q q00⟩
theorem toN (a : Int) : (a % (M .i64 : Int)).toNat < 18446744073709551616 := by
  have h0 := Int.emod_nonneg a (b := (M .i64 : Int)) (by decide)
  have h1 := Int.emod_lt_of_pos a (b := (M .i64 : Int)) (by decide)
  have h2 : (M .i64 : Int) = 18446744073709551616 := by decide
  omega
theorem walkReciprocitySymbols (a b : Int) (W : World) (wa : (Lit.int .i64 a).wf = true) (wb : (Lit.int .i64 b).wf = true) : Calls Tryz.prog 7 #[.int .i64 a, .int .i64 b] W fun e w' => e = .returned (.bool true) ∧ Go.RowKit.Below W.heap.size W w' := by
  have hv : VRs (fun _ => none) [.i .i64 (a % (M .i64 : Int)).toNat, .i .i64 (b % (M .i64 : Int)).toNat] (#[.int .i64 a, .int .i64 b] : Array Value).toList := .cons _ _ _ _ (vr_wf wa) (.cons _ _ _ _ (vr_wf wb) .nil)
  have hn := toN a
  have hm := toN b
  generalize (a % (M .i64 : Int)).toNat = n at hv hn
  generalize (b % (M .i64 : Int)).toNat = m at hv hm
  refine top_calls Tryz.func7 (by kernel_rfl) (by kernel_rfl) K7p _ _ hv ?_ W
  obtain ⟨S, h⟩ := all7 n m hn hm
  rw [un2']
  change yesB (F7p _ _ S0 fin) = true
  rw [h]; rfl
end
end Go.AM
