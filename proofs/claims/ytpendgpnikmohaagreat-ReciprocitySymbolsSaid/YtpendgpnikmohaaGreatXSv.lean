/- The character by Euler's criterion, and the reference's, as numbers. -/
import Derived.Test.YtpendgpnikmohaaGreatXQv
import Derived.Test.YtpendgpnikmohaaGreatXRT
set_option linter.unusedVariables false
set_option linter.unusedSimpArgs false
set_option maxRecDepth 100000
namespace Go.AM
open Go.Proofs
noncomputable section
/-- Euler's way: the loop -/
def BE : CS 8 := (cSeq (cSeq (cReg fun kn v0 v1 v2 v3 v4 v5 v6 v7 S => pGtr v2 (.i .i64 0) (fun a0 => kn v0 v1 v2 a0 v4 v5 v6 v7 S)) (cCond (fun x y v0 v1 v2 v3 v4 v5 v6 v7 S => pIf v3 (x v0 v1 v2 v3 v4 v5 v6 v7 S) (y v0 v1 v2 v3 v4 v5 v6 v7 S)) cSkip (cExit 0))) (cSeq (cBlock 1 (cSeq (cSeq (cReg fun kn v0 v1 v2 v3 v4 v5 v6 v7 S => pAnd v2 (.i .i64 1) (fun a0 => pEql a0 (.i .i64 1) (fun a1 => kn v0 v1 v2 v3 a1 v5 v6 v7 S))) (cCond (fun x y v0 v1 v2 v3 v4 v5 v6 v7 S => pIf v4 (x v0 v1 v2 v3 v4 v5 v6 v7 S) (y v0 v1 v2 v3 v4 v5 v6 v7 S)) (cReg fun kn v0 v1 v2 v3 v4 v5 v6 v7 S => pMul v5 v0 (fun a0 => pRem a0 v1 (fun a1 => kn v0 v1 v2 v3 v4 a1 v6 v7 S))) cSkip)) (cReg fun kn v0 v1 v2 v3 v4 v5 v6 v7 S => pMul v0 v0 (fun a0 => pRem a0 v1 (fun a1 => kn a1 v1 v2 v3 v4 v5 v6 v7 S))))) (cReg fun kn v0 v1 v2 v3 v4 v5 v6 v7 S => pShr v2 (.i .u64 1) (fun a0 => kn v0 v1 a0 v3 v4 v5 v6 v7 S))))
def HE (Lp : CS 8) : CS 8 := (cSeq (cReg fun kn v0 v1 v2 v3 v4 v5 v6 v7 S => kn v0 v1 v2 v3 v4 v5 v6 (.i .i64 0) S) (cSeq (cReg fun kn v0 v1 v2 v3 v4 v5 v6 v7 S => kn v0 v1 v2 v3 v4 (.i .i64 1) v6 v7 S) (cSeq (cSeq (cReg fun kn v0 v1 v2 v3 v4 v5 v6 v7 S => pSub v1 (.i .i64 1) (fun a0 => pQuo a0 (.i .i64 2) (fun a1 => kn v0 v1 a1 v3 v4 v5 v6 v7 S))) Lp) (cSeq (cSeq (cReg fun kn v0 v1 v2 v3 v4 v5 v6 v7 S => pEql v5 (.i .i64 1) (fun a0 => kn v0 v1 v2 v3 v4 v5 a0 v7 S)) (cCond (fun x y v0 v1 v2 v3 v4 v5 v6 v7 S => pIf v6 (x v0 v1 v2 v3 v4 v5 v6 v7 S) (y v0 v1 v2 v3 v4 v5 v6 v7 S)) (cSeq (cReg fun kn v0 v1 v2 v3 v4 v5 v6 v7 S => kn v0 v1 v2 v3 v4 v5 v6 (.i .i64 1) S) cRet) cSkip)) (cSeq (cReg fun kn v0 v1 v2 v3 v4 v5 v6 v7 S => kn v0 v1 v2 v3 v4 v5 v6 (.i .i64 18446744073709551615) S) cRet)))))
theorem CE_eq : C76 = HE (cBlock 0 (cLoop BE)) := by rfl
theorem be_end (K : Fn 8) (kx : Nat → Fn 8) (kr : Fn 8) (v0 v1 v2 v3 v4 v5 v6 v7 : V) (S : St) (h1 : ∀ c, pGtr v2 (.i .i64 0) c = c (.b false)) :
    BE K kx kr v0 v1 v2 v3 v4 v5 v6 v7 S = kx 0 v0 v1 v2 (.b false) v4 v5 v6 v7 S := by
  simp only [BE, cSeq, cReg, cCond, cBlock, cSkip, cExit, cRet, h1, pIf_t, pIf_f]
theorem be_odd (K : Fn 8) (kx : Nat → Fn 8) (kr : Fn 8) (v0 v1 v2 v3 v4 v5 v6 v7 b x o y a k' : V) (S : St) (h1 : ∀ c, pGtr v2 (.i .i64 0) c = c (.b true)) (h2 : ∀ c, pAnd v2 (.i .i64 1) c = c b) (h3 : ∀ c, pEql b (.i .i64 1) c = c (.b true))
    (h4 : ∀ c, pMul v5 v0 c = c x) (h5 : ∀ c, pRem x v1 c = c o) (h6 : ∀ c, pMul v0 v0 c = c y) (h7 : ∀ c, pRem y v1 c = c a) (h8 : ∀ c, pShr v2 (.i .u64 1) c = c k') :
    BE K kx kr v0 v1 v2 v3 v4 v5 v6 v7 S = K a v1 k' (.b true) (.b true) o v6 v7 S := by
  simp only [BE, cSeq, cReg, cCond, cBlock, cSkip, cExit, cRet, h1, h2, h3, h4, h5, h6, h7, h8, pIf_t, pIf_f]
theorem be_even (K : Fn 8) (kx : Nat → Fn 8) (kr : Fn 8) (v0 v1 v2 v3 v4 v5 v6 v7 b y a k' : V) (S : St) (h1 : ∀ c, pGtr v2 (.i .i64 0) c = c (.b true)) (h2 : ∀ c, pAnd v2 (.i .i64 1) c = c b) (h3 : ∀ c, pEql b (.i .i64 1) c = c (.b false))
    (h6 : ∀ c, pMul v0 v0 c = c y) (h7 : ∀ c, pRem y v1 c = c a) (h8 : ∀ c, pShr v2 (.i .u64 1) c = c k') :
    BE K kx kr v0 v1 v2 v3 v4 v5 v6 v7 S = K a v1 k' (.b true) (.b false) v5 v6 v7 S := by
  simp only [BE, cSeq, cReg, cCond, cBlock, cSkip, cExit, cRet, h1, h2, h3, h6, h7, h8, pIf_t, pIf_f]
theorem and1 (n : Nat) (c : V → R) : pAnd (ii n) (.i .i64 1) c = c (ii (n % 2)) := by
  refine (two_i .i64 n 1 iAnd c).trans ?_
  show retI c .i64 (Nat.land n 1) = _
  rw [retI_eq, show Nat.land n 1 = n % 2 from Nat.and_one_is_mod n]
theorem shr1 {n : Nat} (h : n < 9223372036854775808) (c : V → R) : pShr (ii n) (.i .u64 1) c = c (ii (n / 2)) := by
  show gu (Bool.not (neg .u64 1)) (retI c .i64 (shrI .i64 n (minN 1 (bits .i64)))) = _
  have e : shrI .i64 n (minN 1 (bits .i64)) = n / 2 := by
    unfold shrI
    rw [neg_n h]; rfl
  rw [e, show Bool.not (neg .u64 1) = true from rfl, gu_true, retI_eq]
theorem loopE (p : Nat) (hp : 3 ≤ p) (hp2 : p < 100000) (S : St) : ∀ (N k a out : Nat) (v3 v4 : V), 1 ≤ k → k < N → k < 100000 → a < 100000 → out < 100000 →
    ∃ a' v4', ∀ (kx : Nat → Fn 8) (kr : Fn 8) (v6 v7 : V), loopN BE kx kr N (ii a) (ii p) (ii k) v3 v4 (ii out) v6 v7 S = kx 0 (ii a') (ii p) (ii 0) (.b false) v4' (ii (out * a ^ k % p)) v6 v7 S
  | 0, k, a, out, v3, v4, h1, h2, h3, h4, h5 => by omega
  | N + 1, k, a, out, v3, v4, h1, h2, h3, h4, h5 => by
    have hoa : out * a < 10000000000 := by
      calc out * a ≤ 99999 * a := Nat.mul_le_mul_right _ (by omega)
        _ ≤ 99999 * 99999 := Nat.mul_le_mul_left _ (by omega)
        _ < _ := by decide
    have haa : a * a < 10000000000 := by
      calc a * a ≤ 99999 * a := Nat.mul_le_mul_right _ (by omega)
        _ ≤ 99999 * 99999 := Nat.mul_le_mul_left _ (by omega)
        _ < _ := by decide
    have lt : ∀ x : Nat, x % p < p := fun x => Nat.mod_lt x (by omega)
    have e1 : ∀ c, pGtr (ii k) (.i .i64 0) c = c (.b true) := fun c => by rw [gtr_n (by omega) (by omega), decide_eq_true (by omega)]
    have e6 : ∀ c, pMul (ii a) (ii a) c = c (ii (a * a)) := fun c => mul_n (by omega) c
    have e7 : ∀ c, pRem (ii (a * a)) (ii p) c = c (ii (a * a % p)) := fun c => rem_n (by omega) (by omega) (by omega) c
    have e8 : ∀ c, pShr (ii k) (.i .u64 1) c = c (ii (k / 2)) := fun c => shr1 (by omega) c
    rcases Nat.mod_two_eq_zero_or_one k with hk | hk
    · obtain ⟨a', v4', h⟩ := loopE p hp hp2 S N (k / 2) (a * a % p) out (.b true) (.b false) (by omega) (by omega) (by omega) (by have := lt (a * a); omega) h5
      refine ⟨a', v4', fun kx kr v6 v7 => ?_⟩
      rw [loopN_succ, be_even _ _ _ _ _ _ _ _ _ _ _ (ii (k % 2)) (ii (a * a)) (ii (a * a % p)) (ii (k / 2)) S e1 (and1 k) (fun c => by rw [eql_n, decide_eq_false (by omega)]) e6 e7 e8, h]
      have : out * (a * a % p) ^ (k / 2) % p = out * a ^ k % p := by
        rw [Nat.mul_mod, ← Nat.pow_mod, ← Nat.mul_mod, ← Nat.pow_two, ← Nat.pow_mul, show 2 * (k / 2) = k by omega]
      rw [this]
    · have go : ∀ (kx : Nat → Fn 8) (kr : Fn 8) (v6 v7 : V), loopN BE kx kr (N + 1) (ii a) (ii p) (ii k) v3 v4 (ii out) v6 v7 S = loopN BE kx kr N (ii (a * a % p)) (ii p) (ii (k / 2)) (.b true) (.b true) (ii (out * a % p)) v6 v7 S := fun kx kr v6 v7 => by
        rw [loopN_succ, be_odd _ _ _ _ _ _ _ _ _ _ _ (ii (k % 2)) (ii (out * a)) (ii (out * a % p)) (ii (a * a)) (ii (a * a % p)) (ii (k / 2)) S e1 (and1 k) (fun c => by rw [eql_n, decide_eq_true hk]) (fun c => mul_n (by omega) c) (fun c => rem_n (by omega) (by omega) (by omega) c) e6 e7 e8]
      by_cases hk1 : k = 1
      · subst hk1
        refine ⟨a * a % p, .b true, fun kx kr v6 v7 => ?_⟩
        obtain ⟨M, rfl⟩ : ∃ M, N = M + 1 := ⟨N - 1, by omega⟩
        rw [go, loopN_succ, be_end _ _ _ _ _ _ _ _ _ _ _ S (fun c => by rfl), Nat.pow_one]
      · obtain ⟨a', v4', h⟩ := loopE p hp hp2 S N (k / 2) (a * a % p) (out * a % p) (.b true) (.b true) (by omega) (by omega) (by omega) (by have := lt (a * a); omega) (by have := lt (out * a); omega)
        refine ⟨a', v4', fun kx kr v6 v7 => ?_⟩
        rw [go, h]
        have : out * a % p * (a * a % p) ^ (k / 2) % p = out * a ^ k % p := by
          rw [Nat.mul_mod, Nat.mod_mod, ← Nat.pow_mod, ← Nat.mul_mod, ← Nat.pow_two, ← Nat.pow_mul, Nat.mul_assoc, ← Nat.pow_succ', show Nat.succ (2 * (k / 2)) = k by omega]
        rw [this]
abbrev m1 : Nat := 18446744073709551615
def eZ (a p : Nat) : Nat := if eN a p = true then 1 else m1
theorem he_step (B : CS 8) (v0 v1 x k0 v0' v2' v3' v4' v5' : V) (S : St) (b : Bool) (k : Cont) (h1 : ∀ c, pSub v1 (.i .i64 1) c = c x) (h2 : ∀ c, pQuo x (.i .i64 2) c = c k0)
    (hB : ∀ (kn : Fn 8) (kx : Nat → Fn 8) (kr : Fn 8), B kn kx kr v0 v1 k0 .other .other (.i .i64 1) .other (.i .i64 0) S = kn v0' v1 v2' v3' v4' v5' .other (.i .i64 0) S) (h3 : ∀ c, pEql v5' (.i .i64 1) c = c (.b b)) :
    HE B (fun v0 v1 v2 v3 v4 v5 v6 v7 S => k v7 S) (fun _ => bot 8) (fun v0 v1 v2 v3 v4 v5 v6 v7 S => k v7 S) v0 v1 .other .other .other .other .other .other S = k (ii (if b = true then 1 else m1)) S := by
  cases b
  · simp only [HE, cSeq, cReg, cCond, cSkip, cRet, h1, h2, hB, h3, pIf_f, Bool.false_eq_true, if_false]
  · simp only [HE, cSeq, cReg, cCond, cSkip, cRet, h1, h2, hB, h3, pIf_t, if_true]
theorem fE_ok {a p : Nat} (hp : 3 ≤ p) (hp2 : p < 100000) (ha : a < 100000) (S : St) (k : Cont) : F76 (ii a) (ii p) S k = k (ii (eZ a p)) S := by
  unfold F76 G76
  rw [CE_eq]
  obtain ⟨a', v4', hl⟩ := loopE p hp hp2 S 1000000 ((p - 1) / 2) a 1 .other .other (by omega) (by omega) (by omega) ha (by omega)
  have h := he_step (cBlock 0 (cLoop BE)) (ii a) (ii p) (ii (p - 1)) (ii ((p - 1) / 2)) (ii a') (ii 0) (.b false) v4' (ii (1 * a ^ ((p - 1) / 2) % p)) S (eN a p) k (fun c => ?_) (fun c => quo_n (by omega) (by omega) (by omega) c) (fun kn kx kr => ?_) (fun c => ?_)
  · exact h
  · have e : (p + (M .i64 - 1)) % M .i64 = p - 1 := by
      show (p + 18446744073709551615) % 18446744073709551616 = p - 1
      omega
    rw [pSub_i, e]
  · obtain ⟨kx', h1, h2⟩ := block_loop BE kn kx kr
    rw [h2, hl, h1]
  · rw [eql_n, Nat.one_mul]
    congr 2
    cases he : eN a p
    · exact decide_eq_false fun e => by rw [eN_iff.2 e] at he; cases he
    · exact decide_eq_true (eN_iff.1 he)
/-- the reference's character: the loop -/
def BC : CS 9 := (cSeq (cSeq (cReg fun kn v0 v1 v2 v3 v4 v5 v6 v7 v8 S => pQuo v1 (.i .i64 2) (fun a0 => pLeq v5 a0 (fun a1 => kn v0 v1 v2 v3 v4 v5 a1 v7 v8 S))) (cCond (fun x y v0 v1 v2 v3 v4 v5 v6 v7 v8 S => pIf v6 (x v0 v1 v2 v3 v4 v5 v6 v7 v8 S) (y v0 v1 v2 v3 v4 v5 v6 v7 v8 S)) cSkip (cExit 0))) (cSeq (cBlock 1 (cSeq (cReg fun kn v0 v1 v2 v3 v4 v5 v6 v7 v8 S => pMul v5 v5 (fun a0 => pRem a0 v1 (fun a1 => pEql a1 v2 (fun a2 => kn v0 v1 v2 v3 v4 v5 v6 a2 v8 S)))) (cCond (fun x y v0 v1 v2 v3 v4 v5 v6 v7 v8 S => pIf v7 (x v0 v1 v2 v3 v4 v5 v6 v7 v8 S) (y v0 v1 v2 v3 v4 v5 v6 v7 v8 S)) (cSeq (cReg fun kn v0 v1 v2 v3 v4 v5 v6 v7 v8 S => kn v0 v1 v2 v3 v4 v5 v6 v7 (.i .i64 1) S) cRet) cSkip))) (cReg fun kn v0 v1 v2 v3 v4 v5 v6 v7 v8 S => pAdd v5 (.i .i64 1) (fun a0 => kn v0 v1 v2 v3 v4 a0 v6 v7 v8 S))))
def HC (Lp : CS 9) : CS 9 := (cSeq (cReg fun kn v0 v1 v2 v3 v4 v5 v6 v7 v8 S => kn v0 v1 v2 v3 v4 v5 v6 v7 (.i .i64 0) S) (cSeq (cReg fun kn v0 v1 v2 v3 v4 v5 v6 v7 v8 S => pRem v0 v1 (fun a0 => kn v0 v1 a0 v3 v4 v5 v6 v7 v8 S)) (cSeq (cSeq (cReg fun kn v0 v1 v2 v3 v4 v5 v6 v7 v8 S => pLss v2 (.i .i64 0) (fun a0 => kn v0 v1 v2 a0 v4 v5 v6 v7 v8 S)) (cCond (fun x y v0 v1 v2 v3 v4 v5 v6 v7 v8 S => pIf v3 (x v0 v1 v2 v3 v4 v5 v6 v7 v8 S) (y v0 v1 v2 v3 v4 v5 v6 v7 v8 S)) (cReg fun kn v0 v1 v2 v3 v4 v5 v6 v7 v8 S => pAdd v2 v1 (fun a0 => kn v0 v1 a0 v3 v4 v5 v6 v7 v8 S)) cSkip)) (cSeq (cSeq (cReg fun kn v0 v1 v2 v3 v4 v5 v6 v7 v8 S => pEql v2 (.i .i64 0) (fun a0 => kn v0 v1 v2 v3 a0 v5 v6 v7 v8 S)) (cCond (fun x y v0 v1 v2 v3 v4 v5 v6 v7 v8 S => pIf v4 (x v0 v1 v2 v3 v4 v5 v6 v7 v8 S) (y v0 v1 v2 v3 v4 v5 v6 v7 v8 S)) (cSeq (cReg fun kn v0 v1 v2 v3 v4 v5 v6 v7 v8 S => kn v0 v1 v2 v3 v4 v5 v6 v7 (.i .i64 0) S) cRet) cSkip)) (cSeq (cSeq (cReg fun kn v0 v1 v2 v3 v4 v5 v6 v7 v8 S => kn v0 v1 v2 v3 v4 (.i .i64 1) v6 v7 v8 S) Lp) (cSeq (cReg fun kn v0 v1 v2 v3 v4 v5 v6 v7 v8 S => kn v0 v1 v2 v3 v4 v5 v6 v7 (.i .i64 18446744073709551615) S) cRet))))))
theorem CC_eq : C28 = HC (cBlock 0 (cLoop BC)) := by rfl
theorem bc_end (K : Fn 9) (kx : Nat → Fn 9) (kr : Fn 9) (v0 v1 v2 v3 v4 v5 v6 v7 v8 h : V) (S : St) (h1 : ∀ c, pQuo v1 (.i .i64 2) c = c h) (h2 : ∀ c, pLeq v5 h c = c (.b false)) :
    BC K kx kr v0 v1 v2 v3 v4 v5 v6 v7 v8 S = kx 0 v0 v1 v2 v3 v4 v5 (.b false) v7 v8 S := by
  simp only [BC, cSeq, cReg, cCond, cBlock, cSkip, cExit, cRet, h1, h2, pIf_t, pIf_f]
theorem bc_go (K : Fn 9) (kx : Nat → Fn 9) (kr : Fn 9) (v0 v1 v2 v3 v4 v5 v6 v7 v8 h x y x' : V) (S : St) (h1 : ∀ c, pQuo v1 (.i .i64 2) c = c h) (h2 : ∀ c, pLeq v5 h c = c (.b true)) (h3 : ∀ c, pMul v5 v5 c = c x) (h4 : ∀ c, pRem x v1 c = c y) (h5 : ∀ c, pEql y v2 c = c (.b false)) (h6 : ∀ c, pAdd v5 (.i .i64 1) c = c x') :
    BC K kx kr v0 v1 v2 v3 v4 v5 v6 v7 v8 S = K v0 v1 v2 v3 v4 x' (.b true) (.b false) v8 S := by
  simp only [BC, cSeq, cReg, cCond, cBlock, cSkip, cExit, cRet, h1, h2, h3, h4, h5, h6, pIf_t, pIf_f]
theorem bc_yes (K : Fn 9) (kx : Nat → Fn 9) (kr : Fn 9) (v0 v1 v2 v3 v4 v5 v6 v7 v8 h x y : V) (S : St) (h1 : ∀ c, pQuo v1 (.i .i64 2) c = c h) (h2 : ∀ c, pLeq v5 h c = c (.b true)) (h3 : ∀ c, pMul v5 v5 c = c x) (h4 : ∀ c, pRem x v1 c = c y) (h5 : ∀ c, pEql y v2 c = c (.b true)) :
    BC K kx kr v0 v1 v2 v3 v4 v5 v6 v7 v8 S = kr v0 v1 v2 v3 v4 v5 (.b true) (.b true) (.i .i64 1) S := by
  simp only [BC, cSeq, cReg, cCond, cBlock, cSkip, cExit, cRet, h1, h2, h3, h4, h5, pIf_t, pIf_f]
open Classical in
/-- is it a square -/
noncomputable def sqB (r p : Nat) : Bool := decide (∃ x, 1 ≤ x ∧ x ≤ p / 2 ∧ x * x % p = r)
theorem sqB_iff {r p : Nat} : sqB r p = true ↔ ∃ x, 1 ≤ x ∧ x ≤ p / 2 ∧ x * x % p = r := by simp [sqB]
theorem loopC (p r : Nat) (hp : 3 ≤ p) (hp2 : p < 100000) (hr : r < 100000) (kx : Nat → Fn 9) (k : Cont) (v0 v3 v4 v8 : V) (S : St) (hk : ∀ v5 v7, kx 0 v0 (ii p) (ii r) v3 v4 v5 (.b false) v7 v8 S = k (ii m1) S) : ∀ (N x : Nat) (v6 v7 : V), 1 ≤ x → p ≤ x + N → x ≤ p / 2 + 1 → (∀ y, 1 ≤ y → y < x → y * y % p ≠ r) →
    loopN BC kx (fun v0 v1 v2 v3 v4 v5 v6 v7 v8 S => k v8 S) N v0 (ii p) (ii r) v3 v4 (ii x) v6 v7 v8 S = k (ii (if sqB r p = true then 1 else m1)) S
  | 0, x, v6, v7, h1, h2, h3, h4 => by omega
  | N + 1, x, v6, v7, h1, h2, h3, h4 => by
    have hxx : x * x < 10000000000 := by
      calc x * x ≤ 99999 * x := Nat.mul_le_mul_right _ (by omega)
        _ ≤ 99999 * 99999 := Nat.mul_le_mul_left _ (by omega)
        _ < _ := by decide
    have lt : ∀ x : Nat, x % p < p := fun x => Nat.mod_lt x (by omega)
    have e1 : ∀ c, pQuo (ii p) (.i .i64 2) c = c (ii (p / 2)) := fun c => quo_n (by omega) (by omega) (by omega) c
    have e3 : ∀ c, pMul (ii x) (ii x) c = c (ii (x * x)) := fun c => mul_n (by omega) c
    have e4 : ∀ c, pRem (ii (x * x)) (ii p) c = c (ii (x * x % p)) := fun c => rem_n (by omega) (by omega) (by omega) c
    rw [loopN_succ]
    by_cases hx : x ≤ p / 2
    · have e2 : ∀ c, pLeq (ii x) (ii (p / 2)) c = c (.b true) := fun c => by rw [leq_n (by omega) (by omega), decide_eq_true hx]
      by_cases he : x * x % p = r
      · rw [bc_yes _ _ _ _ _ _ _ _ _ _ _ _ _ _ _ S e1 e2 e3 e4 (fun c => by rw [eql_n, decide_eq_true he])]
        have : sqB r p = true := sqB_iff.2 ⟨x, h1, hx, he⟩
        rw [if_pos this]
      · rw [bc_go _ _ _ _ _ _ _ _ _ _ _ _ _ _ _ (ii (x + 1)) S e1 e2 e3 e4 (fun c => by rw [eql_n, decide_eq_false he]) (fun c => add_n (by omega) c)]
        exact loopC p r hp hp2 hr kx k v0 v3 v4 v8 S hk N (x + 1) _ _ (by omega) (by omega) (by omega) fun y a b => by
          rcases Nat.lt_or_ge y x with h | h
          · exact h4 y a h
          · have : y = x := by omega
            rw [this]; exact he
    · rw [bc_end _ _ _ _ _ _ _ _ _ _ _ _ _ S e1 (fun c => by rw [leq_n (by omega) (by omega), decide_eq_false hx]), hk]
      have : ¬ sqB r p = true := by
        rw [sqB_iff]
        rintro ⟨y, a, b, c⟩
        exact h4 y a (by omega) c
      rw [if_neg this]
def cZ (a p : Nat) : Nat := if a % p = 0 then 0 else if sqB (a % p) p = true then 1 else m1
theorem hc_zero (B : CS 9) (v0 v1 x : V) (S : St) (k : Cont) (h1 : ∀ c, pRem v0 v1 c = c x) (h2 : ∀ c, pLss x (.i .i64 0) c = c (.b false)) (h3 : ∀ c, pEql x (.i .i64 0) c = c (.b true)) :
    HC B (fun v0 v1 v2 v3 v4 v5 v6 v7 v8 S => k v8 S) (fun _ => bot 9) (fun v0 v1 v2 v3 v4 v5 v6 v7 v8 S => k v8 S) v0 v1 .other .other .other .other .other .other .other S = k (ii 0) S := by
  simp only [HC, cSeq, cReg, cCond, cSkip, cRet, h1, h2, h3, pIf_f, pIf_t]
theorem hc_loop (B : CS 9) (v0 v1 x : V) (S : St) (k : Cont) (h1 : ∀ c, pRem v0 v1 c = c x) (h2 : ∀ c, pLss x (.i .i64 0) c = c (.b false)) (h3 : ∀ c, pEql x (.i .i64 0) c = c (.b false)) (o : V)
    (hB : ∀ (kn : Fn 9) (kx : Nat → Fn 9), (∀ v5 v7, kn v0 v1 x (.b false) (.b false) v5 (.b false) v7 (.i .i64 0) S = k (ii m1) S) → B kn kx (fun v0 v1 v2 v3 v4 v5 v6 v7 v8 S => k v8 S) v0 v1 x (.b false) (.b false) (.i .i64 1) .other .other (.i .i64 0) S = k o S) :
    HC B (fun v0 v1 v2 v3 v4 v5 v6 v7 v8 S => k v8 S) (fun _ => bot 9) (fun v0 v1 v2 v3 v4 v5 v6 v7 v8 S => k v8 S) v0 v1 .other .other .other .other .other .other .other S = k o S := by
  simp only [HC, cSeq, cReg, cCond, cSkip, cRet, h1, h2, h3, pIf_f, pIf_t]
  exact hB _ _ fun v5 v7 => by rfl
theorem fC_ok {a p : Nat} (hp : 3 ≤ p) (hp2 : p < 100000) (ha : a < 9223372036854775808) (S : St) (k : Cont) : F28 (ii a) (ii p) S k = k (ii (cZ a p)) S := by
  unfold F28 G28
  rw [CC_eq]
  have lt := Nat.mod_lt a (show 0 < p by omega)
  have e1 : ∀ c, pRem (ii a) (ii p) c = c (ii (a % p)) := fun c => rem_n ha (by omega) (by omega) c
  have e2 : ∀ c, pLss (ii (a % p)) (.i .i64 0) c = c (.b false) := fun c => by rw [lss_n (by omega) (by omega), decide_eq_false (by omega)]
  by_cases h0 : a % p = 0
  · rw [hc_zero (cBlock 0 (cLoop BC)) (ii a) (ii p) (ii (a % p)) S k e1 e2 (fun c => by rw [eql_n, decide_eq_true h0])]
    unfold cZ; rw [if_pos h0]
  · rw [hc_loop (cBlock 0 (cLoop BC)) (ii a) (ii p) (ii (a % p)) S k e1 e2 (fun c => by rw [eql_n, decide_eq_false h0]) (ii (if sqB (a % p) p = true then 1 else m1)) fun kn kx hkn => ?_]
    · unfold cZ; rw [if_neg h0]
    · obtain ⟨kx', h1, h2⟩ := block_loop BC kn kx (fun v0 v1 v2 v3 v4 v5 v6 v7 v8 S => k v8 S)
      rw [h2]
      exact loopC p (a % p) hp hp2 (by omega) kx' k (ii a) (.b false) (.b false) (.i .i64 0) S (fun v5 v7 => by rw [h1]; exact hkn v5 v7) 1000000 1 _ _ (by omega) (by omega) (by omega) fun y a b => by omega
/-- both are the same -/
theorem cZ_eZ {a p g : Nat} (hp : 3 ≤ p) (h : okg p g = true) (h1 : 1 ≤ a % p) : cZ a p = eZ (a % p) p := by
  unfold cZ eZ
  rw [if_neg (by omega)]
  have e : eN (a % p) p = sqB (a % p) p := by
    have := euler hp h h1 (Nat.mod_lt a (by omega))
    rw [← sqB_iff] at this
    cases he : eN (a % p) p
    · cases hs : sqB (a % p) p
      · rfl
      · rw [this.2 hs] at he; cases he
    · exact (this.1 he).symm
  rw [e]
theorem eN_mod (a p : Nat) : eN (a % p) p = eN a p := by
  have : ∀ b, eN b p = Nat.beq (b ^ ((p - 1) / 2) % p) 1 := fun b => rfl
  rw [this, this, ← Nat.pow_mod]
end
end Go.AM
