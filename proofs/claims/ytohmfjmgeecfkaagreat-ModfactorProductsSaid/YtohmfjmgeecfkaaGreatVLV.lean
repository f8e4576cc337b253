/- Steps of a run that leave what was there. -/
import Derived.Test.YtohmfjmgeecfkaaGreatVLF
import Derived.Test.YtohmfjmgeecfkaaGreatVLP
namespace Go.AM
set_option linter.unusedVariables false
set_option linter.unusedSimpArgs false
noncomputable section
structure Stp (S S' : St) : Prop where
  ok : SOK S'
  old : Old S S'
  fl : S'.fl = S.fl
  le : S.cnt ≤ S'.cnt
variable {S S1 S2 S' : St} {v : V} {l : List Nat}
theorem Stp.refl (ok : SOK S) : Stp S S := ⟨ok, .refl S, rfl, Nat.le_refl _⟩
theorem Stp.trans (a : Stp S S1) (b : Stp S1 S2) : Stp S S2 :=
  ⟨b.ok, fun id h => (b.old id (Nat.lt_of_lt_of_le h a.le)).trans (a.old id h), b.fl.trans a.fl, Nat.le_trans a.le b.le⟩
theorem Stp.new (ok : SOK S) (cs : List V) : Stp S (S.new cs) :=
  ⟨ok.new cs, Old.new ok cs (.refl S) (Nat.le_refl _), rfl, Nat.le_succ _⟩
theorem Stp.row (a : Stp S S') (ok : SOK S) (h : Row S v l) : Row S' v l := h.old ok a.old
theorem Stp.get {id : Pos} {b : Blk} (a : Stp S S') (ok : SOK S) (h : S.h.get id = some b) : S'.h.get id = some b := by
  rw [a.old id (ok.blk _ _ h).1]; exact h
/-- what a locked run leaves, unlocked -/
def St.unl (S S' : St) : St := ⟨S'.h, S'.nx, S'.cnt, S.fl⟩
theorem Stp.unl (ok : SOK S) (a : Stp S.lock S') : Stp S (S.unl S') :=
  ⟨⟨a.ok.nx, ok.fl, Nat.le_trans ok.le a.le, a.ok.blk⟩, a.old, rfl, a.le⟩
theorem pDraw_stp {f : Sem3} (h : ∀ k, f S.lock k = k v S') (k : Cont) : pDraw f S k = k v (S.unl S') := by
  cases S with
  | mk a b c d => show f (St.lock ⟨a, b, c, d⟩) _ = _; rw [h]; cases S'; rfl
theorem Row.lock (h : Row S v l) : Row S.lock v l := h
theorem Row.unl (h : Row S' v l) : Row (S.unl S') v l := h
theorem loopN_succ {n : Nat} (c : CS n) (kx : Nat → Fn n) (kr : Fn n) (N : Nat) : loopN c kx kr (N + 1) = c (loopN c kx kr N) kx kr := by rfl
theorem block_loop_at (m : Nat) {n : Nat} (c : CS n) (kn : Fn n) (kx : Nat → Fn n) (kr : Fn n) : ∃ kx' : Nat → Fn n, kx' m = kn ∧ cBlock m (cLoop c) kn kx kr = loopN c kx' kr 1000000 :=
  ⟨fun id' => Bool.rec (fun kx kn => kx) (fun kx kn => kn) (Nat.beq id' m) (kx id') kn, by simp, by unfold cBlock cLoop; rfl⟩
theorem ifT (x y : R) : pIf (.b true) x y = x := by rfl
theorem ifF (x y : R) : pIf (.b false) x y = y := by rfl
theorem pGd_uf (o : Cont → R) (S : St) (k : Cont) : pGd .u false o S k = k .u S := by rfl
theorem pGd_ut (o : Cont → R) (S : St) (k : Cont) : pGd .u true o S k = k .u S := by rfl
theorem ext0 (a b : V) (c : V → R) : pExt (.tu [a, b]) 0 c = c a := by rfl
theorem ext1 (a b : V) (c : V → R) : pExt (.tu [a, b]) 1 c = c b := by rfl
theorem sub_n {a b : Nat} (h : b ≤ a) (ha : a < 9223372036854775808) (c : V → R) : pSub (nn a) (nn b) c = c (nn (a - b)) := by
  rw [pSub_i]
  congr 2
  show (a + (18446744073709551616 - b)) % 18446744073709551616 = _
  rw [show a + (18446744073709551616 - b) = (a - b) + 18446744073709551616 by omega, Nat.add_mod_right, Nat.mod_eq_of_lt (by omega)]
theorem sub_01 (c : V → R) : pSub (nn 0) (nn 1) c = c (nn 18446744073709551615) := by rfl
theorem sh_hi {n : Nat} (h1 : 9223372036854775808 ≤ n) (hn : n < 18446744073709551616) : sh .i64 n = n - 9223372036854775808 := by
  show (n + 9223372036854775808) % 18446744073709551616 = _
  omega
theorem pick_e (k : IntKind) (a b : Nat) : pickI k false a b = bif Nat.blt (sh k a) (sh k b) then b else a := by
  unfold pickI
  cases Nat.blt (sh k a) (sh k b) <;> rfl
theorem mx_e (k : IntKind) (a b : Nat) (c : V → R) : pMx [.i k a, .i k b] c = two (.i k a) (.i k b) (fun kd a b c => retI c kd (pickI kd false a b)) c := by rfl
theorem mx_n {a b : Nat} (ha : a < 9223372036854775808) (hb : b < 9223372036854775808) (c : V → R) : pMx [nn a, nn b] c = c (nn (if a < b then b else a)) := by
  rw [mx_e, two_i, retI_eq, pick_e, sh_lt ha, sh_lt hb, blt_eq]
  by_cases h : a < b
  · rw [decide_eq_true (by omega), if_pos h]; rfl
  · rw [decide_eq_false (by omega), if_neg h]; rfl
/-- the part of max(0, n - 1), for a length n -/
theorem sub_mx {n : Nat} (hn : n < 4611686018427387905) : ∃ x, (∀ c : V → R, pSub (nn n) (nn 1) c = c (nn x)) ∧ ∀ c : V → R, pMx [nn 0, nn x] c = c (nn (n - 1)) := by
  cases n with
  | zero => exact ⟨_, sub_01, fun c => by rfl⟩
  | succ n => exact ⟨n, fun c => by rw [sub_n (by omega) (by omega)]; rfl, fun c => by
      rw [mx_n (by omega) (by omega)]
      cases n with
      | zero => rfl
      | succ n => rw [if_pos (by omega)]; rfl⟩
theorem mul_any (a b : Nat) (c : V → R) : ∃ x, x < 18446744073709551616 ∧ pMul (nn a) (nn b) c = c (nn x) := by
  rw [pMul_i]; exact ⟨_, Nat.mod_lt _ (by decide), rfl⟩
/-- signed order against a small number -/
theorem lss_s {n b : Nat} (hn : n < 18446744073709551616) (hb : b < 9223372036854775808) (c : V → R) : pLss (nn n) (nn b) c = c (.b (decide (n < b ∨ 9223372036854775808 ≤ n))) := by
  rcases Nat.lt_or_ge n 9223372036854775808 with h | h
  · rw [lss_n h hb]; exact congrArg (fun x => c (V.b x)) (decide_eq_decide.2 (by omega))
  · rw [pLss_i, sh_hi h hn, sh_lt hb, blt_eq]; exact congrArg (fun x => c (V.b x)) (decide_eq_decide.2 (by omega))
theorem geq_s {n b : Nat} (hn : n < 18446744073709551616) (hb : b < 9223372036854775808) (c : V → R) : pGeq (nn n) (nn b) c = c (.b (decide (b ≤ n ∧ n < 9223372036854775808))) := by
  rcases Nat.lt_or_ge n 9223372036854775808 with h | h
  · rw [geq_n h hb]; exact congrArg (fun x => c (V.b x)) (decide_eq_decide.2 (by omega))
  · rw [pGeq_i, sh_hi h hn, sh_lt hb, ble_eq]; exact congrArg (fun x => c (V.b x)) (decide_eq_decide.2 (by omega))
theorem gtr_s {n b : Nat} (hn : n < 18446744073709551616) (hb : b < 9223372036854775808) (c : V → R) : pGtr (nn n) (nn b) c = c (.b (decide (b < n ∧ n < 9223372036854775808))) := by
  rcases Nat.lt_or_ge n 9223372036854775808 with h | h
  · rw [gtr_n h hb]; exact congrArg (fun x => c (V.b x)) (decide_eq_decide.2 (by omega))
  · rw [pGtr_i, sh_hi h hn, sh_lt hb, blt_eq]; exact congrArg (fun x => c (V.b x)) (decide_eq_decide.2 (by omega))
/-- a number is outside 0 .. p - 1 -/
def outB (p x : Nat) : Bool := decide (p ≤ x)
/-- every number is one of a machine -/
def W64 (l : List Nat) : Prop := ∀ x ∈ l, x < 18446744073709551616
theorem W64.get (h : W64 l) {i : Nat} (hi : i < l.length) : l.getD i 0 < 18446744073709551616 := h _ (List.mem_of_getElem? (getD_of hi))
end
end Go.AM

/- The tests of primes: pure texts. -/
namespace Go.AM
open Go.Proofs
set_option linter.unusedVariables false
set_option linter.unusedSimpArgs false
set_option maxRecDepth 100000
noncomputable section
variable {S0 S : St} {out : V × St}
/- galoisref04.IsPrime -/
def B52 : CS 5 := (cSeq (cSeq (cReg fun kn v0 v1 v2 v3 v4 S => pMul v1 v1 (fun a0 => pLeq a0 v0 (fun a1 => kn v0 v1 a1 v3 v4 S))) (cCond (fun x y v0 v1 v2 v3 v4 S => pIf v2 (x v0 v1 v2 v3 v4 S) (y v0 v1 v2 v3 v4 S)) cSkip (cExit 0))) (cSeq (cBlock 1 (cSeq (cReg fun kn v0 v1 v2 v3 v4 S => pRem v0 v1 (fun a0 => pEql a0 (.i .i64 0) (fun a1 => kn v0 v1 v2 a1 v4 S))) (cCond (fun x y v0 v1 v2 v3 v4 S => pIf v3 (x v0 v1 v2 v3 v4 S) (y v0 v1 v2 v3 v4 S)) (cSeq (cReg fun kn v0 v1 v2 v3 v4 S => kn v0 v1 v2 v3 (.b false) S) cRet) cSkip))) (cReg fun kn v0 v1 v2 v3 v4 S => pAdd v1 (.i .i64 1) (fun a0 => kn v0 a0 v2 v3 v4 S))))
def E52 : CS 5 := (cSeq (cReg fun kn v0 v1 v2 v3 v4 S => pGtr v0 (.i .i64 1) (fun a0 => kn v0 v1 v2 v3 a0 S)) cRet)
def A52 : CS 5 := (cReg fun kn v0 v1 v2 v3 v4 S => kn v0 v1 v2 v3 (.b false) S)
def A52b : CS 5 := (cReg fun kn v0 v1 v2 v3 v4 S => kn v0 (.i .i64 2) v2 v3 v4 S)
theorem C52_eq : C52 = cSeq A52 (cSeq (cSeq A52b (cBlock 0 (cLoop B52))) E52) := by rfl
theorem b52_go (K : Fn 5) (kx : Nat → Fn 5) (kr : Fn 5) (v0 v1 v2 v3 v4 x y v1' : V) (S : St) (h1 : ∀ c, pMul v1 v1 c = c x) (h2 : ∀ c, pLeq x v0 c = c (.b true)) (h3 : ∀ c, pRem v0 v1 c = c y) (h4 : ∀ c, pEql y (.i .i64 0) c = c (.b false)) (h5 : ∀ c, pAdd v1 (.i .i64 1) c = c v1') :
    B52 K kx kr v0 v1 v2 v3 v4 S = K v0 v1' (.b true) (.b false) v4 S := by
  simp only [B52, cSeq, cReg, cCond, cBlock, cSkip, cExit, cRet, h1, h2, h3, h4, h5, pIf_t, pIf_f]
theorem b52_div (K : Fn 5) (kx : Nat → Fn 5) (kr : Fn 5) (v0 v1 v2 v3 v4 x y : V) (S : St) (h1 : ∀ c, pMul v1 v1 c = c x) (h2 : ∀ c, pLeq x v0 c = c (.b true)) (h3 : ∀ c, pRem v0 v1 c = c y) (h4 : ∀ c, pEql y (.i .i64 0) c = c (.b true)) :
    B52 K kx kr v0 v1 v2 v3 v4 S = kr v0 v1 (.b true) (.b true) (.b false) S := by
  simp only [B52, cSeq, cReg, cCond, cBlock, cSkip, cExit, cRet, h1, h2, h3, h4, pIf_t, pIf_f]
theorem b52_no (K : Fn 5) (kx : Nat → Fn 5) (kr : Fn 5) (v0 v1 v2 v3 v4 x : V) (S : St) (h1 : ∀ c, pMul v1 v1 c = c x) (h2 : ∀ c, pLeq x v0 c = c (.b false)) :
    B52 K kx kr v0 v1 v2 v3 v4 S = kx 0 v0 v1 (.b false) v3 v4 S := by
  simp only [B52, cSeq, cReg, cCond, cBlock, cSkip, cExit, cRet, h1, h2, pIf_t, pIf_f]
theorem loop52 (n : Nat) (h2 : 2 ≤ n) (hn : n < 100000) (kx : Nat → Fn 5) (k : Cont) (hk : ∀ v0 v1 v2 v3 S, pGtr v0 (.i .i64 1) (fun a0 => k a0 S) = kx 0 v0 v1 v2 v3 (.b false) S) (S : St) : ∀ (N d : Nat) (v2 v3 : V), 2 ≤ d → 500 ≤ d + N → d < 400 → (∀ e, 2 ≤ e → e < d → ¬ e ∣ n) →
    loopN B52 kx (fun v0 v1 v2 v3 v4 S => k v4 S) N (ii n) (ii d) v2 v3 (.b false) S = k (.b (isP n)) S
  | 0, d, v2, v3, hd, h3, h4, hno => by omega
  | N + 1, d, v2, v3, hd, h3, h4, hno => by
    have hdd : d * d < 200000 := by
      calc d * d ≤ 399 * d := Nat.mul_le_mul_right _ (by omega)
        _ ≤ 399 * 399 := Nat.mul_le_mul_left _ (by omega)
        _ < _ := by decide
    have e1 : ∀ c, pMul (ii d) (ii d) c = c (ii (d * d)) := fun c => mul_n (by omega) c
    have e3 : ∀ c, pRem (ii n) (ii d) c = c (ii (n % d)) := fun c => rem_n (by omega) (by omega) (by omega) c
    rw [loopN_sucP]
    by_cases hc : d * d ≤ n
    · have hd3 : d < 317 := by
        rcases Nat.lt_or_ge d 317 with h | h
        · exact h
        · have : 317 * 317 ≤ d * d := Nat.mul_le_mul h h
          omega
      by_cases hm : n % d = 0
      · rw [b52_div _ _ _ _ _ _ _ _ (ii (d * d)) (ii (n % d)) S e1 (fun c => by rw [leq_n (by omega) (by omega), decide_eq_true hc]) e3 (fun c => by rw [eql_n, decide_eq_true hm])]
        have hdn : d < n := by
          have : d * 2 ≤ d * d := Nat.mul_le_mul_left _ hd
          omega
        have : isP n = false := by
          cases hp : isP n
          · rfl
          · exact absurd (Nat.dvd_of_mod_eq_zero hm) ((isP_iff.1 hp).2 d hd hdn)
        rw [this]
      · rw [b52_go _ _ _ _ _ _ _ _ (ii (d * d)) (ii (n % d)) (ii (d + 1)) S e1 (fun c => by rw [leq_n (by omega) (by omega), decide_eq_true hc]) e3 (fun c => by rw [eql_n, decide_eq_false hm]) (fun c => add_n (by omega) c)]
        exact loop52 n h2 hn kx k hk S N (d + 1) _ _ (by omega) (by omega) (by omega) fun e he hed hv => by
          rcases Nat.lt_or_ge e d with h | h
          · exact hno e he h hv
          · have : e = d := by omega
            exact hm (Nat.mod_eq_zero_of_dvd (this ▸ hv))
    · rw [b52_no _ _ _ _ _ _ _ _ (ii (d * d)) S e1 (fun c => by rw [leq_n (by omega) (by omega), decide_eq_false hc]), ← hk, gtr_n (by omega) (by omega), decide_eq_true (by omega), isP_iff.2 (primeN_of h2 hno (by omega))]
theorem f52_ok {n : Nat} (h2 : 2 ≤ n) (hn : n < 100000) (S : St) (k : Cont) : F52 (ii n) S k = k (.b (isP n)) S := by
  have h : ∀ (B E : CS 5) (kn : Fn 5) (kx : Nat → Fn 5) (kr : Fn 5), cSeq A52 (cSeq (cSeq A52b B) E) kn kx kr (ii n) .other .other .other .other S = B (E kn kx kr) kx kr (ii n) (ii 2) .other .other (.b false) S := fun B E kn kx kr => rfl
  unfold F52 G52
  rw [C52_eq, h]
  obtain ⟨kx', h1, h2'⟩ := block_loop B52 (E52 (fun v0 v1 v2 v3 v4 S => k v4 S) (fun _ => bot 5) (fun v0 v1 v2 v3 v4 S => k v4 S)) (fun _ => bot 5) (fun v0 v1 v2 v3 v4 S => k v4 S)
  rw [h2']
  exact loop52 n h2 hn kx' k (fun v0 v1 v2 v3 S => by rw [h1]; rfl) S 1000000 2 _ _ (by omega) (by omega) (by omega) fun e a b => by omega

/-- the permitted primes -/
def pB (n : Nat) : Bool := decide (2 ≤ n ∧ n ≤ 65521 ∧ isP n = true)
theorem f13_lo (v : V) (S : St) (k : Cont) (h : ∀ c, pGeq v (nn 2) c = c (.b false)) : F13 v S k = k (.b false) S := by
  simp only [F13, G13, C13, cSeq, cReg, cRet, h, pGd_ft, pPick_f]
theorem f13_hi (v : V) (S : St) (k : Cont) (h : ∀ c, pGeq v (nn 2) c = c (.b true)) (h2 : ∀ c, pLeq v (nn 65521) c = c (.b false)) : F13 v S k = k (.b false) S := by
  simp only [F13, G13, C13, cSeq, cReg, cRet, h, h2, pGd_tt, pGd_ft, pPick_t, pPick_f]
theorem f13_in (v : V) (b : Bool) (S : St) (k : Cont) (h : ∀ c, pGeq v (nn 2) c = c (.b true)) (h2 : ∀ c, pLeq v (nn 65521) c = c (.b true)) (h3 : ∀ c : Cont, F52 v S c = c (.b b) S) : F13 v S k = k (.b b) S := by
  simp only [F13, G13, C13, cSeq, cReg, cRet, h, h2, h3, pGd_tt, pGd_ft, pPick_t, pPick_f]
theorem sh_n {n : Nat} (hs : n < 9223372036854775808) : sh .i64 n = n + 9223372036854775808 := by
  show (n + 9223372036854775808) % 18446744073709551616 = _
  omega
theorem sh_m {n : Nat} (h1 : 9223372036854775808 ≤ n) (hn : n < 18446744073709551616) : sh .i64 n = n - 9223372036854775808 := by
  show (n + 9223372036854775808) % 18446744073709551616 = _
  omega
theorem f13_ok {n : Nat} (hn : n < 18446744073709551616) (S : St) (k : Cont) : F13 (nn n) S k = k (.b (pB n)) S := by
  by_cases hs : n < 9223372036854775808
  · by_cases ha : 2 ≤ n
    · have e1 : ∀ c, pGeq (nn n) (nn 2) c = c (.b true) := fun c => by rw [geq_n hs (by omega), decide_eq_true ha]
      by_cases hb : n ≤ 65521
      · rw [f13_in (nn n) (isP n) S k e1 (fun c => by rw [leq_n hs (by omega), decide_eq_true hb]) (fun c => f52_ok (by omega) (by omega) S c)]
        unfold pB
        cases hp : isP n
        · rw [decide_eq_false (by rintro ⟨_, _, h⟩; cases h)]
        · rw [decide_eq_true ⟨by omega, by omega, rfl⟩]
      · rw [f13_hi (nn n) S k e1 (fun c => by rw [leq_n hs (by omega), decide_eq_false hb]), pB, decide_eq_false (by omega)]
    · rw [f13_lo (nn n) S k (fun c => by rw [geq_n hs (by omega), decide_eq_false ha]), pB, decide_eq_false (by omega)]
  · rw [f13_lo (nn n) S k (fun c => by rw [pGeq_i, sh_m (by omega) hn, sh_n (by omega), ble_eq, decide_eq_false (by omega)]), pB, decide_eq_false (by omega)]
/- polymod.prime, Check of no polynomial, modfactor.permitted -/
def F113x : Gn 1 := G113 (C113 F147p)
theorem K113x : FOK Tryz.prog 113 (un 1 F113x) := fokP (.cons K147p .nil) .nil hm Tryz.func113 (by kernel_rfl) (D113 F147p) (H113 _)
section
variable (v : V) (S : St) (k : Cont)
theorem f113_lo (h : ∀ c, pLss v (nn 2) c = c (.b true)) : F113x v S k = k (nn 7) S := by
  simp only [F113x, G113, C113, cSeq, cReg, cCond, cRet, h, pGd_tf, pPick_t, ifT, pGd_uf]
theorem f113_hi (h : ∀ c, pLss v (nn 2) c = c (.b false)) (h2 : ∀ c, pGtr v (nn 65521) c = c (.b true)) : F113x v S k = k (nn 7) S := by
  simp only [F113x, G113, C113, cSeq, cReg, cCond, cRet, h, h2, pGd_ff, pPick_f, ifT]
theorem f113_np (h : ∀ c, pLss v (nn 2) c = c (.b false)) (h2 : ∀ c, pGtr v (nn 65521) c = c (.b false)) (h3 : ∀ c : Cont, F147p v S c = c (.tu [.b false, nn 0]) S) : F113x v S k = k (nn 7) S := by
  have e : ∀ c, pNeq (nn 0) (nn 0) c = c (.b false) := fun c => by rfl
  simp only [F113x, G113, C113, cSeq, cReg, cCond, cSkip, cRet, h, h2, h3, e, ext0, ext1, pNot_f, pGd_ff, pPick_f, ifT, ifF]
theorem f113_p (h : ∀ c, pLss v (nn 2) c = c (.b false)) (h2 : ∀ c, pGtr v (nn 65521) c = c (.b false)) (h3 : ∀ c : Cont, F147p v S c = c (.tu [.b true, nn 0]) S) : F113x v S k = k (nn 0) S := by
  have e : ∀ c, pNeq (nn 0) (nn 0) c = c (.b false) := fun c => by rfl
  simp only [F113x, G113, C113, cSeq, cReg, cCond, cSkip, cRet, h, h2, h3, e, ext0, ext1, pNot_t, pGd_ff, pPick_f, ifF]
end
theorem f113_ok {n : Nat} (hn : n < 18446744073709551616) (S : St) (k : Cont) : F113x (nn n) S k = k (nn (if pB n = true then 0 else 7)) S := by
  unfold pB
  by_cases hs : n < 9223372036854775808
  · by_cases ha : 2 ≤ n
    · have e1 : ∀ c, pLss (nn n) (nn 2) c = c (.b false) := fun c => by rw [lss_n hs (by omega), decide_eq_false (by omega)]
      by_cases hb : n ≤ 65521
      · have e2 : ∀ c, pGtr (nn n) (nn 65521) c = c (.b false) := fun c => by rw [gtr_n hs (by omega), decide_eq_false (by omega)]
        have e3 : ∀ c : Cont, F147p (nn n) S c = c (.tu [.b (isP n), nn 0]) S := fun c => F147p_eq ha (by omega) S c
        cases hp : isP n with
        | false => rw [hp] at e3; rw [f113_np _ S k e1 e2 e3, if_neg (by simp)]
        | true => rw [hp] at e3; rw [f113_p _ S k e1 e2 e3, if_pos (by simp [ha, hb])]
      · rw [f113_hi _ S k e1 (fun c => by rw [gtr_n hs (by omega), decide_eq_true (by omega)]), if_neg (by simp; omega)]
    · rw [f113_lo _ S k (fun c => by rw [lss_n hs (by omega), decide_eq_true (by omega)]), if_neg (by simp; omega)]
  · rw [f113_lo _ S k (fun c => by rw [pLss_i, sh_m (by omega) hn, sh_n (by omega), blt_eq, decide_eq_true (by omega)]), if_neg (by simp; omega)]
end
end Go.AM

/- polymod.Check and galoisref09.Check of a row: pure texts. -/
namespace Go.AM
open Go.Proofs
set_option linter.unusedVariables false
set_option linter.unusedSimpArgs false
set_option maxRecDepth 100000
noncomputable section
variable {S : St}
def L148_0 (t : List (Nat × Fun)) : CS 8 := (cSeq (cReg fun kn A B C D E F G H S => pLss C D (fun a0 => kn A B C D a0 F G H S)) (cSeq (cCond (fun x y A B C D E F G H S => pIf E (x A B C D E F G H S) (y A B C D E F G H S)) cSkip (cExit 0)) (cSeq (cBlock 1 (cSeq (cReg fun kn A B C D E F G H S => kn A B C D E C G H S) (cSeq (cReg fun kn A B C D E F G H S => pIdx 1 A F (fun a0 => pLd a0 S (fun a1 => pCallv t B [a1] S (fun a2 S => kn A B C D E F a2 H S)))) (cCond (fun x y A B C D E F G H S => pIf G (x A B C D E F G H S) (y A B C D E F G H S)) (cSeq (cReg fun kn A B C D E F G H S => kn A B C D E F G F S) cRet) cSkip)))) (cReg fun kn A B C D E F G H S => pAdd C (.i .i64 1) (fun a0 => kn A B a0 D E F G H S)))))
def H148_ (I0 : CS 8) : CS 8 := (cSeq (cReg fun kn A B C D E F G H S => kn A B C D E F G (.i .i64 0) S) (cSeq (cSeq (cReg fun kn A B C D E F G H S => pLen A (fun a0 => kn A B (.i .i64 0) a0 E F G H S)) I0) (cSeq (cReg fun kn A B C D E F G H S => kn A B C D E F G (.i .i64 18446744073709551615) S) cRet)))
theorem C148_eq (t : List (Nat × Fun)) : C148 t = H148_ (cBlock 0 (cLoop (L148_0 t))) := by rfl
-- p0 p1  | A B v2 D E F G H
def L1064_0 : CS 9 := (cSeq (cSeq (cReg fun kn A B C D E F G H I S => pLen B (fun a0 => pLss E a0 (fun a1 => kn A B C D E a1 G H I S))) (cCond (fun x y A B C D E F G H I S => pIf F (x A B C D E F G H I S) (y A B C D E F G H I S)) cSkip (cExit 0))) (cSeq (cBlock 1 (cSeq (cReg fun kn A B C D E F G H I S => pIdx 1 B E (fun a0 => pLd a0 S (fun a1 => pLss a1 (.i .i64 0) (fun a2 => pGd a2 false (fun c => c B S) S (fun a3 S => pGd a2 false (fun c => c E S) S (fun a4 S => pGd a2 false (fun c => pIdx 1 a3 a4 (fun v => c v S)) S (fun a5 S => pGd a2 false (fun c => pLd a5 S (fun v => c v S)) S (fun a6 S => pGd a2 false (fun c => c A S) S (fun a7 S => pGd a2 false (fun c => pGeq a6 a7 (fun v => c v S)) S (fun a8 S => pPick a2 (.b true) a8 (fun a9 => kn A B C D E F a9 H I S))))))))))) (cCond (fun x y A B C D E F G H I S => pIf G (x A B C D E F G H I S) (y A B C D E F G H I S)) (cSeq (cReg fun kn A B C D E F G H I S => kn A B C D E F G H (.i .i64 1) S) cRet) cSkip))) (cReg fun kn A B C D E F G H I S => pAdd E (.i .i64 1) (fun a0 => kn A B C D a0 F G H I S))))
def H1064_ (f13 : Gn 1) (I0 : CS 9) : CS 9 := (cSeq (cReg fun kn A B C D E F G H I S => kn A B C D E F G H (.i .i64 0) S) (cSeq (cSeq (cReg fun kn A B C D E F G H I S => f13 A S (fun a0 S => pNot a0 (fun a1 => kn A B a1 D E F G H I S))) (cCond (fun x y A B C D E F G H I S => pIf C (x A B C D E F G H I S) (y A B C D E F G H I S)) (cSeq (cReg fun kn A B C D E F G H I S => kn A B C D E F G H (.i .i64 7) S) cRet) cSkip)) (cSeq (cSeq (cReg fun kn A B C D E F G H I S => pLen B (fun a0 => pGtr a0 (.i .i64 65) (fun a1 => kn A B C a1 E F G H I S))) (cCond (fun x y A B C D E F G H I S => pIf D (x A B C D E F G H I S) (y A B C D E F G H I S)) (cSeq (cReg fun kn A B C D E F G H I S => kn A B C D E F G H (.i .i64 4) S) cRet) cSkip)) (cSeq (cSeq (cReg fun kn A B C D E F G H I S => kn A B C D (.i .i64 0) F G H I S) I0) (cSeq (cSeq (cReg fun kn A B C D E F G H I S => pLen B (fun a0 => pGtr a0 (.i .i64 0) (fun a1 => pGd a1 true (fun c => c B S) S (fun a2 S => pGd a1 true (fun c => c B S) S (fun a3 S => pGd a1 true (fun c => pLen a3 (fun v => c v S)) S (fun a4 S => pGd a1 true (fun c => pSub a4 (.i .i64 1) (fun v => c v S)) S (fun a5 S => pGd a1 true (fun c => pIdx 1 a2 a5 (fun v => c v S)) S (fun a6 S => pGd a1 true (fun c => pLd a6 S (fun v => c v S)) S (fun a7 S => pGd a1 true (fun c => pEql a7 (.i .i64 0) (fun v => c v S)) S (fun a8 S => pPick a1 a8 (.b false) (fun a9 => kn A B C D E F G a9 I S))))))))))) (cCond (fun x y A B C D E F G H I S => pIf H (x A B C D E F G H I S) (y A B C D E F G H I S)) (cSeq (cReg fun kn A B C D E F G H I S => kn A B C D E F G H (.i .i64 1) S) cRet) cSkip)) (cSeq (cReg fun kn A B C D E F G H I S => kn A B C D E F G H (.i .i64 0) S) cRet))))))
theorem C1064_eq (f13 : Gn 1) : C1064 f13 = H1064_ f13 (cBlock 0 (cLoop L1064_0)) := by rfl
-- p0 p1  | A B v2 D E F G H I
section
variable (t : List (Nat × Fun)) (K : Fn 8) (kx : Nat → Fn 8) (kr : Fn 8) (A B C D E F G H q x c' : V) (S : St)
theorem l148_end (h1 : ∀ c, pLss C D c = c (.b false)) : L148_0 t K kx kr A B C D E F G H S = kx 0 A B C D (.b false) F G H S := by
  simp only [L148_0, cSeq, cReg, cCond, cBlock, cSkip, cExit, cRet, h1, ifF]
theorem l148_hit (h1 : ∀ c, pLss C D c = c (.b true)) (h2 : ∀ c, pIdx 1 A C c = c q) (h3 : ∀ c, pLd q S c = c x) (h4 : ∀ c : Cont, pCallv t B [x] S c = c (.b true) S) : L148_0 t K kx kr A B C D E F G H S = kr A B C D (.b true) C (.b true) C S := by
  simp only [L148_0, cSeq, cReg, cCond, cBlock, cSkip, cExit, cRet, h1, h2, h3, h4, ifT]
theorem l148_go (h1 : ∀ c, pLss C D c = c (.b true)) (h2 : ∀ c, pIdx 1 A C c = c q) (h3 : ∀ c, pLd q S c = c x) (h4 : ∀ c : Cont, pCallv t B [x] S c = c (.b false) S) (h5 : ∀ c, pAdd C (nn 1) c = c c') : L148_0 t K kx kr A B C D E F G H S = K A B c' D (.b true) C (.b false) H S := by
  simp only [L148_0, cSeq, cReg, cCond, cBlock, cSkip, cExit, cRet, h1, h2, h3, h4, h5, ifT, ifF]
theorem h148_all (I0 : CS 8) (kr : Fn 8) (n r : V) (h1 : ∀ c, pLen A c = c n) (hL : ∀ (kn : Fn 8) (kx : Nat → Fn 8), I0 kn kx kr A B (nn 0) n E F G (nn 0) S = kr A B C D E F G r S) : H148_ I0 K kx kr A B C D E F G H S = kr A B C D E F G r S := by
  simp only [H148_, cSeq, cReg, cCond, cBlock, cSkip, cExit, cRet, h1, hL]
theorem h148_none (I0 : CS 8) (n c2 e2 f2 g2 : V) (h1 : ∀ c, pLen A c = c n) (hL : ∀ (kn : Fn 8) (kx : Nat → Fn 8) (kr : Fn 8), I0 kn kx kr A B (nn 0) n E F G (nn 0) S = kn A B c2 n e2 f2 g2 (nn 0) S) : H148_ I0 K kx kr A B C D E F G H S = kr A B c2 n e2 f2 g2 (nn 18446744073709551615) S := by
  simp only [H148_, cSeq, cReg, cCond, cBlock, cSkip, cExit, cRet, h1, hL]
end
theorem callv115 (x b : V) (S : St) (k : Cont) : pCallv T148 (.f 115 [b]) [x] S k = F115 x b S k := by rfl
theorem f115_lo {x b : V} {S : St} {k : Cont} (h1 : ∀ c, pLss x (nn 0) c = c (.b true)) : F115 x b S k = k (.b true) S := by
  simp only [F115, G115, C115, cSeq, cReg, cRet, h1, pGd_tf, pPick_t]
theorem f115_hi {x b p : V} {r : Bool} {S : St} {k : Cont} (h1 : ∀ c, pLss x (nn 0) c = c (.b false)) (h2 : ∀ c, pLd b S c = c p) (h3 : ∀ c, pGeq x p c = c (.b r)) : F115 x b S k = k (.b r) S := by
  simp only [F115, G115, C115, cSeq, cReg, cRet, h1, h2, h3, pGd_ff, pPick_f]
theorem f115_ok {x p : Nat} {b : V} (hx : x < 18446744073709551616) (hp : p < 9223372036854775808) (hb : ∀ c, pLd b S c = c (nn p)) (k : Cont) : F115 (nn x) b S k = k (.b (outB p x)) S := by
  unfold outB
  rcases Nat.lt_or_ge x 9223372036854775808 with h | h
  · rw [f115_hi (p := nn p) (r := decide (p ≤ x)) (fun c => by rw [lss_s hx (by omega), decide_eq_false (by omega)]) hb (fun c => geq_n h hp c)]
  · rw [f115_lo (fun c => by rw [lss_s hx (by omega), decide_eq_true (by omega)]), decide_eq_true (by omega)]
theorem loop148 {v b : V} {l : List Nat} {p : Nat} (h : Row S v l) (hl : l.length ≤ 500000) (w : W64 l) (hp : p < 9223372036854775808) (hb : ∀ c, pLd b S c = c (nn p)) : ∀ (N i : Nat) (E F G H : V), i ≤ l.length → l.length < N + i →
    (∃ j, j < l.length ∧ (l.drop i).any (outB p) = true ∧ ∀ (kx : Nat → Fn 8) (k : Cont), loopN (L148_0 T148) kx (fun A B v2 D E F G H S => k H S) N v (.f 115 [b]) (nn i) (nn l.length) E F G H S = k (nn j) S) ∨
    ((l.drop i).any (outB p) = false ∧ ∃ e2 f2 g2, ∀ (kx : Nat → Fn 8) (kr : Fn 8), loopN (L148_0 T148) kx kr N v (.f 115 [b]) (nn i) (nn l.length) E F G H S = kx 0 v (.f 115 [b]) (nn l.length) (nn l.length) e2 f2 g2 H S)
  | 0, i, E, F, G, H, h1, h2 => by omega
  | N + 1, i, E, F, G, H, h1, h2 => by
    by_cases hi : i < l.length
    · have hg := getD_of hi
      obtain ⟨q, q1, q2⟩ := h.get hg (by omega)
      have hx := w.get hi
      have g1 : ∀ c, pLss (nn i) (nn l.length) c = c (.b true) := fun c => by rw [lss_n (by omega) (by omega), decide_eq_true hi]
      have hd : (l.drop i).any (outB p) = (outB p (l.getD i 0) || (l.drop (i + 1)).any (outB p)) := by
        rw [List.drop_eq_getElem_cons hi, List.any_cons, List.getD_eq_getElem?_getD, List.getElem?_eq_getElem hi]; rfl
      cases ho : outB p (l.getD i 0) with
      | true =>
        refine .inl ⟨i, hi, by rw [hd, ho, Bool.true_or], fun kx k => ?_⟩
        rw [loopN_succ, l148_hit (h1 := g1) (h2 := q1) (h3 := q2) (h4 := fun c => by rw [callv115, f115_ok hx hp hb, ho])]
      | false =>
        have g4 : ∀ c : Cont, pCallv T148 (.f 115 [b]) [nn (l.getD i 0)] S c = c (.b false) S := fun c => by rw [callv115, f115_ok hx hp hb, ho]
        rcases loop148 h hl w hp hb N (i + 1) (.b true) (nn i) (.b false) H (by omega) (by omega) with ⟨j, j1, j2, j3⟩ | ⟨j1, e2, f2, g2, j2⟩
        · refine .inl ⟨j, j1, by rw [hd, j2, Bool.or_true], fun kx k => ?_⟩
          rw [loopN_succ, l148_go (h1 := g1) (h2 := q1) (h3 := q2) (h4 := g4) (h5 := fun c => add_n (by omega) c)]
          exact j3 kx k
        · refine .inr ⟨by rw [hd, j1, ho]; rfl, e2, f2, g2, fun kx kr => ?_⟩
          rw [loopN_succ, l148_go (h1 := g1) (h2 := q1) (h3 := q2) (h4 := g4) (h5 := fun c => add_n (by omega) c)]
          exact j2 kx kr
    · have : i = l.length := by omega
      subst this
      refine .inr ⟨by rw [List.drop_length]; rfl, .b false, F, G, fun kx kr => ?_⟩
      rw [loopN_succ, l148_end (h1 := fun c => by rw [lss_n (by omega) (by omega), decide_eq_false (by omega)])]
theorem f148_ok {v b : V} {l : List Nat} {p : Nat} (h : Row S v l) (hl : l.length ≤ 500000) (w : W64 l) (hp : p < 9223372036854775808) (hb : ∀ c, pLd b S c = c (nn p)) : ∃ r, (∀ c, pGeq r (nn 0) c = c (.b (l.any (outB p)))) ∧ ∀ k, F148 v (.f 115 [b]) S k = k r S := by
  rcases loop148 h hl w hp hb 1000000 0 .other .other .other (nn 0) (by omega) (by omega) with ⟨j, j1, j2, j3⟩ | ⟨j1, e2, f2, g2, j2⟩
  · refine ⟨nn j, fun c => ?_, fun k => ?_⟩
    · have j2 : l.any (outB p) = true := j2
      rw [j2, geq_n (by omega) (by omega), decide_eq_true (by omega)]
    · unfold F148 G148
      rw [C148_eq]
      exact h148_all _ _ _ _ .other .other _ _ _ _ _ _ _ (nn l.length) (nn j) (fun c => h.len (by omega) c) (fun kn kx => by
        obtain ⟨kx', e1, e2⟩ := block_loop_at 0 (L148_0 T148) kn kx (fun A B v2 D E F G H S => k H S)
        rw [e2]; exact j3 kx' k)
  · refine ⟨nn 18446744073709551615, fun c => ?_, fun k => ?_⟩
    · have j1 : l.any (outB p) = false := j1
      rw [j1]; rfl
    · unfold F148 G148
      rw [C148_eq, h148_none (c2 := nn l.length) (e2 := e2) (f2 := f2) (g2 := g2) (h1 := fun c => h.len (by omega) c) (hL := fun kn kx kr => by
        obtain ⟨kx', e1, e2⟩ := block_loop_at 0 (L148_0 T148) kn kx kr
        rw [e2, ← e1]; exact j2 kx' kr)]
theorem f114_of {v f r x : V} {k : Cont} (h1 : ∀ k, F148 v f S k = k r S) (h2 : ∀ c, pGeq r (nn 0) c = c x) : F114 v f S k = k x S := by
  simp only [F114, G114, C114, cSeq, cReg, cRet, h1, h2]
theorem f114_ok {v b : V} {l : List Nat} {p : Nat} (h : Row S v l) (hl : l.length ≤ 500000) (w : W64 l) (hp : p < 9223372036854775808) (hb : ∀ c, pLd b S c = c (nn p)) (k : Cont) : F114 v (.f 115 [b]) S k = k (.b (l.any (outB p))) S := by
  obtain ⟨r, h1, h2⟩ := f148_ok h hl w hp hb
  exact f114_of h2 h1
/-- the error of a polynomial, by its list -/
def chk (p : Nat) (l : List Nat) : Nat := if pB p = true then (if 65 < l.length then 4 else if l.any (outB p) = true then 1 else if l.length ≠ 0 ∧ l.getD (l.length - 1) 0 = 0 then 1 else 0) else 7
section
variable (f113 : Gn 1) (f114 : Gn 2) (v w b n m q x : V) (S S1 : St) (k : Cont) (h1 : ∀ c : Cont, pBox v S c = c b S1) (h2 : ∀ c, pLd b S1 c = c v)
include h1 h2
theorem f70_np (h3 : ∀ c, f113 v S1 c = c (nn 7) S1) : G70 (C70 f113 f114) v w S k = k (nn 7) S1 := by
  have e : ∀ c, pNeq (nn 7) (nn 0) c = c (.b true) := fun c => by rfl
  simp only [G70, C70, cSeq, cReg, cCond, cSkip, cRet, h1, h2, h3, e, ifT]
variable (h3 : ∀ c, f113 v S1 c = c (nn 0) S1) (h4 : ∀ c, pLen w c = c n)
include h3 h4
theorem f70_lg (h5 : ∀ c, pGtr n (nn 65) c = c (.b true)) : G70 (C70 f113 f114) v w S k = k (nn 4) S1 := by
  have e : ∀ c, pNeq (nn 0) (nn 0) c = c (.b false) := fun c => by rfl
  simp only [G70, C70, cSeq, cReg, cCond, cSkip, cRet, h1, h2, h3, h4, h5, e, ifT, ifF]
variable (h5 : ∀ c, pGtr n (nn 65) c = c (.b false))
include h5
theorem f70_out (h6 : ∀ c, f114 w (.f 115 [b]) S1 c = c (.b true) S1) : G70 (C70 f113 f114) v w S k = k (nn 1) S1 := by
  have e : ∀ c, pNeq (nn 0) (nn 0) c = c (.b false) := fun c => by rfl
  simp only [G70, C70, cSeq, cReg, cCond, cSkip, cRet, h1, h2, h3, h4, h5, h6, e, pGd_tf, pGd_uf, pGd_ut, pPick_t, ifT, ifF]
variable (h6 : ∀ c, f114 w (.f 115 [b]) S1 c = c (.b false) S1)
include h6
theorem f70_nil (h7 : ∀ c, pGtr n (nn 0) c = c (.b false)) : G70 (C70 f113 f114) v w S k = k (nn 0) S1 := by
  have e : ∀ c, pNeq (nn 0) (nn 0) c = c (.b false) := fun c => by rfl
  simp only [G70, C70, cSeq, cReg, cCond, cSkip, cRet, h1, h2, h3, h4, h5, h6, h7, e, pGd_ff, pGd_ft, pPick_f, ifF]
variable (h7 : ∀ c, pGtr n (nn 0) c = c (.b true)) (h8 : ∀ c, pSub n (nn 1) c = c m) (h9 : ∀ c, pIdx 1 w m c = c q) (h10 : ∀ c, pLd q S1 c = c x)
include h7 h8 h9 h10
theorem f70_last (h11 : ∀ c, pEql x (nn 0) c = c (.b true)) : G70 (C70 f113 f114) v w S k = k (nn 1) S1 := by
  have e : ∀ c, pNeq (nn 0) (nn 0) c = c (.b false) := fun c => by rfl
  simp only [G70, C70, cSeq, cReg, cCond, cSkip, cRet, h1, h2, h3, h4, h5, h6, h7, h8, h9, h10, h11, e, pGd_ff, pGd_tt, pPick_t, pPick_f, ifT, ifF]
theorem f70_fit (h11 : ∀ c, pEql x (nn 0) c = c (.b false)) : G70 (C70 f113 f114) v w S k = k (nn 0) S1 := by
  have e : ∀ c, pNeq (nn 0) (nn 0) c = c (.b false) := fun c => by rfl
  simp only [G70, C70, cSeq, cReg, cCond, cSkip, cRet, h1, h2, h3, h4, h5, h6, h7, h8, h9, h10, h11, e, pGd_ff, pGd_tt, pPick_t, pPick_f, ifF]
end
def F70x : Gn 2 := G70 (C70 F113x F114)
theorem K70x : FOK Tryz.prog 70 (un 2 F70x) := fokP (.cons K113x (.cons K114 .nil)) .nil hm Tryz.func70 (by kernel_rfl) (D70 F113x F114) (H70 _)
theorem pB_lt {p : Nat} (h : pB p = true) : 2 ≤ p ∧ p < 65536 := by
  have := of_decide_eq_true h
  omega
theorem f70_ok (ok : SOK S) {p : Nat} (hp : p < 18446744073709551616) {v : V} {l : List Nat} (h : Row S v l) (hl : l.length ≤ 500000) (w : W64 l) : ∃ S', Stp S S' ∧ ∀ k, F70x (nn p) v S k = k (nn (chk p l)) S' := by
  have st := Stp.new ok [nn p]
  have h1 : ∀ c : Cont, pBox (nn p) S c = c (.p S.nx 0) (S.new [nn p]) := fun c => pBox_eq (cellsK_i _ _) S c
  have h2 : ∀ c, pLd (.p S.nx 0) (S.new [nn p]) c = c (nn p) := fun c => pLd_eq (St.new_get _ _) (by rfl) c
  have hr := st.row ok h
  have h3 := f113_ok hp (S.new [nn p])
  refine ⟨_, st, fun k => ?_⟩
  generalize S.new [nn p] = S1 at h1 h2 h3 hr
  have h4 := hr.len (by omega)
  unfold F70x chk
  by_cases hb : pB p = true
  · rw [if_pos hb] at h3 ⊢
    have hpl := pB_lt hb
    have h6 := fun c => f114_ok hr hl w (p := p) (by omega) h2 c
    by_cases h5 : 65 < l.length
    · rw [if_pos h5]
      exact f70_lg F113x F114 _ _ _ _ S S1 k h1 h2 h3 h4 (fun c => by rw [gtr_n (by omega) (by omega), decide_eq_true h5])
    · rw [if_neg h5]
      have h5' : ∀ c, pGtr (nn l.length) (nn 65) c = c (.b false) := fun c => by rw [gtr_n (by omega) (by omega), decide_eq_false h5]
      cases ha : l.any (outB p) with
      | true => rw [ha] at h6; rw [if_pos rfl]; exact f70_out F113x F114 _ _ _ _ S S1 k h1 h2 h3 h4 h5' h6
      | false =>
        rw [ha] at h6; rw [if_neg (by simp)]
        by_cases h0 : l.length = 0
        · rw [if_neg (by simp [h0])]
          exact f70_nil F113x F114 _ _ _ _ S S1 k h1 h2 h3 h4 h5' h6 (fun c => by rw [h0]; rfl)
        · have hg := getD_of (l := l) (i := l.length - 1) (by omega)
          obtain ⟨q, q1, q2⟩ := hr.get hg (by omega)
          have h7 : ∀ c, pGtr (nn l.length) (nn 0) c = c (.b true) := fun c => by rw [gtr_n (by omega) (by omega), decide_eq_true (by omega)]
          have h8 := fun c => sub_n (a := l.length) (b := 1) (by omega) (by omega) c
          by_cases hz : l.getD (l.length - 1) 0 = 0
          · rw [if_pos ⟨h0, hz⟩]
            exact f70_last F113x F114 _ _ _ _ _ _ _ S S1 k h1 h2 h3 h4 h5' h6 h7 h8 q1 q2 (fun c => by rw [eql_n, decide_eq_true hz])
          · rw [if_neg (fun e => hz e.2)]
            exact f70_fit F113x F114 _ _ _ _ _ _ _ S S1 k h1 h2 h3 h4 h5' h6 h7 h8 q1 q2 (fun c => by rw [eql_n, decide_eq_false hz])
  · rw [if_neg hb] at h3 ⊢
    exact f70_np F113x F114 _ _ _ S S1 k h1 h2 h3
def F45x : Gn 1 := G45 (C45 F70x)
theorem K45x : FOK Tryz.prog 45 (un 1 F45x) := fokP (.cons K70x .nil) .nil hm Tryz.func45 (by kernel_rfl) (D45 F70x) (H45 _)
theorem f45_go (f70 : Gn 2) (v a : V) (b : Bool) (S S1 : St) (k : Cont) (h1 : ∀ c, f70 v .sn S c = c a S1) (h2 : ∀ c, pEql a (nn 0) c = c (.b b)) : G45 (C45 f70) v S k = k (.b b) S1 := by
  simp only [G45, C45, cSeq, cReg, cRet, h1, h2]
theorem f45_ok (ok : SOK S) {n : Nat} (hn : n < 18446744073709551616) : ∃ S', Stp S S' ∧ ∀ k, F45x (nn n) S k = k (.b (pB n)) S' := by
  obtain ⟨S', st, h⟩ := f70_ok ok hn (v := .sn) (l := []) rfl (by simp) (fun x hx => by simp at hx)
  refine ⟨S', st, fun k => f45_go F70x _ _ _ S S' k h (fun c => ?_)⟩
  unfold chk
  cases hb : pB n with
  | true => rw [if_pos rfl, if_neg (by simp), if_neg (by simp), if_neg (by simp), eql_n]; rfl
  | false => rw [if_neg (by simp), eql_n]; rfl
end
end Go.AM

/- galoisref09.Check, Trim, Mul, Power of rows: pure texts. -/
namespace Go.AM
open Go.Proofs
set_option linter.unusedVariables false
set_option linter.unusedSimpArgs false
set_option maxRecDepth 100000
noncomputable section
variable {S : St}
section
variable (K : Fn 9) (kx : Nat → Fn 9) (kr : Fn 9) (A B C D E F G H I n q x c' : V) (S : St)
theorem l1064_end (h0 : ∀ c, pLen B c = c n) (h1 : ∀ c, pLss E n c = c (.b false)) : L1064_0 K kx kr A B C D E F G H I S = kx 0 A B C D E (.b false) G H I S := by
  simp only [L1064_0, cSeq, cReg, cCond, cBlock, cSkip, cExit, cRet, h0, h1, ifF]
variable (h0 : ∀ c, pLen B c = c n) (h1 : ∀ c, pLss E n c = c (.b true)) (h2 : ∀ c, pIdx 1 B E c = c q) (h3 : ∀ c, pLd q S c = c x)
include h0 h1 h2 h3
theorem l1064_lo (h4 : ∀ c, pLss x (nn 0) c = c (.b true)) : L1064_0 K kx kr A B C D E F G H I S = kr A B C D E (.b true) (.b true) H (nn 1) S := by
  simp only [L1064_0, cSeq, cReg, cCond, cBlock, cSkip, cExit, cRet, h0, h1, h2, h3, h4, pGd_tf, pPick_t, ifT]
theorem l1064_hi (h4 : ∀ c, pLss x (nn 0) c = c (.b false)) (h5 : ∀ c, pGeq x A c = c (.b true)) : L1064_0 K kx kr A B C D E F G H I S = kr A B C D E (.b true) (.b true) H (nn 1) S := by
  simp only [L1064_0, cSeq, cReg, cCond, cBlock, cSkip, cExit, cRet, h0, h1, h2, h3, h4, h5, pGd_ff, pPick_f, ifT]
theorem l1064_go (h4 : ∀ c, pLss x (nn 0) c = c (.b false)) (h5 : ∀ c, pGeq x A c = c (.b false)) (h6 : ∀ c, pAdd E (nn 1) c = c c') : L1064_0 K kx kr A B C D E F G H I S = K A B C D c' (.b true) (.b false) H I S := by
  simp only [L1064_0, cSeq, cReg, cCond, cBlock, cSkip, cExit, cRet, h0, h1, h2, h3, h4, h5, h6, pGd_ff, pPick_f, ifT, ifF]
end
section
variable (f13 : Gn 1) (I0 : CS 9) (K : Fn 9) (kx : Nat → Fn 9) (kr : Fn 9) (A B C D E F G H I n m q x e2 f2 g2 : V) (S : St)
theorem h1064_np (h1 : ∀ c, f13 A S c = c (.b false) S) : H1064_ f13 I0 K kx kr A B C D E F G H I S = kr A B (.b true) D E F G H (nn 7) S := by
  simp only [H1064_, cSeq, cReg, cCond, cBlock, cSkip, cExit, cRet, h1, pNot_f, ifT]
variable (h1 : ∀ c, f13 A S c = c (.b true) S) (h2 : ∀ c, pLen B c = c n)
include h1 h2
theorem h1064_lg (h3 : ∀ c, pGtr n (nn 65) c = c (.b true)) : H1064_ f13 I0 K kx kr A B C D E F G H I S = kr A B (.b false) (.b true) E F G H (nn 4) S := by
  simp only [H1064_, cSeq, cReg, cCond, cBlock, cSkip, cExit, cRet, h1, h2, h3, pNot_t, ifT, ifF]
variable (h3 : ∀ c, pGtr n (nn 65) c = c (.b false))
include h3
theorem h1064_out (hL : ∀ (kn : Fn 9) (kx : Nat → Fn 9), I0 kn kx kr A B (.b false) (.b false) (nn 0) F G H (nn 0) S = kr A B (.b false) (.b false) e2 f2 g2 H (nn 1) S) : H1064_ f13 I0 K kx kr A B C D E F G H I S = kr A B (.b false) (.b false) e2 f2 g2 H (nn 1) S := by
  simp only [H1064_, cSeq, cReg, cCond, cBlock, cSkip, cExit, cRet, h1, h2, h3, hL, pNot_t, ifF]
variable (hL : ∀ (kn : Fn 9) (kx : Nat → Fn 9) (kr : Fn 9), I0 kn kx kr A B (.b false) (.b false) (nn 0) F G H (nn 0) S = kn A B (.b false) (.b false) e2 f2 g2 H (nn 0) S)
include hL
theorem h1064_nil (h4 : ∀ c, pGtr n (nn 0) c = c (.b false)) : H1064_ f13 I0 K kx kr A B C D E F G H I S = kr A B (.b false) (.b false) e2 f2 g2 (.b false) (nn 0) S := by
  simp only [H1064_, cSeq, cReg, cCond, cBlock, cSkip, cExit, cRet, h1, h2, h3, hL, h4, pNot_t, pGd_ft, pPick_f, ifF]
variable (h4 : ∀ c, pGtr n (nn 0) c = c (.b true)) (h5 : ∀ c, pSub n (nn 1) c = c m) (h6 : ∀ c, pIdx 1 B m c = c q) (h7 : ∀ c, pLd q S c = c x)
include h4 h5 h6 h7
theorem h1064_last (h8 : ∀ c, pEql x (nn 0) c = c (.b true)) : H1064_ f13 I0 K kx kr A B C D E F G H I S = kr A B (.b false) (.b false) e2 f2 g2 (.b true) (nn 1) S := by
  simp only [H1064_, cSeq, cReg, cCond, cBlock, cSkip, cExit, cRet, h1, h2, h3, hL, h4, h5, h6, h7, h8, pNot_t, pGd_tt, pPick_t, ifT, ifF]
theorem h1064_fit (h8 : ∀ c, pEql x (nn 0) c = c (.b false)) : H1064_ f13 I0 K kx kr A B C D E F G H I S = kr A B (.b false) (.b false) e2 f2 g2 (.b false) (nn 0) S := by
  simp only [H1064_, cSeq, cReg, cCond, cBlock, cSkip, cExit, cRet, h1, h2, h3, hL, h4, h5, h6, h7, h8, pNot_t, pGd_tt, pPick_t, ifF]
end
theorem loop1064 {v : V} {l : List Nat} {p : Nat} (h : Row S v l) (hl : l.length ≤ 500000) (w : W64 l) (hp : p < 9223372036854775808) (C D H : V) : ∀ (N i : Nat) (F G : V), i ≤ l.length → l.length < N + i →
    ((l.drop i).any (outB p) = true ∧ ∃ e2 f2 g2, ∀ (kx : Nat → Fn 9) (kr : Fn 9), loopN L1064_0 kx kr N (nn p) v C D (nn i) F G H (nn 0) S = kr (nn p) v C D e2 f2 g2 H (nn 1) S) ∨
    ((l.drop i).any (outB p) = false ∧ ∃ e2 f2 g2, ∀ (kx : Nat → Fn 9) (kr : Fn 9), loopN L1064_0 kx kr N (nn p) v C D (nn i) F G H (nn 0) S = kx 0 (nn p) v C D e2 f2 g2 H (nn 0) S)
  | 0, i, F, G, h1, h2 => by omega
  | N + 1, i, F, G, h1, h2 => by
    have h0 := h.len (by omega)
    by_cases hi : i < l.length
    · have hg := getD_of hi
      obtain ⟨q, q1, q2⟩ := h.get hg (by omega)
      have hx := w.get hi
      have g1 : ∀ c, pLss (nn i) (nn l.length) c = c (.b true) := fun c => by rw [lss_n (by omega) (by omega), decide_eq_true hi]
      have hd : (l.drop i).any (outB p) = (outB p (l.getD i 0) || (l.drop (i + 1)).any (outB p)) := by
        rw [List.drop_eq_getElem_cons hi, List.any_cons, List.getD_eq_getElem?_getD, List.getElem?_eq_getElem hi]; rfl
      rcases Nat.lt_or_ge (l.getD i 0) 9223372036854775808 with hs | hs
      · have g4 : ∀ c, pLss (nn (l.getD i 0)) (nn 0) c = c (.b false) := fun c => by rw [lss_n hs (by omega), decide_eq_false (by omega)]
        by_cases ho : p ≤ l.getD i 0
        · refine .inl ⟨by rw [hd, outB, decide_eq_true ho, Bool.true_or], nn i, .b true, .b true, fun kx kr => ?_⟩
          rw [loopN_succ, l1064_hi (h0 := h0) (h1 := g1) (h2 := q1) (h3 := q2) (h4 := g4) (h5 := fun c => by rw [geq_n hs hp, decide_eq_true ho])]
        · have g5 : ∀ c, pGeq (nn (l.getD i 0)) (nn p) c = c (.b false) := fun c => by rw [geq_n hs hp, decide_eq_false ho]
          have hd : (l.drop i).any (outB p) = (l.drop (i + 1)).any (outB p) := by rw [hd, outB, decide_eq_false ho, Bool.false_or]
          rw [hd]
          have st : ∀ (kx : Nat → Fn 9) (kr : Fn 9), loopN L1064_0 kx kr (N + 1) (nn p) v C D (nn i) F G H (nn 0) S = loopN L1064_0 kx kr N (nn p) v C D (nn (i + 1)) (.b true) (.b false) H (nn 0) S := fun kx kr => by
            rw [loopN_succ, l1064_go (h0 := h0) (h1 := g1) (h2 := q1) (h3 := q2) (h4 := g4) (h5 := g5) (h6 := fun c => add_n (by omega) c)]
          simp only [st]
          exact loop1064 h hl w hp C D H N (i + 1) (.b true) (.b false) (by omega) (by omega)
      · refine .inl ⟨by rw [hd, outB, decide_eq_true (by omega), Bool.true_or], nn i, .b true, .b true, fun kx kr => ?_⟩
        rw [loopN_succ, l1064_lo (h0 := h0) (h1 := g1) (h2 := q1) (h3 := q2) (h4 := fun c => by rw [lss_s hx (by omega), decide_eq_true (by omega)])]
    · have : i = l.length := by omega
      subst this
      refine .inr ⟨by rw [List.drop_length]; rfl, nn l.length, .b false, G, fun kx kr => ?_⟩
      rw [loopN_succ, l1064_end (h0 := h0) (h1 := fun c => by rw [lss_n (by omega) (by omega), decide_eq_false (by omega)])]
theorem f1064_ok {p : Nat} (hp : p < 18446744073709551616) {v : V} {l : List Nat} (h : Row S v l) (hl : l.length ≤ 500000) (w : W64 l) (k : Cont) : F1064 (nn p) v S k = k (nn (chk p l)) S := by
  have h1 : ∀ c, F13 (nn p) S c = c (.b (pB p)) S := fun c => f13_ok hp S c
  have h2 := h.len (by omega)
  unfold F1064 G1064 chk
  rw [C1064_eq]
  by_cases hb : pB p = true
  · rw [if_pos hb]
    rw [hb] at h1
    have hpl := pB_lt hb
    by_cases h5 : 65 < l.length
    · rw [if_pos h5, h1064_lg (h1 := h1) (h2 := h2) (h3 := fun c => by rw [gtr_n (by omega) (by omega), decide_eq_true h5])]
    · rw [if_neg h5]
      have h3 : ∀ c, pGtr (nn l.length) (nn 65) c = c (.b false) := fun c => by rw [gtr_n (by omega) (by omega), decide_eq_false h5]
      rcases loop1064 h hl w (p := p) (by omega) (.b false) (.b false) .other 1000000 0 .other .other (by omega) (by omega) with ⟨a1, e2, f2, g2, a2⟩ | ⟨a1, e2, f2, g2, a2⟩
      · have a1 : l.any (outB p) = true := a1
        rw [if_pos a1, h1064_out (h1 := h1) (h2 := h2) (h3 := h3) (e2 := e2) (f2 := f2) (g2 := g2) (hL := fun kn kx => by
          obtain ⟨kx', e1, e2⟩ := block_loop_at 0 L1064_0 kn kx (fun A B v2 D E F G H I S => k I S)
          rw [e2]; exact a2 kx' _)]
      · have a1 : l.any (outB p) = false := a1
        rw [if_neg (by rw [a1]; simp)]
        have hL : ∀ (kn : Fn 9) (kx : Nat → Fn 9) (kr : Fn 9), cBlock 0 (cLoop L1064_0) kn kx kr (nn p) v (.b false) (.b false) (nn 0) .other .other .other (nn 0) S = kn (nn p) v (.b false) (.b false) e2 f2 g2 .other (nn 0) S := fun kn kx kr => by
          obtain ⟨kx', b1, b2⟩ := block_loop_at 0 L1064_0 kn kx kr
          rw [b2, ← b1]; exact a2 kx' kr
        by_cases h0 : l.length = 0
        · rw [if_neg (by simp [h0]), h1064_nil (h1 := h1) (h2 := h2) (h3 := h3) (hL := hL) (h4 := fun c => by rw [h0]; rfl)]
        · have hg := getD_of (l := l) (i := l.length - 1) (by omega)
          obtain ⟨q, q1, q2⟩ := h.get hg (by omega)
          have h7 : ∀ c, pGtr (nn l.length) (nn 0) c = c (.b true) := fun c => by rw [gtr_n (by omega) (by omega), decide_eq_true (by omega)]
          have h8 := fun c => sub_n (a := l.length) (b := 1) (by omega) (by omega) c
          by_cases hz : l.getD (l.length - 1) 0 = 0
          · rw [if_pos ⟨h0, hz⟩, h1064_last (h1 := h1) (h2 := h2) (h3 := h3) (hL := hL) (h4 := h7) (h5 := h8) (h6 := q1) (h7 := q2) (h8 := fun c => by rw [eql_n, decide_eq_true hz])]
          · rw [if_neg (fun e => hz e.2), h1064_fit (h1 := h1) (h2 := h2) (h3 := h3) (hL := hL) (h4 := h7) (h5 := h8) (h6 := q1) (h7 := q2) (h8 := fun c => by rw [eql_n, decide_eq_false hz])]
  · rw [if_neg hb]
    rw [Bool.eq_false_iff.2 hb] at h1
    rw [h1064_np (h1 := h1)]
end
end Go.AM

/- fp.Trim, fp.Mul, fp.DivMod: the machine's texts on lists of numbers. -/
namespace Go.AM
set_option linter.unusedVariables false
set_option linter.unusedSimpArgs false
noncomputable section
theorem block_loop0 {n : Nat} (c : CS n) (kn : Fn n) (kx : Nat → Fn n) (kr : Fn n) : ∃ kx' : Nat → Fn n, kx' 0 = kn ∧ cBlock 0 (cLoop c) kn kx kr = loopN c kx' kr 1000000 := block_loop_at 0 c kn kx kr
theorem block_loop2 {n : Nat} (c : CS n) (kn : Fn n) (kx : Nat → Fn n) (kr : Fn n) : ∃ kx' : Nat → Fn n, kx' 2 = kn ∧ cBlock 2 (cLoop c) kn kx kr = loopN c kx' kr 1000000 := block_loop_at 2 c kn kx kr
/- Trim -/
def B108 : CS 4 := (cSeq (cSeq (cReg fun kn v0 v1 v2 v3 S => pGtr v1 (.i .i64 0) (fun a0 => pGd a0 true (fun c => c v0 S) S (fun a1 S => pGd a0 true (fun c => c v1 S) S (fun a2 S => pGd a0 true (fun c => pSub a2 (.i .i64 1) (fun v => c v S)) S (fun a3 S => pGd a0 true (fun c => pIdx 1 a1 a3 (fun v => c v S)) S (fun a4 S => pGd a0 true (fun c => pLd a4 S (fun v => c v S)) S (fun a5 S => pGd a0 true (fun c => pEql a5 (.i .i64 0) (fun v => c v S)) S (fun a6 S => pPick a0 a6 (.b false) (fun a7 => kn v0 v1 a7 v3 S))))))))) (cCond (fun x y v0 v1 v2 v3 S => pIf v2 (x v0 v1 v2 v3 S) (y v0 v1 v2 v3 S)) cSkip (cExit 0))) (cBlock 1 (cReg fun kn v0 v1 v2 v3 S => pSub v1 (.i .i64 1) (fun a0 => kn v0 a0 v2 v3 S))))
def Q108 (Lp : CS 4) : CS 4 := (cSeq (cReg fun kn v0 v1 v2 v3 S => kn v0 v1 v2 .sn S) (cSeq (cReg fun kn v0 v1 v2 v3 S => pLen v0 (fun a0 => kn v0 a0 v2 v3 S)) (cSeq Lp (cSeq (cReg fun kn v0 v1 v2 v3 S => pSlc 1 v0 none (some v1) (some v1) (fun a0 => kn v0 v1 v2 a0 S)) cRet))))
theorem C108_eq : C108 = Q108 (cBlock 0 (cLoop B108)) := by rfl
section
variable (K : Fn 4) (kx : Nat → Fn 4) (kr : Fn 4) (v0 v1 v2 v3 n' q x a b c d : V) (S : St)
theorem tr_end (h1 : ∀ c, pGtr v1 (nn 0) c = c (.b false)) : B108 K kx kr v0 v1 v2 v3 S = kx 0 v0 v1 (.b false) v3 S := by
  simp only [B108, cSeq, cReg, cCond, cBlock, cSkip, cExit, cRet, h1, pGd_ft, pPick_f, ifF]
theorem tr_stop (h1 : ∀ c, pGtr v1 (nn 0) c = c (.b true)) (h2 : ∀ c, pSub v1 (nn 1) c = c n') (h3 : ∀ c, pIdx 1 v0 n' c = c q) (h4 : ∀ c, pLd q S c = c x) (h5 : ∀ c, pEql x (nn 0) c = c (.b false)) : B108 K kx kr v0 v1 v2 v3 S = kx 0 v0 v1 (.b false) v3 S := by
  simp only [B108, cSeq, cReg, cCond, cBlock, cSkip, cExit, cRet, h1, h2, h3, h4, h5, pGd_tt, pPick_t, ifF]
theorem tr_go (h1 : ∀ c, pGtr v1 (nn 0) c = c (.b true)) (h2 : ∀ c, pSub v1 (nn 1) c = c n') (h3 : ∀ c, pIdx 1 v0 n' c = c q) (h4 : ∀ c, pLd q S c = c x) (h5 : ∀ c, pEql x (nn 0) c = c (.b true)) : B108 K kx kr v0 v1 v2 v3 S = K v0 n' (.b true) v3 S := by
  simp only [B108, cSeq, cReg, cCond, cBlock, cSkip, cExit, cRet, h1, h2, h3, h4, h5, pGd_tt, pPick_t, ifT]
theorem tr_head (Lp : CS 4) (r : V) (h1 : ∀ c, pLen v0 c = c a) (hL : ∀ (kn : Fn 4) (kx : Nat → Fn 4) (kr : Fn 4), Lp kn kx kr v0 a v2 .sn S = kn v0 b (.b false) .sn S) (h2 : ∀ c, pSlc 1 v0 none (some b) (some b) c = c r) :
    Q108 Lp K kx kr v0 v1 v2 v3 S = kr v0 b (.b false) r S := by
  simp only [Q108, cSeq, cReg, cCond, cBlock, cSkip, cExit, cRet, h1, h2, hL]
end
theorem trim_loop {S : St} {v : V} {l : List Nat} (h : Row S v l) (hl : l.length ≤ 500000) (kx : Nat → Fn 4) (kr : Fn 4) (v3 : V) : ∀ (N n : Nat) (v2 : V), n ≤ l.length → n < N → loopN B108 kx kr N v (nn n) v2 v3 S = kx 0 v (nn (trimN l n)) (.b false) v3 S
  | 0, n, v2, h1, h2 => by omega
  | N + 1, 0, v2, h1, h2 => by
    rw [loopN_succ, tr_end _ _ _ _ _ _ _ _ (fun c => by rw [gtr_n (by omega) (by omega)]; rfl)]; rfl
  | N + 1, n + 1, v2, h1, h2 => by
    have hg := getD_of (l := l) (i := n) (by omega)
    obtain ⟨q, h3, h4⟩ := h.get hg (by omega)
    have g1 : ∀ c, pGtr (nn (n + 1)) (nn 0) c = c (.b true) := fun c => by rw [gtr_n (by omega) (by omega), decide_eq_true (by omega)]
    have g2 : ∀ c, pSub (nn (n + 1)) (nn 1) c = c (nn n) := fun c => sub_n (by omega) (by omega) c
    rw [loopN_succ]
    by_cases h0 : l.getD n 0 = 0
    · rw [tr_go _ _ _ _ _ _ _ (nn n) q (nn (l.getD n 0)) S g1 g2 h3 h4 (fun c => by rw [eql_n, decide_eq_true h0]), trim_loop h hl kx kr v3 N n _ (by omega) (by omega)]
      simp only [trimN]
      rw [h0]; rfl
    · rw [tr_stop _ _ _ _ _ _ _ (nn n) q (nn (l.getD n 0)) S g1 g2 h3 h4 (fun c => by rw [eql_n, decide_eq_false h0])]
      simp only [trimN]
      have : Nat.beq (l.getD n 0) 0 = false := by
        cases hb : Nat.beq (l.getD n 0) 0
        · rfl
        · exact absurd (Nat.eq_of_beq_eq_true hb) h0
      rw [this]; rfl
theorem trim_run {S : St} {id : Pos} {m c : Nat} {l : List Nat} (h : Row S (.sl id 0 m c) l) (hl : l.length ≤ 500000) (hmc : m ≤ c) (hc : c ≤ 1073741824) (k : Cont) : F108 (.sl id 0 m c) S k = k (.sl id 0 (trimN l l.length) (trimN l l.length)) S := by
  have hm : m = l.length := h.1
  unfold F108 G108
  rw [C108_eq, tr_head _ _ _ _ _ _ _ (nn l.length) (nn (trimN l l.length)) S _ (.sl id 0 (trimN l l.length) (trimN l l.length)) (fun c => h.len (by omega) c) (fun kn kx kr => ?_) (fun c => pSlc_hm id (by rw [hm]; exact trimN_le l _) hmc hc c)]
  obtain ⟨kx', e1, e2⟩ := block_loop0 B108 kn kx kr
  rw [e2, trim_loop h hl kx' kr .sn 1000000 l.length _ (Nat.le_refl _) (by omega), e1]
/- Mul -/
def BMI : CS 18 := (cSeq (cReg fun kn v0 v1 v2 v3 v4 v5 v6 v7 v8 v9 v10 v11 v12 v13 v14 v15 v16 v17 S => pLss v8 v9 (fun a0 => kn v0 v1 v2 v3 v4 v5 v6 v7 v8 v9 a0 v11 v12 v13 v14 v15 v16 v17 S)) (cSeq (cCond (fun x y v0 v1 v2 v3 v4 v5 v6 v7 v8 v9 v10 v11 v12 v13 v14 v15 v16 v17 S => pIf v10 (x v0 v1 v2 v3 v4 v5 v6 v7 v8 v9 v10 v11 v12 v13 v14 v15 v16 v17 S) (y v0 v1 v2 v3 v4 v5 v6 v7 v8 v9 v10 v11 v12 v13 v14 v15 v16 v17 S)) cSkip (cExit 2)) (cSeq (cBlock 3 (cSeq (cReg fun kn v0 v1 v2 v3 v4 v5 v6 v7 v8 v9 v10 v11 v12 v13 v14 v15 v16 v17 S => pIdx 1 v11 v8 (fun a0 => pLd a0 S (fun a1 => kn v0 v1 v2 v3 v4 v5 v6 v7 v8 v9 v10 v11 v12 v13 v8 v15 a1 v17 S))) (cReg fun kn v0 v1 v2 v3 v4 v5 v6 v7 v8 v9 v10 v11 v12 v13 v14 v15 v16 v17 S => pAdd v13 v14 (fun a0 => pAdd v13 v14 (fun a1 => pIdx 1 v12 a1 (fun a2 => pLd a2 S (fun a3 => pMul v15 v16 (fun a4 => pAdd a3 a4 (fun a5 => pRem a5 v0 (fun a6 => pIdx 1 v12 a0 (fun a7 => pSt 1 a7 a6 S (fun S => kn v0 v1 v2 v3 v4 v5 v6 v7 v8 v9 v10 v11 v12 v13 v14 v15 v16 v17 S)))))))))))) (cReg fun kn v0 v1 v2 v3 v4 v5 v6 v7 v8 v9 v10 v11 v12 v13 v14 v15 v16 v17 S => pAdd v8 (.i .i64 1) (fun a0 => kn v0 v1 v2 v3 v4 v5 v6 v7 a0 v9 v10 v11 v12 v13 v14 v15 v16 v17 S)))))
def BMO (Ip : CS 18) : CS 18 := (cSeq (cReg fun kn v0 v1 v2 v3 v4 v5 v6 v7 v8 v9 v10 v11 v12 v13 v14 v15 v16 v17 S => pLss v4 v5 (fun a0 => kn v0 v1 v2 v3 v4 v5 a0 v7 v8 v9 v10 v11 v12 v13 v14 v15 v16 v17 S)) (cSeq (cCond (fun x y v0 v1 v2 v3 v4 v5 v6 v7 v8 v9 v10 v11 v12 v13 v14 v15 v16 v17 S => pIf v6 (x v0 v1 v2 v3 v4 v5 v6 v7 v8 v9 v10 v11 v12 v13 v14 v15 v16 v17 S) (y v0 v1 v2 v3 v4 v5 v6 v7 v8 v9 v10 v11 v12 v13 v14 v15 v16 v17 S)) cSkip (cExit 0)) (cSeq (cBlock 1 (cSeq (cReg fun kn v0 v1 v2 v3 v4 v5 v6 v7 v8 v9 v10 v11 v12 v13 v14 v15 v16 v17 S => pIdx 1 v7 v4 (fun a0 => pLd a0 S (fun a1 => kn v0 v1 v2 v3 v4 v5 v6 v7 v8 v9 v10 v11 v12 v4 v14 a1 v16 v17 S))) (cSeq (cReg fun kn v0 v1 v2 v3 v4 v5 v6 v7 v8 v9 v10 v11 v12 v13 v14 v15 v16 v17 S => pLen v2 (fun a0 => kn v0 v1 v2 v3 v4 v5 v6 v7 (.i .i64 0) a0 v10 v2 v12 v13 v14 v15 v16 v17 S)) Ip))) (cReg fun kn v0 v1 v2 v3 v4 v5 v6 v7 v8 v9 v10 v11 v12 v13 v14 v15 v16 v17 S => pAdd v4 (.i .i64 1) (fun a0 => kn v0 v1 v2 v3 a0 v5 v6 v7 v8 v9 v10 v11 v12 v13 v14 v15 v16 v17 S)))))
def HM (f108 : Gn 1) (Lp : CS 18) : CS 18 := (cSeq (cReg fun kn v0 v1 v2 v3 v4 v5 v6 v7 v8 v9 v10 v11 v12 v13 v14 v15 v16 v17 S => kn v0 v1 v2 v3 v4 v5 v6 v7 v8 v9 v10 v11 v12 v13 v14 v15 v16 .sn S) (cSeq (cSeq (cReg fun kn v0 v1 v2 v3 v4 v5 v6 v7 v8 v9 v10 v11 v12 v13 v14 v15 v16 v17 S => pLen v1 (fun a0 => pEql a0 (.i .i64 0) (fun a1 => pGd a1 false (fun c => c v2 S) S (fun a2 S => pGd a1 false (fun c => pLen a2 (fun v => c v S)) S (fun a3 S => pGd a1 false (fun c => pEql a3 (.i .i64 0) (fun v => c v S)) S (fun a4 S => pPick a1 (.b true) a4 (fun a5 => kn v0 v1 v2 a5 v4 v5 v6 v7 v8 v9 v10 v11 v12 v13 v14 v15 v16 v17 S))))))) (cCond (fun x y v0 v1 v2 v3 v4 v5 v6 v7 v8 v9 v10 v11 v12 v13 v14 v15 v16 v17 S => pIf v3 (x v0 v1 v2 v3 v4 v5 v6 v7 v8 v9 v10 v11 v12 v13 v14 v15 v16 v17 S) (y v0 v1 v2 v3 v4 v5 v6 v7 v8 v9 v10 v11 v12 v13 v14 v15 v16 v17 S)) (cSeq (cReg fun kn v0 v1 v2 v3 v4 v5 v6 v7 v8 v9 v10 v11 v12 v13 v14 v15 v16 v17 S => kn v0 v1 v2 v3 v4 v5 v6 v7 v8 v9 v10 v11 v12 v13 v14 v15 v16 .sn S) cRet) cSkip)) (cSeq (cReg fun kn v0 v1 v2 v3 v4 v5 v6 v7 v8 v9 v10 v11 v12 v13 v14 v15 v16 v17 S => pLen v1 (fun a0 => pLen v2 (fun a1 => pAdd a0 a1 (fun a2 => pSub a2 (.i .i64 1) (fun a3 => pMks [(.i .i64 0)] a3 a3 S (fun a4 S => kn v0 v1 v2 v3 v4 v5 v6 v7 v8 v9 v10 v11 a4 v13 v14 v15 v16 v17 S)))))) (cSeq (cSeq (cReg fun kn v0 v1 v2 v3 v4 v5 v6 v7 v8 v9 v10 v11 v12 v13 v14 v15 v16 v17 S => pLen v1 (fun a0 => kn v0 v1 v2 v3 (.i .i64 0) a0 v6 v1 v8 v9 v10 v11 v12 v13 v14 v15 v16 v17 S)) Lp) (cSeq (cReg fun kn v0 v1 v2 v3 v4 v5 v6 v7 v8 v9 v10 v11 v12 v13 v14 v15 v16 v17 S => f108 v12 S (fun a0 S => kn v0 v1 v2 v3 v4 v5 v6 v7 v8 v9 v10 v11 v12 v13 v14 v15 v16 a0 S)) cRet)))))
theorem C67_eq (F : Gn 1) : C67 F = HM F (cBlock 0 (cLoop (BMO (cBlock 2 (cLoop BMI))))) := by rfl
section
variable (K : Fn 18) (kx : Nat → Fn 18) (kr : Fn 18) (v0 v1 v2 v3 v4 v5 v6 v7 v8 v9 v10 v11 v12 v13 v14 v15 v16 v17 a b c d e f g h a_ b_ c_ d_ e_ f_ g_ h_ i_ j_ : V) (S S' S2 : St)
theorem mi_end (h1 : ∀ c, pLss v8 v9 c = c (.b false)) : BMI K kx kr v0 v1 v2 v3 v4 v5 v6 v7 v8 v9 v10 v11 v12 v13 v14 v15 v16 v17 S = kx 2 v0 v1 v2 v3 v4 v5 v6 v7 v8 v9 (.b false) v11 v12 v13 v14 v15 v16 v17 S := by
  simp only [BMI, cSeq, cReg, cCond, cBlock, cSkip, cExit, cRet, h1, ifF]
theorem mi_go (h1 : ∀ c, pLss v8 v9 c = c (.b true)) (h2 : ∀ c, pIdx 1 v11 v8 c = c a) (h3 : ∀ c, pLd a S c = c b) (h4 : ∀ c, pAdd v13 v8 c = c d) (h5 : ∀ c, pIdx 1 v12 d c = c e) (h6 : ∀ c, pLd e S c = c f) (h7 : ∀ c, pMul v15 b c = c g) (h8 : ∀ k, pAdd f g k = k h) (h9 : ∀ c, pRem h v0 c = c c_) (h10 : ∀ c : St → R, pSt 1 e c_ S c = c S') (h11 : ∀ c, pAdd v8 (nn 1) c = c j_) :
    BMI K kx kr v0 v1 v2 v3 v4 v5 v6 v7 v8 v9 v10 v11 v12 v13 v14 v15 v16 v17 S = K v0 v1 v2 v3 v4 v5 v6 v7 j_ v9 (.b true) v11 v12 v13 v8 v15 b v17 S' := by
  simp only [BMI, cSeq, cReg, cCond, cBlock, cSkip, cExit, cRet, h1, h2, h3, h4, h5, h6, h7, h8, h9, h10, h11, ifT]
theorem mo_end (Ip : CS 18) (h1 : ∀ c, pLss v4 v5 c = c (.b false)) : BMO Ip K kx kr v0 v1 v2 v3 v4 v5 v6 v7 v8 v9 v10 v11 v12 v13 v14 v15 v16 v17 S = kx 0 v0 v1 v2 v3 v4 v5 (.b false) v7 v8 v9 v10 v11 v12 v13 v14 v15 v16 v17 S := by
  simp only [BMO, cSeq, cReg, cCond, cBlock, cSkip, cExit, cRet, h1, ifF]
theorem mo_go (Ip : CS 18) (h1 : ∀ c, pLss v4 v5 c = c (.b true)) (h2 : ∀ c, pIdx 1 v7 v4 c = c a) (h3 : ∀ c, pLd a S c = c b) (h4 : ∀ c, pLen v2 c = c d) (h5 : ∀ c, pAdd v4 (nn 1) c = c e)
    (hI : ∀ (kn : Fn 18) (kx : Nat → Fn 18) (kr : Fn 18), Ip kn kx kr v0 v1 v2 v3 v4 v5 (.b true) v7 (nn 0) d v10 v2 v12 v4 v14 b v16 v17 S = kn v0 v1 v2 v3 v4 v5 (.b true) v7 d d (.b false) v2 v12 v4 f b g v17 S') :
    BMO Ip K kx kr v0 v1 v2 v3 v4 v5 v6 v7 v8 v9 v10 v11 v12 v13 v14 v15 v16 v17 S = K v0 v1 v2 v3 e v5 (.b true) v7 d d (.b false) v2 v12 v4 f b g v17 S' := by
  simp only [BMO, cSeq, cReg, cCond, cBlock, cSkip, cExit, cRet, h1, h2, h3, h4, h5, hI, ifT]
theorem m_head (F : Gn 1) (Lp : CS 18) (h1 : ∀ c, pLen v1 c = c a) (h2 : ∀ c, pLen v2 c = c b) (h3 : ∀ c, pEql a (nn 0) c = c (.b false)) (h4 : ∀ c, pEql b (nn 0) c = c (.b false)) (h5 : ∀ c, pAdd a b c = c d) (h6 : ∀ c, pSub d (nn 1) c = c e) (h7 : ∀ c, pMks [nn 0] e e S c = c f S')
    (hL : ∀ (kn : Fn 18) (kx : Nat → Fn 18) (kr : Fn 18), Lp kn kx kr v0 v1 v2 (.b false) (nn 0) a v6 v1 v8 v9 v10 v11 f v13 v14 v15 v16 .sn S' = kn v0 v1 v2 (.b false) a a (.b false) v1 b_ c_ d_ e_ f g_ h_ i_ j_ .sn S2) (h8 : ∀ k, F f S2 k = k g S2) :
    HM F Lp K kx kr v0 v1 v2 v3 v4 v5 v6 v7 v8 v9 v10 v11 v12 v13 v14 v15 v16 v17 S = kr v0 v1 v2 (.b false) a a (.b false) v1 b_ c_ d_ e_ f g_ h_ i_ j_ g S2 := by
  simp only [HM, cSeq, cReg, cCond, cBlock, cSkip, cExit, cRet, h1, h2, h3, h4, h5, h6, h7, h8, hL, pGd_ff, pPick_f, ifF]
end
def rowS (p x : Nat) : List Nat → Nat → List Nat → List Nat
  | [], _, o => o
  | y :: g, n, o => rowS p x g (n + 1) (o.set n ((o.getD n 0 + x * y) % p))
def mulS (p : Nat) (g : List Nat) : List Nat → Nat → List Nat → List Nat
  | [], _, o => o
  | x :: f, n, o => mulS p g f (n + 1) (rowS p x g n o)
theorem rowS_len (p x : Nat) : ∀ (g : List Nat) (n : Nat) (o : List Nat), (rowS p x g n o).length = o.length
  | [], _, o => rfl
  | y :: g, n, o => by simp only [rowS]; rw [rowS_len p x g]; simp
theorem mulS_len (p : Nat) (g : List Nat) : ∀ (f : List Nat) (n : Nat) (o : List Nat), (mulS p g f n o).length = o.length
  | [], _, o => rfl
  | y :: f, n, o => by simp only [mulS]; rw [mulS_len p g f, rowS_len]
theorem rowS_sm {p : Nat} (h0 : 0 < p) (hp : p ≤ 65536) (x : Nat) : ∀ (g : List Nat) (n : Nat) (o : List Nat), Sm o → Sm (rowS p x g n o)
  | [], _, o, h => h
  | y :: g, n, o, h => rowS_sm h0 hp x g _ _ (h.set n (Nat.lt_of_lt_of_le (Nat.mod_lt _ h0) hp))
theorem mulS_sm {p : Nat} (h0 : 0 < p) (hp : p ≤ 65536) (g : List Nat) : ∀ (f : List Nat) (n : Nat) (o : List Nat), Sm o → Sm (mulS p g f n o)
  | [], _, o, h => h
  | x :: f, n, o, h => mulS_sm h0 hp g f _ _ (rowS_sm h0 hp x g n o h)
theorem drop_cons {l : List Nat} {j : Nat} (h : j < l.length) : l.drop j = l.getD j 0 :: l.drop (j + 1) := by
  rw [List.drop_eq_getElem_cons h]; congr 1; rw [List.getD_eq_getElem?_getD, List.getElem?_eq_getElem h]; rfl
theorem mul_lt {a b : Nat} (ha : a < 65536) (hb : b < 65536) : a * b < 4294967296 := by
  calc a * b ≤ a * 65535 := Nat.mul_le_mul_left _ (by omega)
    _ ≤ 65535 * 65535 := Nat.mul_le_mul_right _ (by omega)
    _ < _ := by decide
theorem mul_in {S0 : St} (ok0 : SOK S0) {p x i m : Nat} {vg : V} {g : List Nat} {id : Pos} (h0 : 0 < p) (hp : p ≤ 65536) (hx : x < 65536) (hg : Row S0 vg g) (sg : Sm g) (hid : S0.cnt ≤ id.num) (him : i + g.length ≤ m) (hm : m ≤ 500000) : ∀ (N j : Nat) (L : List Nat) (S : St) (v14 v16 v10 : V), j ≤ g.length → g.length < j + N → L.length = m → Sm L → Has S id L → Old S0 S →
    ∃ v14' v16' S', Has S' id (rowS p x (g.drop j) (i + j) L) ∧ Kept S S' id ∧ ∀ (kx : Nat → Fn 18) (kr : Fn 18) (v1 v2 v3 v4 v5 v6 v7 v17 : V), loopN BMI kx kr N (nn p) v1 v2 v3 v4 v5 v6 v7 (nn j) (nn g.length) v10 vg (.sl id 0 m m) (nn i) v14 (nn x) v16 v17 S = kx 2 (nn p) v1 v2 v3 v4 v5 v6 v7 (nn g.length) (nn g.length) (.b false) vg (.sl id 0 m m) (nn i) v14' (nn x) v16' v17 S'
  | 0, j, L, S, v14, v16, v10, h1, h2, hL, sL, hS, ho => by omega
  | N + 1, j, L, S, v14, v16, v10, h1, h2, hL, sL, hS, ho => by
    by_cases hj : j < g.length
    · have hgj := getD_of hj
      have hLj := getD_of (l := L) (i := i + j) (by omega)
      obtain ⟨q, q1, q2⟩ := (hg.old ok0 ho).get hgj (by omega)
      have b1 := sg.get hgj
      have b2 := sL.get hLj
      have b3 := mul_lt hx b1
      obtain ⟨S1, s1, s2, s3⟩ := hS.set (i := i + j) (by omega) ((L.getD (i + j) 0 + x * g.getD j 0) % p)
      obtain ⟨v14', v16', S', r1, r2, r3⟩ := mul_in ok0 h0 hp hx hg sg hid him hm N (j + 1) (L.set (i + j) ((L.getD (i + j) 0 + x * g.getD j 0) % p)) S1 (nn j) (nn (g.getD j 0)) (.b true) (by omega) (by omega) (by simpa using hL) (sL.set _ (Nat.lt_of_lt_of_le (Nat.mod_lt _ h0) hp)) s1 (s2.old _ hid ho)
      refine ⟨v14', v16', S', ?_, s2.trans r2, fun kx kr v1 v2 v3 v4 v5 v6 v7 v17 => ?_⟩
      · rw [drop_cons hj]; exact r1
      · rw [loopN_succ, mi_go (h1 := fun c => by rw [lss_n (by omega) (by omega), decide_eq_true hj]) (h2 := q1) (h3 := q2) (h4 := fun c => add_n (by omega) c) (h5 := fun c => Has.idx id (by omega) (by omega) c) (h6 := fun c => hS.get hLj c) (h7 := fun c => mul_n (by omega) c) (h8 := fun c => add_n (by omega) c) (h9 := fun c => rem_n (by omega) h0 (by omega) c) (h10 := s3) (h11 := fun c => add_n (by omega) c)]
        exact r3 kx kr v1 v2 v3 v4 v5 v6 v7 v17
    · have : j = g.length := by omega
      subst this
      refine ⟨v14, v16, S, by rw [List.drop_length]; exact hS, .refl _, fun kx kr v1 v2 v3 v4 v5 v6 v7 v17 => ?_⟩
      rw [loopN_succ, mi_end (h1 := fun c => by rw [lss_n (by omega) (by omega), decide_eq_false (by omega)])]
theorem mul_out {S0 : St} (ok0 : SOK S0) {p m : Nat} {vf vg : V} {f g : List Nat} {id : Pos} (h0 : 0 < p) (hp : p ≤ 65536) (hf : Row S0 vf f) (sf : Sm f) (hg : Row S0 vg g) (sg : Sm g) (hid : S0.cnt ≤ id.num) (him : f.length + g.length ≤ m + 1) (hm : m ≤ 500000) (hf5 : f.length ≤ 500000) (hg5 : g.length ≤ 500000) : ∀ (N i : Nat) (L : List Nat) (S : St) (v6 v8 v9 v10 v11 v13 v14 v15 v16 : V), i ≤ f.length → f.length < i + N → L.length = m → Sm L → Has S id L → Old S0 S →
    ∃ v8' v9' v10' v11' v13' v14' v15' v16' S', Has S' id (mulS p g (f.drop i) i L) ∧ Kept S S' id ∧ ∀ (kx : Nat → Fn 18) (kr : Fn 18) (v3 v17 : V), loopN (BMO (cBlock 2 (cLoop BMI))) kx kr N (nn p) vf vg v3 (nn i) (nn f.length) v6 vf v8 v9 v10 v11 (.sl id 0 m m) v13 v14 v15 v16 v17 S = kx 0 (nn p) vf vg v3 (nn f.length) (nn f.length) (.b false) vf v8' v9' v10' v11' (.sl id 0 m m) v13' v14' v15' v16' v17 S'
  | 0, i, L, S, v6, v8, v9, v10, v11, v13, v14, v15, v16, h1, h2, hL, sL, hS, ho => by omega
  | N + 1, i, L, S, v6, v8, v9, v10, v11, v13, v14, v15, v16, h1, h2, hL, sL, hS, ho => by
    by_cases hi : i < f.length
    · have hfi := getD_of hi
      obtain ⟨q, q1, q2⟩ := (hf.old ok0 ho).get hfi (by omega)
      obtain ⟨w14, w16, S1, s1, s2, s3⟩ := mul_in ok0 h0 hp (sf.get hfi) hg sg hid (show i + g.length ≤ m by omega) hm 1000000 0 L S v14 v16 v10 (by omega) (by omega) hL sL hS ho
      obtain ⟨v8', v9', v10', v11', v13', v14', v15', v16', S', r1, r2, r3⟩ := mul_out ok0 h0 hp hf sf hg sg hid him hm hf5 hg5 N (i + 1) (rowS p (f.getD i 0) g i L) S1 (.b true) (nn g.length) (nn g.length) (.b false) vg (nn i) w14 (nn (f.getD i 0)) w16 (by omega) (by omega) (by rw [rowS_len]; exact hL) (rowS_sm h0 hp _ _ _ _ sL) s1 (s2.old _ hid ho)
      refine ⟨v8', v9', v10', v11', v13', v14', v15', v16', S', ?_, s2.trans r2, fun kx kr v3 v17 => ?_⟩
      · rw [drop_cons hi]; exact r1
      · rw [loopN_succ, mo_go (h1 := fun c => by rw [lss_n (by omega) (by omega), decide_eq_true hi]) (h2 := q1) (h3 := q2) (h4 := fun c => (hg.old ok0 ho).len (by omega) c) (h5 := fun c => add_n (by omega) c) (hI := fun kn kx kr => ?_)]
        · exact r3 kx kr v3 v17
        · obtain ⟨kx', e1, e2⟩ := block_loop2 BMI kn kx kr
          rw [e2]
          refine (s3 kx' kr _ _ _ _ _ _ _ _).trans ?_
          rw [e1]
    · have : i = f.length := by omega
      subst this
      refine ⟨v8, v9, v10, v11, v13, v14, v15, v16, S, by rw [List.drop_length]; exact hS, .refl _, fun kx kr v3 v17 => ?_⟩
      rw [loopN_succ, mo_end (h1 := fun c => by rw [lss_n (by omega) (by omega), decide_eq_false (by omega)])]
/-- the product, not yet trimmed -/
def mulL (p : Nat) (f g : List Nat) : List Nat := mulS p g f 0 (List.replicate (f.length + g.length - 1) 0)
theorem mulL_len (p : Nat) (f g : List Nat) : (mulL p f g).length = f.length + g.length - 1 := by rw [mulL, mulS_len]; simp
theorem sm_rep (n : Nat) : Sm (List.replicate n 0) := fun x hx => by rw [(List.mem_replicate.1 hx).2]; omega
theorem kept_stp {S S' : St} (ok : SOK S) {cs : List V} {L : List Nat} (r : Kept (S.new cs) S' S.nx) (h : Has S' S.nx L) : Stp S S' := by
  obtain ⟨n, h1, h2⟩ := h
  have ok' := r.ok (ok.new cs)
  have h3 := (ok'.blk _ _ h1).1
  rw [ok.nx] at h3
  exact ⟨ok', r.old S (by rw [ok.nx]; exact Nat.le_refl _) (Old.new ok cs (.refl S) (Nat.le_refl _)), r.fl, Nat.le_of_lt h3⟩
theorem mul_run {S : St} (ok : SOK S) {p : Nat} {vf vg : V} {f g : List Nat} (h0 : 0 < p) (hp : p ≤ 65536) (hf : Row S vf f) (sf : Sm f) (hg : Row S vg g) (sg : Sm g) (lf : f.length ≤ 200000) (lg : g.length ≤ 200000) (nf : 0 < f.length) (ng : 0 < g.length) :
    ∃ S', Stp S S' ∧ Has S' S.nx (mulL p f g) ∧ ∀ k, F67 (nn p) vf vg S k = k (.sl S.nx 0 (trimN (mulL p f g) (mulL p f g).length) (trimN (mulL p f g) (mulL p f g).length)) S' := by
  have ok1 := ok.new ((List.replicate (f.length + g.length - 1) 0).map nn)
  obtain ⟨v8', v9', v10', v11', v13', v14', v15', v16', S', r1, r2, r3⟩ := mul_out ok h0 hp hf sf hg sg (id := S.nx) (by rw [ok.nx]; exact Nat.le_refl _) (show f.length + g.length ≤ (f.length + g.length - 1) + 1 by omega) (by omega) (by omega) (by omega) 1000000 0 (List.replicate (f.length + g.length - 1) 0) (S.new ((List.replicate (f.length + g.length - 1) 0).map nn)) .other .other .other .other .other .other .other .other .other (by omega) (by omega) (by simp) (sm_rep _) (Has.new ok _) (Old.new ok _ (.refl _) (Nat.le_refl _))
  have r1 : Has S' S.nx (mulL p f g) := r1
  refine ⟨S', kept_stp ok r2 r1, r1, fun k => ?_⟩
  have hrow : Row S' (.sl S.nx 0 (f.length + g.length - 1) (f.length + g.length - 1)) (mulL p f g) := by
    have := Has.row (L := mulL p f g) (t := []) (by rw [List.append_nil]; exact r1) (f.length + g.length - 1)
    rwa [mulL_len] at this
  unfold F67 G67
  rw [C67_eq]
  rw [m_head (h1 := fun c => hf.len (by omega) c) (h2 := fun c => hg.len (by omega) c) (h3 := fun c => by rw [eql_n, decide_eq_false (by omega)]) (h4 := fun c => by rw [eql_n, decide_eq_false (by omega)]) (h5 := fun c => add_n (by omega) c) (h6 := fun c => sub_n (by omega) (by omega) c) (h7 := fun c => pMks_eq (by omega) S c) (hL := fun kn kx kr => by
      obtain ⟨kx', e1, e2⟩ := block_loop0 (BMO (cBlock 2 (cLoop BMI))) kn kx kr
      rw [e2]
      refine (r3 kx' kr _ _).trans ?_
      rw [e1]) (h8 := fun k => trim_run hrow (by rw [mulL_len]; omega) (Nat.le_refl _) (by omega) k)]
/-- the product of two rows -/
def mulT (p : Nat) (f g : List Nat) : List Nat := if f.length = 0 ∨ g.length = 0 then [] else (mulL p f g).take (trimN (mulL p f g) (mulL p f g).length)
theorem mz_head (F : Gn 1) (Lp : CS 18) (K : Fn 18) (kx : Nat → Fn 18) (kr : Fn 18) (v0 v1 v2 v3 v4 v5 v6 v7 v8 v9 v10 v11 v12 v13 v14 v15 v16 v17 a b x y : V) (S : St) (h1 : ∀ c, pLen v1 c = c a) (h2 : ∀ c, pLen v2 c = c b) (h3 : (∀ c, pEql a (nn 0) c = c (.b true)) ∨ (∀ c, pEql a (nn 0) c = c (.b false)) ∧ ∀ c, pEql b (nn 0) c = c (.b true)) :
    HM F Lp K kx kr v0 v1 v2 v3 v4 v5 v6 v7 v8 v9 v10 v11 v12 v13 v14 v15 v16 v17 S = kr v0 v1 v2 (.b true) v4 v5 v6 v7 v8 v9 v10 v11 v12 v13 v14 v15 v16 .sn S := by
  rcases h3 with h3 | ⟨h3, h4⟩
  · simp only [HM, cSeq, cReg, cCond, cBlock, cSkip, cExit, cRet, h1, h3, pGd_tf, pGd_uf, pPick_t, ifT]
  · simp only [HM, cSeq, cReg, cCond, cBlock, cSkip, cExit, cRet, h1, h2, h3, h4, pGd_ff, pPick_f, ifT]
theorem f67_ok {S : St} (ok : SOK S) {p : Nat} {vf vg : V} {f g : List Nat} (h0 : 0 < p) (hp : p ≤ 65536) (hf : Row S vf f) (sf : Sm f) (hg : Row S vg g) (sg : Sm g) (lf : f.length ≤ 200000) (lg : g.length ≤ 200000) :
    ∃ S' v, Stp S S' ∧ Row S' v (mulT p f g) ∧ ∀ k, F67 (nn p) vf vg S k = k v S' := by
  by_cases hz : f.length = 0 ∨ g.length = 0
  · refine ⟨S, .sn, .refl ok, if_pos hz, fun k => ?_⟩
    unfold F67 G67
    rw [C67_eq, mz_head (x := .u) (y := .u) (h1 := fun c => hf.len (by omega) c) (h2 := fun c => hg.len (by omega) c) (h3 := ?_)]
    by_cases h : f.length = 0
    · exact .inl fun c => by rw [eql_n, decide_eq_true h]
    · exact .inr ⟨fun c => by rw [eql_n, decide_eq_false h], fun c => by rw [eql_n, decide_eq_true (by omega)]⟩
  · obtain ⟨S', st, h, z⟩ := mul_run ok h0 hp hf sf hg sg lf lg (by omega) (by omega)
    refine ⟨S', _, st, ?_, z⟩
    rw [mulT, if_neg hz]
    have hl : ((mulL p f g).take (trimN (mulL p f g) (mulL p f g).length)).length = trimN (mulL p f g) (mulL p f g).length := by
      rw [List.length_take]; exact Nat.min_eq_left (trimN_le _ _)
    rw [← List.take_append_drop (trimN (mulL p f g) (mulL p f g).length) (mulL p f g)] at h
    have := h.row (trimN (mulL p f g) (mulL p f g).length)
    rw [hl] at this
    exact this
end
end Go.AM

/- galoisref09.Trim, Mul, Power, Same of rows: pure texts. -/
namespace Go.AM
open Go.Proofs
set_option linter.unusedVariables false
set_option linter.unusedSimpArgs false
set_option maxRecDepth 100000
noncomputable section
variable {S : St}
def L1116_0 : CS 3 := (cSeq (cSeq (cReg fun kn A B C S => pLen A (fun a0 => pGtr a0 (.i .i64 0) (fun a1 => pGd a1 true (fun c => c A S) S (fun a2 S => pGd a1 true (fun c => c A S) S (fun a3 S => pGd a1 true (fun c => pLen a3 (fun v => c v S)) S (fun a4 S => pGd a1 true (fun c => pSub a4 (.i .i64 1) (fun v => c v S)) S (fun a5 S => pGd a1 true (fun c => pIdx 1 a2 a5 (fun v => c v S)) S (fun a6 S => pGd a1 true (fun c => pLd a6 S (fun v => c v S)) S (fun a7 S => pGd a1 true (fun c => pEql a7 (.i .i64 0) (fun v => c v S)) S (fun a8 S => pPick a1 a8 (.b false) (fun a9 => kn A a9 C S))))))))))) (cCond (fun x y A B C S => pIf B (x A B C S) (y A B C S)) cSkip (cExit 0))) (cBlock 1 (cReg fun kn A B C S => pLen A (fun a0 => pSub a0 (.i .i64 1) (fun a1 => pSlc 1 A none (some a1) none (fun a2 => kn a2 B C S))))))
def H1116_ (I0 : CS 3) : CS 3 := (cSeq (cReg fun kn A B C S => kn A B .sn S) (cSeq I0 (cSeq (cReg fun kn A B C S => kn A B A S) cRet)))
theorem C1116_eq : C1116 = H1116_ (cBlock 0 (cLoop L1116_0)) := by rfl
-- p0  | A B v2
def L1071_2 : CS 10 := (cSeq (cSeq (cReg fun kn A B C D E F G H I J S => pLen C (fun a0 => pLss G a0 (fun a1 => kn A B C D E F G a1 I J S))) (cCond (fun x y A B C D E F G H I J S => pIf H (x A B C D E F G H I J S) (y A B C D E F G H I J S)) cSkip (cExit 2))) (cSeq (cBlock 3 (cReg fun kn A B C D E F G H I J S => pAdd E G (fun a0 => pAdd E G (fun a1 => pIdx 1 I a1 (fun a2 => pLd a2 S (fun a3 => pIdx 1 B E (fun a4 => pLd a4 S (fun a5 => pIdx 1 C G (fun a6 => pLd a6 S (fun a7 => pMul a5 a7 (fun a8 => pAdd a3 a8 (fun a9 => pRem a9 A (fun a10 => pIdx 1 I a0 (fun a11 => pSt 1 a11 a10 S (fun S => kn A B C D E F G H I J S))))))))))))))) (cReg fun kn A B C D E F G H I J S => pAdd G (.i .i64 1) (fun a0 => kn A B C D E F a0 H I J S))))
def L1071_0 (I2 : CS 10) : CS 10 := (cSeq (cSeq (cReg fun kn A B C D E F G H I J S => pLen B (fun a0 => pLss E a0 (fun a1 => kn A B C D E a1 G H I J S))) (cCond (fun x y A B C D E F G H I J S => pIf F (x A B C D E F G H I J S) (y A B C D E F G H I J S)) cSkip (cExit 0))) (cSeq (cBlock 1 (cSeq (cReg fun kn A B C D E F G H I J S => kn A B C D E F (.i .i64 0) H I J S) I2)) (cReg fun kn A B C D E F G H I J S => pAdd E (.i .i64 1) (fun a0 => kn A B C D a0 F G H I J S))))
def H1071_ (f1116 : Gn 1) (I0 : CS 10) : CS 10 := (cSeq (cReg fun kn A B C D E F G H I J S => kn A B C D E F G H I .sn S) (cSeq (cSeq (cReg fun kn A B C D E F G H I J S => pLen B (fun a0 => pEql a0 (.i .i64 0) (fun a1 => pGd a1 false (fun c => c C S) S (fun a2 S => pGd a1 false (fun c => pLen a2 (fun v => c v S)) S (fun a3 S => pGd a1 false (fun c => pEql a3 (.i .i64 0) (fun v => c v S)) S (fun a4 S => pPick a1 (.b true) a4 (fun a5 => kn A B C a5 E F G H I J S))))))) (cCond (fun x y A B C D E F G H I J S => pIf D (x A B C D E F G H I J S) (y A B C D E F G H I J S)) (cSeq (cReg fun kn A B C D E F G H I J S => kn A B C D E F G H I .sn S) cRet) cSkip)) (cSeq (cReg fun kn A B C D E F G H I J S => pLen B (fun a0 => pLen C (fun a1 => pAdd a0 a1 (fun a2 => pSub a2 (.i .i64 1) (fun a3 => pMks [(.i .i64 0)] a3 a3 S (fun a4 S => kn A B C D E F G H a4 J S)))))) (cSeq (cSeq (cReg fun kn A B C D E F G H I J S => kn A B C D (.i .i64 0) F G H I J S) I0) (cSeq (cReg fun kn A B C D E F G H I J S => f1116 I S (fun a0 S => kn A B C D E F G H I a0 S)) cRet)))))
theorem C1071_eq (f1116 : Gn 1) : C1071 f1116 = H1071_ f1116 (cBlock 0 (cLoop (L1071_0 (cBlock 2 (cLoop L1071_2))))) := by rfl
-- p0 p1 p2  | A B v2 D E F G H I J
def L1072_0 (f1071 : Gn 3) : CS 7 := (cSeq (cSeq (cReg fun kn A B C D E F G S => pLss D C (fun a0 => kn A B C D a0 F G S)) (cCond (fun x y A B C D E F G S => pIf E (x A B C D E F G S) (y A B C D E F G S)) cSkip (cExit 0))) (cSeq (cBlock 1 (cReg fun kn A B C D E F G S => f1071 A F B S (fun a0 S => kn A B C D E a0 G S))) (cReg fun kn A B C D E F G S => pAdd D (.i .i64 1) (fun a0 => kn A B C a0 E F G S))))
def H1072_ (I0 : CS 7) : CS 7 := (cSeq (cReg fun kn A B C D E F G S => kn A B C D E F .sn S) (cSeq (cReg fun kn A B C D E F G S => pBsl [(.i .i64 0)] 1 [(0, 1, (.i .i64 1))] S (fun a0 S => kn A B C D E a0 G S)) (cSeq (cSeq (cReg fun kn A B C D E F G S => kn A B C (.i .i64 0) E F G S) I0) (cSeq (cReg fun kn A B C D E F G S => kn A B C D E F F S) cRet))))
theorem C1072_eq (f1071 : Gn 3) : C1072 f1071 = H1072_ (cBlock 0 (cLoop (L1072_0 f1071))) := by rfl
-- p0 p1 p2  | A B v2 D E F G
def L27_0 : CS 7 := (cSeq (cSeq (cReg fun kn A B C D E F G S => pLen A (fun a0 => pLss D a0 (fun a1 => kn A B C D a1 F G S))) (cCond (fun x y A B C D E F G S => pIf E (x A B C D E F G S) (y A B C D E F G S)) cSkip (cExit 0))) (cSeq (cBlock 1 (cSeq (cReg fun kn A B C D E F G S => pIdx 1 A D (fun a0 => pLd a0 S (fun a1 => pIdx 1 B D (fun a2 => pLd a2 S (fun a3 => pNeq a1 a3 (fun a4 => kn A B C D E a4 G S)))))) (cCond (fun x y A B C D E F G S => pIf F (x A B C D E F G S) (y A B C D E F G S)) (cSeq (cReg fun kn A B C D E F G S => kn A B C D E F (.b false) S) cRet) cSkip))) (cReg fun kn A B C D E F G S => pAdd D (.i .i64 1) (fun a0 => kn A B C a0 E F G S))))
def H27_ (I0 : CS 7) : CS 7 := (cSeq (cReg fun kn A B C D E F G S => kn A B C D E F (.b false) S) (cSeq (cSeq (cReg fun kn A B C D E F G S => pLen A (fun a0 => pLen B (fun a1 => pNeq a0 a1 (fun a2 => kn A B a2 D E F G S)))) (cCond (fun x y A B C D E F G S => pIf C (x A B C D E F G S) (y A B C D E F G S)) (cSeq (cReg fun kn A B C D E F G S => kn A B C D E F (.b false) S) cRet) cSkip)) (cSeq (cSeq (cReg fun kn A B C D E F G S => kn A B C (.i .i64 0) E F G S) I0) (cSeq (cReg fun kn A B C D E F G S => kn A B C D E F (.b true) S) cRet))))
theorem C27_eq : C27 = H27_ (cBlock 0 (cLoop L27_0)) := by rfl
-- p0 p1  | A B v2 D E F G
section
variable (K : Fn 3) (kx : Nat → Fn 3) (kr : Fn 3) (A B C n m q x r : V) (S : St) (h0 : ∀ c, pLen A c = c n)
include h0
theorem u_end (h1 : ∀ c, pGtr n (nn 0) c = c (.b false)) : L1116_0 K kx kr A B C S = kx 0 A (.b false) C S := by
  simp only [L1116_0, cSeq, cReg, cCond, cBlock, cSkip, cExit, cRet, h0, h1, pGd_ft, pPick_f, ifF]
variable (h1 : ∀ c, pGtr n (nn 0) c = c (.b true)) (h2 : ∀ c, pSub n (nn 1) c = c m) (h3 : ∀ c, pIdx 1 A m c = c q) (h4 : ∀ c, pLd q S c = c x)
include h1 h2 h3 h4
theorem u_stop (h5 : ∀ c, pEql x (nn 0) c = c (.b false)) : L1116_0 K kx kr A B C S = kx 0 A (.b false) C S := by
  simp only [L1116_0, cSeq, cReg, cCond, cBlock, cSkip, cExit, cRet, h0, h1, h2, h3, h4, h5, pGd_tt, pPick_t, ifF]
theorem u_go (h5 : ∀ c, pEql x (nn 0) c = c (.b true)) (h6 : ∀ c, pSlc 1 A none (some m) none c = c r) : L1116_0 K kx kr A B C S = K r (.b true) C S := by
  simp only [L1116_0, cSeq, cReg, cCond, cBlock, cSkip, cExit, cRet, h0, h1, h2, h3, h4, h5, h6, pGd_tt, pPick_t, ifT]
end
theorem u_head (I0 : CS 3) (K : Fn 3) (kx : Nat → Fn 3) (kr : Fn 3) (A B C r w : V) (S : St) (hL : ∀ (kn : Fn 3) (kx : Nat → Fn 3) (kr : Fn 3), I0 kn kx kr A B .sn S = kn r w .sn S) : H1116_ I0 K kx kr A B C S = kr r w r S := by
  simp only [H1116_, cSeq, cReg, cCond, cBlock, cSkip, cExit, cRet, hL]
theorem slc_lo (id : Pos) {n m cap : Nat} (h1 : n ≤ cap) (h2 : cap ≤ 1073741824) (c : V → R) : pSlc 1 (.sl id 0 m cap) none (some (nn n)) none c = c (.sl id 0 n cap) := by
  show gu (Nat.ble cap cap) (gu (Bool.not (neg .i64 n)) (gu (Nat.ble n cap) (gu (Nat.ble 0 n) (fN (cut 1 0 0 cap) (fun o => fN (Nat.sub n 0) (fun n' => fN (Nat.sub cap 0) (fun q => c (.sl id o n' q)))))))) = _
  rw [neg_n (by omega), Nat.ble_eq_true_of_le (Nat.le_refl cap), Nat.ble_eq_true_of_le h1, Nat.ble_eq_true_of_le (Nat.zero_le n)]
  simp only [fN_eq]
  show c (.sl id (cut 1 0 0 cap) (n - 0) (cap - 0)) = _
  rw [show cut 1 0 0 cap = 0 by unfold cut; cases Nat.beq cap 0 <;> rfl, Nat.sub_zero, Nat.sub_zero]
theorem row_take {id : Pos} {n m cap : Nat} {l : List Nat} (h : Row S (.sl id 0 m cap) l) (hn : n ≤ l.length) : Row S (.sl id 0 n cap) (l.take n) := by
  obtain ⟨h1, b, h2, t, h3⟩ := h
  refine ⟨by rw [List.length_take]; omega, b, h2, (l.drop n).map nn ++ t, ?_⟩
  rw [h3, ← List.append_assoc, ← List.map_append, List.take_append_drop]
theorem loop1116 {id : Pos} {m cap : Nat} {l : List Nat} (h : Row S (.sl id 0 m cap) l) (hc : l.length ≤ cap) (hl : cap ≤ 1000000) : ∀ (N n : Nat) (B : V), n ≤ l.length → n < N → ∀ (kx : Nat → Fn 3) (kr : Fn 3), loopN L1116_0 kx kr N (.sl id 0 n cap) B .sn S = kx 0 (.sl id 0 (trimN l n) cap) (.b false) .sn S
  | 0, n, B, h1, h2 => by omega
  | N + 1, 0, B, h1, h2 => fun kx kr => by
    rw [loopN_succ, u_end (h0 := fun c => (row_take h (Nat.zero_le _)).len (by simp) c) (h1 := fun c => by rw [gtr_n (by rw [List.length_take]; omega) (by omega), decide_eq_false (by rw [List.length_take]; omega)])]; rfl
  | N + 1, n + 1, B, h1, h2 => fun kx kr => by
    have hr := row_take h h1
    have e : (l.take (n + 1)).length = n + 1 := by rw [List.length_take]; omega
    have hg : (l.take (n + 1))[n]? = some (l.getD n 0) := by rw [List.getElem?_take_of_lt (by omega)]; exact getD_of (by omega)
    obtain ⟨q, q1, q2⟩ := hr.get hg (by omega)
    have g0 : ∀ c, pLen (.sl id 0 (n + 1) cap) c = c (nn (n + 1)) := fun c => by rw [hr.len (by omega), e]
    have g1 : ∀ c, pGtr (nn (n + 1)) (nn 0) c = c (.b true) := fun c => by rw [gtr_n (by omega) (by omega), decide_eq_true (by omega)]
    have g2 : ∀ c, pSub (nn (n + 1)) (nn 1) c = c (nn n) := fun c => sub_n (by omega) (by omega) c
    rw [loopN_succ]
    by_cases hz : l.getD n 0 = 0
    · rw [u_go (h0 := g0) (h1 := g1) (h2 := g2) (h3 := q1) (h4 := q2) (h5 := fun c => by rw [eql_n, decide_eq_true hz]) (h6 := fun c => slc_lo id (by omega) (by omega) c), loop1116 h hc hl N n _ (by omega) (by omega)]
      simp only [trimN]
      rw [hz]; rfl
    · rw [u_stop (h0 := g0) (h1 := g1) (h2 := g2) (h3 := q1) (h4 := q2) (h5 := fun c => by rw [eql_n, decide_eq_false hz])]
      simp only [trimN]
      have : Nat.beq (l.getD n 0) 0 = false := by
        cases hb : Nat.beq (l.getD n 0) 0
        · rfl
        · exact absurd (Nat.eq_of_beq_eq_true hb) hz
      rw [this]; rfl
theorem f1116_ok {id : Pos} {cap : Nat} {l : List Nat} (h : Row S (.sl id 0 l.length cap) l) (hc : l.length ≤ cap) (hl : cap ≤ 500000) (k : Cont) : F1116 (.sl id 0 l.length cap) S k = k (.sl id 0 (trimN l l.length) cap) S := by
  unfold F1116 G1116
  rw [C1116_eq, u_head (r := .sl id 0 (trimN l l.length) cap) (w := .b false) (hL := fun kn kx kr => by
    obtain ⟨kx', e1, e2⟩ := block_loop_at 0 L1116_0 kn kx kr
    rw [e2, ← e1]; exact loop1116 h hc (by omega) 1000000 l.length _ (Nat.le_refl _) (by omega) kx' kr)]
/- Mul -/
section
variable (K : Fn 10) (kx : Nat → Fn 10) (kr : Fn 10) (A B C D E F G H I J n a b d e f g h i_ j_ x y : V) (S S' S2 : St)
theorem w2_end (h0 : ∀ c, pLen C c = c n) (h1 : ∀ c, pLss G n c = c (.b false)) : L1071_2 K kx kr A B C D E F G H I J S = kx 2 A B C D E F G (.b false) I J S := by
  simp only [L1071_2, cSeq, cReg, cCond, cBlock, cSkip, cExit, cRet, h0, h1, ifF]
theorem w2_go (h0 : ∀ c, pLen C c = c n) (h1 : ∀ c, pLss G n c = c (.b true)) (h2 : ∀ c, pAdd E G c = c a) (h3 : ∀ c, pIdx 1 I a c = c b) (h4 : ∀ c, pLd b S c = c d) (h5 : ∀ c, pIdx 1 B E c = c e) (h6 : ∀ c, pLd e S c = c f) (h7 : ∀ c, pIdx 1 C G c = c g) (h8 : ∀ c, pLd g S c = c h)
    (h9 : ∀ c, pMul f h c = c i_) (h10 : ∀ c, pAdd d i_ c = c x) (h11 : ∀ c, pRem x A c = c y) (h12 : ∀ k : St → R, pSt 1 b y S k = k S') (h13 : ∀ c, pAdd G (nn 1) c = c j_) : L1071_2 K kx kr A B C D E F G H I J S = K A B C D E F j_ (.b true) I J S' := by
  simp only [L1071_2, cSeq, cReg, cCond, cBlock, cSkip, cExit, cRet, h0, h1, h2, h3, h4, h5, h6, h7, h8, h9, h10, h11, h12, h13, ifT]
theorem w0_end (I2 : CS 10) (h0 : ∀ c, pLen B c = c n) (h1 : ∀ c, pLss E n c = c (.b false)) : L1071_0 I2 K kx kr A B C D E F G H I J S = kx 0 A B C D E (.b false) G H I J S := by
  simp only [L1071_0, cSeq, cReg, cCond, cBlock, cSkip, cExit, cRet, h0, h1, ifF]
theorem w0_go (I2 : CS 10) (h0 : ∀ c, pLen B c = c n) (h1 : ∀ c, pLss E n c = c (.b true)) (hI : ∀ (kn : Fn 10) (kx : Nat → Fn 10) (kr : Fn 10), I2 kn kx kr A B C D E (.b true) (nn 0) H I J S = kn A B C D E (.b true) a (.b false) I J S') (h2 : ∀ c, pAdd E (nn 1) c = c b) : L1071_0 I2 K kx kr A B C D E F G H I J S = K A B C D b (.b true) a (.b false) I J S' := by
  simp only [L1071_0, cSeq, cReg, cCond, cBlock, cSkip, cExit, cRet, h0, h1, h2, hI, ifT]
theorem wh_zero (f : Gn 1) (I0 : CS 10) (h1 : ∀ c, pLen B c = c a) (h2 : ∀ c, pLen C c = c b) (h3 : (∀ c, pEql a (nn 0) c = c (.b true)) ∨ (∀ c, pEql a (nn 0) c = c (.b false)) ∧ ∀ c, pEql b (nn 0) c = c (.b true)) : H1071_ f I0 K kx kr A B C D E F G H I J S = kr A B C (.b true) E F G H I .sn S := by
  rcases h3 with h3 | ⟨h3, h4⟩
  · simp only [H1071_, cSeq, cReg, cCond, cBlock, cSkip, cExit, cRet, h1, h3, pGd_tf, pGd_uf, pPick_t, ifT]
  · simp only [H1071_, cSeq, cReg, cCond, cBlock, cSkip, cExit, cRet, h1, h2, h3, h4, pGd_ff, pPick_f, ifT]
theorem wh_go (f : Gn 1) (I0 : CS 10) (h1 : ∀ c, pLen B c = c a) (h2 : ∀ c, pLen C c = c b) (h3 : ∀ c, pEql a (nn 0) c = c (.b false)) (h4 : ∀ c, pEql b (nn 0) c = c (.b false)) (h5 : ∀ c, pAdd a b c = c d) (h6 : ∀ c, pSub d (nn 1) c = c e) (h7 : ∀ c, pMks [nn 0] e e S c = c n S')
    (hL : ∀ (kn : Fn 10) (kx : Nat → Fn 10) (kr : Fn 10), I0 kn kx kr A B C (.b false) (nn 0) F G H n .sn S' = kn A B C (.b false) g (.b false) h x n .sn S2) (h8 : ∀ k, f n S2 k = k y S2) : H1071_ f I0 K kx kr A B C D E F G H I J S = kr A B C (.b false) g (.b false) h x n y S2 := by
  simp only [H1071_, cSeq, cReg, cCond, cBlock, cSkip, cExit, cRet, h1, h2, h3, h4, h5, h6, h7, h8, hL, pGd_ff, pPick_f, ifF]
end
theorem w_in {S0 : St} (ok0 : SOK S0) {p i m : Nat} {vf vg : V} {f g : List Nat} {id : Pos} (h0 : 0 < p) (hp : p ≤ 65536) (hf : Row S0 vf f) (sf : Sm f) (hi : i < f.length) (lf : f.length ≤ 500000) (hg : Row S0 vg g) (sg : Sm g) (hid : S0.cnt ≤ id.num) (him : i + g.length ≤ m) (hm : m ≤ 500000) : ∀ (N j : Nat) (L : List Nat) (S : St) (H : V), j ≤ g.length → g.length < N + j → L.length = m → Sm L → Has S id L → Old S0 S →
    ∃ S', Has S' id (rowS p (f.getD i 0) (g.drop j) (i + j) L) ∧ Kept S S' id ∧ ∀ (kx : Nat → Fn 10) (kr : Fn 10) (D F J : V), loopN L1071_2 kx kr N (nn p) vf vg D (nn i) F (nn j) H (.sl id 0 m m) J S = kx 2 (nn p) vf vg D (nn i) F (nn g.length) (.b false) (.sl id 0 m m) J S'
  | 0, j, L, S, H, h1, h2, hL, sL, hS, ho => by omega
  | N + 1, j, L, S, H, h1, h2, hL, sL, hS, ho => by
    by_cases hj : j < g.length
    · have hgj := getD_of hj
      have hfi := getD_of hi
      have hLj := getD_of (l := L) (i := i + j) (by omega)
      obtain ⟨q, q1, q2⟩ := (hg.old ok0 ho).get hgj (by omega)
      obtain ⟨q', q1', q2'⟩ := (hf.old ok0 ho).get hfi (by omega)
      have b1 := sg.get hgj
      have b2 := sL.get hLj
      have b4 := sf.get hfi
      have b3 := mul_lt b4 b1
      obtain ⟨S1, s1, s2, s3⟩ := hS.set (i := i + j) (by omega) ((L.getD (i + j) 0 + f.getD i 0 * g.getD j 0) % p)
      obtain ⟨S', r1, r2, r3⟩ := w_in ok0 h0 hp hf sf hi lf hg sg hid him hm N (j + 1) (L.set (i + j) ((L.getD (i + j) 0 + f.getD i 0 * g.getD j 0) % p)) S1 (.b true) (by omega) (by omega) (by simpa using hL) (sL.set _ (Nat.lt_of_lt_of_le (Nat.mod_lt _ h0) hp)) s1 (s2.old _ hid ho)
      refine ⟨S', ?_, s2.trans r2, fun kx kr D F J => ?_⟩
      · rw [drop_cons hj]; exact r1
      · rw [loopN_succ, w2_go (h0 := fun c => (hg.old ok0 ho).len (by omega) c) (h1 := fun c => by rw [lss_n (by omega) (by omega), decide_eq_true hj]) (h2 := fun c => add_n (by omega) c) (h3 := fun c => Has.idx id (by omega) (by omega) c) (h4 := fun c => hS.get hLj c) (h5 := q1') (h6 := q2') (h7 := q1) (h8 := q2) (h9 := fun c => mul_n (by omega) c) (h10 := fun c => add_n (by omega) c) (h11 := fun c => rem_n (by omega) h0 (by omega) c) (h12 := s3) (h13 := fun c => add_n (by omega) c)]
        exact r3 kx kr D F J
    · have : j = g.length := by omega
      subst this
      refine ⟨S, by rw [List.drop_length]; exact hS, .refl _, fun kx kr D F J => ?_⟩
      rw [loopN_succ, w2_end (h0 := fun c => (hg.old ok0 ho).len (by omega) c) (h1 := fun c => by rw [lss_n (by omega) (by omega), decide_eq_false (by omega)])]
theorem w_out {S0 : St} (ok0 : SOK S0) {p m : Nat} {vf vg : V} {f g : List Nat} {id : Pos} (h0 : 0 < p) (hp : p ≤ 65536) (hf : Row S0 vf f) (sf : Sm f) (hg : Row S0 vg g) (sg : Sm g) (hid : S0.cnt ≤ id.num) (him : f.length + g.length ≤ m + 1) (hm : m ≤ 500000) (hf5 : f.length ≤ 500000) (hg5 : g.length ≤ 500000) : ∀ (N i : Nat) (L : List Nat) (S : St) (F G H : V), i ≤ f.length → f.length < N + i → L.length = m → Sm L → Has S id L → Old S0 S →
    ∃ g2 h2 S', Has S' id (mulS p g (f.drop i) i L) ∧ Kept S S' id ∧ ∀ (kx : Nat → Fn 10) (kr : Fn 10) (D J : V), loopN (L1071_0 (cBlock 2 (cLoop L1071_2))) kx kr N (nn p) vf vg D (nn i) F G H (.sl id 0 m m) J S = kx 0 (nn p) vf vg D (nn f.length) (.b false) g2 h2 (.sl id 0 m m) J S'
  | 0, i, L, S, F, G, H, h1, h2, hL, sL, hS, ho => by omega
  | N + 1, i, L, S, F, G, H, h1, h2, hL, sL, hS, ho => by
    by_cases hi : i < f.length
    · have hfi := getD_of hi
      obtain ⟨S1, s1, s2, s3⟩ := w_in ok0 h0 hp hf sf hi hf5 hg sg hid (show i + g.length ≤ m by omega) hm 1000000 0 L S H (by omega) (by omega) hL sL hS ho
      obtain ⟨g2, h2', S', r1, r2, r3⟩ := w_out ok0 h0 hp hf sf hg sg hid him hm hf5 hg5 N (i + 1) (rowS p (f.getD i 0) g i L) S1 (.b true) (nn g.length) (.b false) (by omega) (by omega) (by rw [rowS_len]; exact hL) (rowS_sm h0 hp _ _ _ _ sL) s1 (s2.old _ hid ho)
      refine ⟨g2, h2', S', ?_, s2.trans r2, fun kx kr D J => ?_⟩
      · rw [drop_cons hi]; exact r1
      · rw [loopN_succ, w0_go (h0 := fun c => (hf.old ok0 ho).len (by omega) c) (h1 := fun c => by rw [lss_n (by omega) (by omega), decide_eq_true hi]) (hI := fun kn kx kr => by
          obtain ⟨kx', e1, e2⟩ := block_loop_at 2 L1071_2 kn kx kr
          rw [e2, ← e1]; exact s3 kx' kr _ _ _) (h2 := fun c => add_n (by omega) c)]
        exact r3 kx kr D J
    · have : i = f.length := by omega
      subst this
      refine ⟨G, H, S, by rw [List.drop_length]; exact hS, .refl _, fun kx kr D J => ?_⟩
      rw [loopN_succ, w0_end (h0 := fun c => (hf.old ok0 ho).len (by omega) c) (h1 := fun c => by rw [lss_n (by omega) (by omega), decide_eq_false (by omega)])]
theorem f1071_ok (ok : SOK S) {p : Nat} {vf vg : V} {f g : List Nat} (h0 : 0 < p) (hp : p ≤ 65536) (hf : Row S vf f) (sf : Sm f) (hg : Row S vg g) (sg : Sm g) (lf : f.length ≤ 200000) (lg : g.length ≤ 200000) :
    ∃ S' v, Stp S S' ∧ Row S' v (mulT p f g) ∧ ∀ k, F1071 (nn p) vf vg S k = k v S' := by
  by_cases hz : f.length = 0 ∨ g.length = 0
  · refine ⟨S, .sn, .refl ok, if_pos hz, fun k => ?_⟩
    unfold F1071 G1071
    rw [C1071_eq, wh_zero (h1 := fun c => hf.len (by omega) c) (h2 := fun c => hg.len (by omega) c) (h3 := ?_)]
    by_cases h : f.length = 0
    · exact .inl fun c => by rw [eql_n, decide_eq_true h]
    · exact .inr ⟨fun c => by rw [eql_n, decide_eq_false h], fun c => by rw [eql_n, decide_eq_true (by omega)]⟩
  · obtain ⟨g2, h2, S', r1, r2, r3⟩ := w_out ok h0 hp hf sf hg sg (id := S.nx) (by rw [ok.nx]; exact Nat.le_refl _) (show f.length + g.length ≤ (f.length + g.length - 1) + 1 by omega) (by omega) (by omega) (by omega) 1000000 0 (List.replicate (f.length + g.length - 1) 0) (S.new ((List.replicate (f.length + g.length - 1) 0).map nn)) .other .other .other (by omega) (by omega) (by simp) (sm_rep _) (Has.new ok _) (Old.new ok _ (.refl S) (Nat.le_refl _))
    have r1 : Has S' S.nx (mulL p f g) := r1
    have hrow : Row S' (.sl S.nx 0 (mulL p f g).length (f.length + g.length - 1)) (mulL p f g) := Has.row (L := mulL p f g) (t := []) (by rw [List.append_nil]; exact r1) (f.length + g.length - 1)
    have hrow2 := row_take hrow (trimN_le (mulL p f g) _)
    refine ⟨S', .sl S.nx 0 (trimN (mulL p f g) (mulL p f g).length) (f.length + g.length - 1), kept_stp ok r2 r1, ?_, fun k => ?_⟩
    · rw [mulT, if_neg hz]; exact hrow2
    · unfold F1071 G1071
      rw [C1071_eq]
      rw [wh_go (y := .sl S.nx 0 (trimN (mulL p f g) (mulL p f g).length) (f.length + g.length - 1)) (h1 := fun c => hf.len (by omega) c) (h2 := fun c => hg.len (by omega) c) (h3 := fun c => by rw [eql_n, decide_eq_false (by omega)]) (h4 := fun c => by rw [eql_n, decide_eq_false (by omega)]) (h5 := fun c => add_n (by omega) c) (h6 := fun c => sub_n (by omega) (by omega) c) (h7 := fun c => pMks_eq (by omega) S c) (hL := fun kn kx kr => by
          obtain ⟨kx', e1, e2⟩ := block_loop_at 0 (L1071_0 (cBlock 2 (cLoop L1071_2))) kn kx kr
          rw [e2, ← e1]; exact r3 kx' kr _ _) (h8 := fun k => by
          have := f1116_ok hrow (by rw [mulL_len]; exact Nat.le_refl _) (by omega) k
          rw [mulL_len] at this ⊢
          exact this)]
end
end Go.AM

/- galoisref09.Power, Same of rows: pure texts. -/
namespace Go.AM
open Go.Proofs
set_option linter.unusedVariables false
set_option linter.unusedSimpArgs false
set_option maxRecDepth 100000
noncomputable section
variable {S : St}
/-- all below p -/
def Lt (p : Nat) (l : List Nat) : Prop := ∀ x ∈ l, x < p
theorem Lt.sm {p : Nat} {l : List Nat} (h : Lt p l) (hp : p ≤ 65536) : Sm l := fun x hx => Nat.lt_of_lt_of_le (h x hx) hp
theorem Lt.set {p : Nat} {l : List Nat} (h : Lt p l) (i : Nat) {x : Nat} (hx : x < p) : Lt p (l.set i x) := fun y hy => by
  rcases List.mem_or_eq_of_mem_set hy with h1 | h1
  · exact h y h1
  · rw [h1]; exact hx
theorem rowS_lt {p : Nat} (h0 : 0 < p) (x : Nat) : ∀ (g : List Nat) (n : Nat) (o : List Nat), Lt p o → Lt p (rowS p x g n o)
  | [], _, o, h => h
  | y :: g, n, o, h => rowS_lt h0 x g _ _ (h.set n (Nat.mod_lt _ h0))
theorem mulS_lt {p : Nat} (h0 : 0 < p) (g : List Nat) : ∀ (f : List Nat) (n : Nat) (o : List Nat), Lt p o → Lt p (mulS p g f n o)
  | [], _, o, h => h
  | x :: f, n, o, h => mulS_lt h0 g f _ _ (rowS_lt h0 x g n o h)
theorem mulL_lt {p : Nat} (h0 : 0 < p) (f g : List Nat) : Lt p (mulL p f g) := mulS_lt h0 g f 0 _ fun x hx => by rw [(List.mem_replicate.1 hx).2]; exact h0
theorem mulT_lt {p : Nat} (h0 : 0 < p) (f g : List Nat) : Lt p (mulT p f g) := fun x hx => by
  unfold mulT at hx
  split at hx
  · simp at hx
  · exact mulL_lt h0 f g x (List.mem_of_mem_take hx)
theorem mulT_len (p : Nat) (f g : List Nat) : (mulT p f g).length ≤ f.length + g.length - 1 := by
  unfold mulT
  split
  · simp
  · rw [List.length_take, mulL_len]; exact Nat.min_le_right _ _
theorem mulT_zero (p : Nat) {f g : List Nat} (h : f.length = 0 ∨ g.length = 0) : mulT p f g = [] := if_pos h
/-- no zero at the end -/
def Trimd (l : List Nat) : Prop := l.length ≠ 0 → l.getD (l.length - 1) 0 ≠ 0
theorem trimN_last (l : List Nat) : ∀ n, trimN l n ≠ 0 → l.getD (trimN l n - 1) 0 ≠ 0
  | 0, h => absurd rfl h
  | n + 1, h => by
    unfold trimN at h ⊢
    cases hb : Nat.beq (l.getD n 0) 0 with
    | true => rw [hb] at h; exact trimN_last l n h
    | false =>
      intro e
      rw [show (bif false then trimN l n else n + 1) - 1 = n from rfl] at e
      rw [e] at hb; cases hb
theorem mulT_trim (p : Nat) (f g : List Nat) : Trimd (mulT p f g) := fun h => by
  unfold mulT at h ⊢
  split at h
  · simp at h
  · rename_i hz
    rw [if_neg hz]
    have hl : ((mulL p f g).take (trimN (mulL p f g) (mulL p f g).length)).length = trimN (mulL p f g) (mulL p f g).length := by
      rw [List.length_take]; exact Nat.min_eq_left (trimN_le _ _)
    rw [hl] at h ⊢
    rw [List.getD_eq_getElem?_getD, List.getElem?_take_of_lt (by omega), ← List.getD_eq_getElem?_getD]
    exact trimN_last _ _ h
/-- powers -/
def powL (p : Nat) (P : List Nat) : Nat → List Nat
  | 0 => [1]
  | i + 1 => mulT p (powL p P i) P
theorem powL_lt {p : Nat} (h1 : 1 < p) (P : List Nat) : ∀ i, Lt p (powL p P i)
  | 0 => fun x hx => by rw [powL, List.mem_singleton] at hx; omega
  | i + 1 => mulT_lt (by omega) _ _
theorem powL_len (p : Nat) {P : List Nat} : ∀ i, (powL p P i).length ≤ i * (P.length - 1) + 1
  | 0 => by simp [powL]
  | i + 1 => by
    have h1 := mulT_len p (powL p P i) P
    have h2 := powL_len p (P := P) i
    show (mulT p (powL p P i) P).length ≤ _
    by_cases hz : P.length = 0
    · rw [mulT_zero p (.inr hz)]; simp
    · rw [Nat.add_mul]; omega
section
variable (f1071 : Gn 3) (K : Fn 7) (kx : Nat → Fn 7) (kr : Fn 7) (A B C D E F G r d a e f : V) (S S' S2 : St)
theorem p_end (h1 : ∀ c, pLss D C c = c (.b false)) : L1072_0 f1071 K kx kr A B C D E F G S = kx 0 A B C D (.b false) F G S := by
  simp only [L1072_0, cSeq, cReg, cCond, cBlock, cSkip, cExit, cRet, h1, ifF]
theorem p_go (h1 : ∀ c, pLss D C c = c (.b true)) (h2 : ∀ k, f1071 A F B S k = k r S') (h3 : ∀ c, pAdd D (nn 1) c = c d) : L1072_0 f1071 K kx kr A B C D E F G S = K A B C d (.b true) r G S' := by
  simp only [L1072_0, cSeq, cReg, cCond, cBlock, cSkip, cExit, cRet, h1, h2, h3, ifT]
theorem p_head (I0 : CS 7) (h1 : ∀ k : Cont, pBsl [nn 0] 1 [(0, 1, nn 1)] S k = k a S') (hL : ∀ (kn : Fn 7) (kx : Nat → Fn 7) (kr : Fn 7), I0 kn kx kr A B C (nn 0) E a .sn S' = kn A B C d e r .sn S2) : H1072_ I0 K kx kr A B C D E F G S = kr A B C d e r r S2 := by
  simp only [H1072_, cSeq, cReg, cCond, cBlock, cSkip, cExit, cRet, h1, hL]
end
theorem p_loop {p m : Nat} {vP : V} {P : List Nat} (h1 : 1 < p) (hp : p ≤ 65536) (sP : Sm P) (lP : P.length ≤ 1000) (hm : m ≤ 100) : ∀ (N i : Nat) (E F : V) (S : St), SOK S → Row S vP P → Row S F (powL p P i) → i ≤ m → m < N + i →
    ∃ S' v, Stp S S' ∧ Row S' v (powL p P m) ∧ ∀ (kx : Nat → Fn 7) (kr : Fn 7) (G : V), loopN (L1072_0 F1071) kx kr N (nn p) vP (nn m) (nn i) E F G S = kx 0 (nn p) vP (nn m) (nn m) (.b false) v G S'
  | 0, i, E, F, S, ok, hP, hF, a1, a2 => by omega
  | N + 1, i, E, F, S, ok, hP, hF, a1, a2 => by
    by_cases hi : i < m
    · have hl : (powL p P i).length ≤ 200000 := by
        have h2 := powL_len p (P := P) i
        have h3 : i * (P.length - 1) ≤ 100 * 1000 := Nat.mul_le_mul (by omega) (by omega)
        omega
      obtain ⟨S1, v1, st, hr, z⟩ := f1071_ok ok (by omega) hp hF ((powL_lt h1 P i).sm hp) hP sP hl (by omega)
      obtain ⟨S2, v2, st2, hr2, z2⟩ := p_loop h1 hp sP lP hm N (i + 1) (.b true) v1 S1 st.ok (st.row ok hP) hr (by omega) (by omega)
      refine ⟨S2, v2, st.trans st2, hr2, fun kx kr G => ?_⟩
      rw [loopN_succ, p_go (h1 := fun c => by rw [lss_n (by omega) (by omega), decide_eq_true hi]) (h2 := z) (h3 := fun c => add_n (by omega) c)]
      exact z2 kx kr G
    · have : i = m := by omega
      subst this
      refine ⟨S, F, .refl ok, hF, fun kx kr G => ?_⟩
      rw [loopN_succ, p_end (h1 := fun c => by rw [lss_n (by omega) (by omega), decide_eq_false (by omega)])]
theorem row_one (S : St) (ok : SOK S) (x : Nat) : Row (S.new [nn x]) (.sl S.nx 0 1 1) [x] := ⟨rfl, _, St.new_get _ _, [], rfl⟩
theorem f1072_ok (ok : SOK S) {p m : Nat} {vP : V} {P : List Nat} (h1 : 1 < p) (hp : p ≤ 65536) (hP : Row S vP P) (sP : Sm P) (lP : P.length ≤ 1000) (hm : m ≤ 100) :
    ∃ S' v, Stp S S' ∧ Row S' v (powL p P m) ∧ ∀ k, F1072 (nn p) vP (nn m) S k = k v S' := by
  have st0 := Stp.new ok [nn 1]
  obtain ⟨S', v, st, hr, z⟩ := p_loop (m := m) h1 hp sP lP hm 1000000 0 .other (.sl S.nx 0 1 1) (S.new [nn 1]) (ok.new _) (st0.row ok hP) (row_one S ok 1) (by omega) (by omega)
  refine ⟨S', v, st0.trans st, hr, fun k => ?_⟩
  unfold F1072 G1072
  rw [C1072_eq, p_head (h1 := fun k => pBsl1_eq (cellsK_i _ _) S k) (hL := fun kn kx kr => by
    obtain ⟨kx', e1, e2⟩ := block_loop_at 0 (L1072_0 F1071) kn kx kr
    rw [e2, ← e1]; exact z kx' kr _)]
/- Same -/
section
variable (K : Fn 7) (kx : Nat → Fn 7) (kr : Fn 7) (A B C D E F G n n' q q' x x' d e f : V) (S : St)
theorem s_end (h0 : ∀ c, pLen A c = c n) (h1 : ∀ c, pLss D n c = c (.b false)) : L27_0 K kx kr A B C D E F G S = kx 0 A B C D (.b false) F G S := by
  simp only [L27_0, cSeq, cReg, cCond, cBlock, cSkip, cExit, cRet, h0, h1, ifF]
theorem s_go (h0 : ∀ c, pLen A c = c n) (h1 : ∀ c, pLss D n c = c (.b true)) (h2 : ∀ c, pIdx 1 A D c = c q) (h3 : ∀ c, pLd q S c = c x) (h4 : ∀ c, pIdx 1 B D c = c q') (h5 : ∀ c, pLd q' S c = c x') (h6 : ∀ c, pNeq x x' c = c (.b false)) (h7 : ∀ c, pAdd D (nn 1) c = c d) : L27_0 K kx kr A B C D E F G S = K A B C d (.b true) (.b false) G S := by
  simp only [L27_0, cSeq, cReg, cCond, cBlock, cSkip, cExit, cRet, h0, h1, h2, h3, h4, h5, h6, h7, ifT, ifF]
theorem s_head (I0 : CS 7) (h1 : ∀ c, pLen A c = c n) (h2 : ∀ c, pLen B c = c n') (h3 : ∀ c, pNeq n n' c = c (.b false)) (hL : ∀ (kn : Fn 7) (kx : Nat → Fn 7) (kr : Fn 7), I0 kn kx kr A B (.b false) (nn 0) E F (.b false) S = kn A B (.b false) d e f (.b false) S) : H27_ I0 K kx kr A B C D E F G S = kr A B (.b false) d e f (.b true) S := by
  simp only [H27_, cSeq, cReg, cCond, cBlock, cSkip, cExit, cRet, h1, h2, h3, hL, ifF]
end
theorem s_loop {v w : V} {l : List Nat} (h : Row S v l) (h' : Row S w l) (hl : l.length ≤ 500000) : ∀ (N i : Nat) (E F : V), i ≤ l.length → l.length < N + i →
    ∃ e2 f2, ∀ (kx : Nat → Fn 7) (kr : Fn 7) (C G : V), loopN L27_0 kx kr N v w C (nn i) E F G S = kx 0 v w C (nn l.length) e2 f2 G S
  | 0, i, E, F, a1, a2 => by omega
  | N + 1, i, E, F, a1, a2 => by
    by_cases hi : i < l.length
    · have hg := getD_of hi
      obtain ⟨q, q1, q2⟩ := h.get hg (by omega)
      obtain ⟨q', q1', q2'⟩ := h'.get hg (by omega)
      obtain ⟨e2, f2, z⟩ := s_loop h h' hl N (i + 1) (.b true) (.b false) (by omega) (by omega)
      refine ⟨e2, f2, fun kx kr C G => ?_⟩
      rw [loopN_succ, s_go (h0 := fun c => h.len (by omega) c) (h1 := fun c => by rw [lss_n (by omega) (by omega), decide_eq_true hi]) (h2 := q1) (h3 := q2) (h4 := q1') (h5 := q2') (h6 := fun c => by rw [neq_n, decide_eq_true rfl]; rfl) (h7 := fun c => add_n (by omega) c)]
      exact z kx kr C G
    · have : i = l.length := by omega
      subst this
      refine ⟨.b false, F, fun kx kr C G => ?_⟩
      rw [loopN_succ, s_end (h0 := fun c => h.len (by omega) c) (h1 := fun c => by rw [lss_n (by omega) (by omega), decide_eq_false (by omega)])]
theorem f27_ok {v w : V} {l : List Nat} (h : Row S v l) (h' : Row S w l) (hl : l.length ≤ 500000) (k : Cont) : F27 v w S k = k (.b true) S := by
  obtain ⟨e2, f2, z⟩ := s_loop h h' hl 1000000 0 .other .other (by omega) (by omega)
  unfold F27 G27
  rw [C27_eq, s_head (h1 := fun c => h.len (by omega) c) (h2 := fun c => h'.len (by omega) c) (h3 := fun c => by rw [neq_n, decide_eq_true rfl]; rfl) (hL := fun kn kx kr => by
    obtain ⟨kx', e1, e2'⟩ := block_loop_at 0 L27_0 kn kx kr
    rw [e2', ← e1]; exact z kx' kr _ _)]
end
end Go.AM
