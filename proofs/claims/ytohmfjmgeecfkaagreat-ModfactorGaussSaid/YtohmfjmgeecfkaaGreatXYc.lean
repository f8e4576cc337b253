/- The tests of primes, Moebius' function, Count: pure texts. -/
import Derived.Test.YtohmfjmgeecfkaaGreatXYb
import Derived.Test.YtohmfjmgeecfkaaGreatXPz
namespace Go.AM
open Go.Proofs
open Go.AM.Q
open Go.AM.U
set_option linter.unusedVariables false
set_option linter.unusedSimpArgs false
set_option maxRecDepth 100000
noncomputable section
variable {S0 S : St} {out : V × St}
/- galoisref04.IsPrime -/
def B52 : CS 5 := (cSeq (cSeq (cReg fun kn v0 v1 v2 v3 v4 S => pMul v1 v1 (fun a0 => pLeq a0 v0 (fun a1 => kn v0 v1 a1 v3 v4 S))) (cCond (fun x y v0 v1 v2 v3 v4 S => pIf v2 (x v0 v1 v2 v3 v4 S) (y v0 v1 v2 v3 v4 S)) cSkip (cExit 0))) (cSeq (cBlock 1 (cSeq (cReg fun kn v0 v1 v2 v3 v4 S => pRem v0 v1 (fun a0 => pEql a0 (.i .i64 0) (fun a1 => kn v0 v1 v2 a1 v4 S))) (cCond (fun x y v0 v1 v2 v3 v4 S => pIf v3 (x v0 v1 v2 v3 v4 S) (y v0 v1 v2 v3 v4 S)) (cSeq (cReg fun kn v0 v1 v2 v3 v4 S => kn v0 v1 v2 v3 (.b false) S) cRet) cSkip))) (cReg fun kn v0 v1 v2 v3 v4 S => pAdd v1 (.i .i64 1) (fun a0 => kn v0 a0 v2 v3 v4 S))))
def E52 : CS 5 := (cSeq (cReg fun kn v0 v1 v2 v3 v4 S => pGtr v0 (.i .i64 1) (fun a0 => kn v0 v1 v2 v3 a0 S)) cRet)
def A52 : CS 5 := (cReg fun kn v0 v1 v2 v3 v4 S => kn v0 v1 v2 v3 (.b false) S)
def A52b : CS 5 := (cReg fun kn v0 v1 v2 v3 v4 S => kn v0 (.i .i64 2) v2 v3 v4 S)
theorem C52_eq : C52 = cSeq A52 (cSeq (cSeq A52b (cBlock 0 (cLoop B52))) E52) := by rfl
theorem b52_go (K : Fn 5) (kx : Nat → Fn 5) (kr : Fn 5) (v0 v1 v2 v3 v4 x y v1' : V) (S : St) (h1 : ∀ c, pMul v1 v1 c = c x) (h2 : ∀ c, pLeq x v0 c = c (.b true)) (h3 : ∀ c, pRem v0 v1 c = c y) (h4 : ∀ c, pEql y (.i .i64 0) c = c (.b false)) (h5 : ∀ c, pAdd v1 (.i .i64 1) c = c v1') :
    B52 K kx kr v0 v1 v2 v3 v4 S = K v0 v1' (.b true) (.b false) v4 S := by
  simp only [B52, cSeq, cReg, cCond, cBlock, cSkip, cExit, cRet, h1, h2, h3, h4, h5, pIf_t, pIf_f]
theorem b52_div (K : Fn 5) (kx : Nat → Fn 5) (kr : Fn 5) (v0 v1 v2 v3 v4 x y : V) (S : St) (h1 : ∀ c, pMul v1 v1 c = c x) (h2 : ∀ c, pLeq x v0 c = c (.b true)) (h3 : ∀ c, pRem v0 v1 c = c y) (h4 : ∀ c, pEql y (.i .i64 0) c = c (.b true)) :
    B52 K kx kr v0 v1 v2 v3 v4 S = kr v0 v1 (.b true) (.b true) (.b false) S := by
  simp only [B52, cSeq, cReg, cCond, cBlock, cSkip, cExit, cRet, h1, h2, h3, h4, pIf_t, pIf_f]
theorem b52_no (K : Fn 5) (kx : Nat → Fn 5) (kr : Fn 5) (v0 v1 v2 v3 v4 x : V) (S : St) (h1 : ∀ c, pMul v1 v1 c = c x) (h2 : ∀ c, pLeq x v0 c = c (.b false)) :
    B52 K kx kr v0 v1 v2 v3 v4 S = kx 0 v0 v1 (.b false) v3 v4 S := by
  simp only [B52, cSeq, cReg, cCond, cBlock, cSkip, cExit, cRet, h1, h2, pIf_t, pIf_f]
theorem loop52 (n : Nat) (h2 : 2 ≤ n) (hn : n < 100000) (kx : Nat → Fn 5) (k : Cont) (hk : ∀ v0 v1 v2 v3 S, pGtr v0 (.i .i64 1) (fun a0 => k a0 S) = kx 0 v0 v1 v2 v3 (.b false) S) (S : St) : ∀ (N d : Nat) (v2 v3 : V), 2 ≤ d → 500 ≤ d + N → d < 400 → (∀ e, 2 ≤ e → e < d → ¬ e ∣ n) →
    loopN B52 kx (fun v0 v1 v2 v3 v4 S => k v4 S) N (ii n) (ii d) v2 v3 (.b false) S = k (.b (isP n)) S
  | 0, d, v2, v3, hd, h3, h4, hno => by omega
  | N + 1, d, v2, v3, hd, h3, h4, hno => by
    have hdd : d * d < 200000 := by
      calc d * d ≤ 399 * d := Nat.mul_le_mul_right _ (by omega)
        _ ≤ 399 * 399 := Nat.mul_le_mul_left _ (by omega)
        _ < _ := by decide
    have e1 : ∀ c, pMul (ii d) (ii d) c = c (ii (d * d)) := fun c => mul_n (by omega) c
    have e3 : ∀ c, pRem (ii n) (ii d) c = c (ii (n % d)) := fun c => rem_n (by omega) (by omega) (by omega) c
    rw [loopN_sucP]
    by_cases hc : d * d ≤ n
    · have hd3 : d < 317 := by
        rcases Nat.lt_or_ge d 317 with h | h
        · exact h
        · have : 317 * 317 ≤ d * d := Nat.mul_le_mul h h
          omega
      by_cases hm : n % d = 0
      · rw [b52_div _ _ _ _ _ _ _ _ (ii (d * d)) (ii (n % d)) S e1 (fun c => by rw [leq_n (by omega) (by omega), decide_eq_true hc]) e3 (fun c => by rw [eql_n, decide_eq_true hm])]
        have hdn : d < n := by
          have : d * 2 ≤ d * d := Nat.mul_le_mul_left _ hd
          omega
        have : isP n = false := by
          cases hp : isP n
          · rfl
          · exact absurd (Nat.dvd_of_mod_eq_zero hm) ((isP_iff.1 hp).2 d hd hdn)
        rw [this]
      · rw [b52_go _ _ _ _ _ _ _ _ (ii (d * d)) (ii (n % d)) (ii (d + 1)) S e1 (fun c => by rw [leq_n (by omega) (by omega), decide_eq_true hc]) e3 (fun c => by rw [eql_n, decide_eq_false hm]) (fun c => add_n (by omega) c)]
        exact loop52 n h2 hn kx k hk S N (d + 1) _ _ (by omega) (by omega) (by omega) fun e he hed hv => by
          rcases Nat.lt_or_ge e d with h | h
          · exact hno e he h hv
          · have : e = d := by omega
            exact hm (Nat.mod_eq_zero_of_dvd (this ▸ hv))
    · rw [b52_no _ _ _ _ _ _ _ _ (ii (d * d)) S e1 (fun c => by rw [leq_n (by omega) (by omega), decide_eq_false hc]), ← hk, gtr_n (by omega) (by omega), decide_eq_true (by omega), isP_iff.2 (primeN_of h2 hno (by omega))]
theorem f52_ok {n : Nat} (h2 : 2 ≤ n) (hn : n < 100000) (S : St) (k : Cont) : F52 (ii n) S k = k (.b (isP n)) S := by
  have h : ∀ (B E : CS 5) (kn : Fn 5) (kx : Nat → Fn 5) (kr : Fn 5), cSeq A52 (cSeq (cSeq A52b B) E) kn kx kr (ii n) .other .other .other .other S = B (E kn kx kr) kx kr (ii n) (ii 2) .other .other (.b false) S := fun B E kn kx kr => rfl
  unfold F52 G52
  rw [C52_eq, h]
  obtain ⟨kx', h1, h2'⟩ := block_loop B52 (E52 (fun v0 v1 v2 v3 v4 S => k v4 S) (fun _ => bot 5) (fun v0 v1 v2 v3 v4 S => k v4 S)) (fun _ => bot 5) (fun v0 v1 v2 v3 v4 S => k v4 S)
  rw [h2']
  exact loop52 n h2 hn kx' k (fun v0 v1 v2 v3 S => by rw [h1]; rfl) S 1000000 2 _ _ (by omega) (by omega) (by omega) fun e a b => by omega

/-- the permitted primes -/
def pB (n : Nat) : Bool := decide (2 ≤ n ∧ n ≤ 65521 ∧ isP n = true)
theorem f13_lo (v : V) (S : St) (k : Cont) (h : ∀ c, pGeq v (nn 2) c = c (.b false)) : F13 v S k = k (.b false) S := by
  simp only [F13, G13, C13, cSeq, cReg, cRet, h, pGd_ft, pPick_f]
theorem f13_hi (v : V) (S : St) (k : Cont) (h : ∀ c, pGeq v (nn 2) c = c (.b true)) (h2 : ∀ c, pLeq v (nn 65521) c = c (.b false)) : F13 v S k = k (.b false) S := by
  simp only [F13, G13, C13, cSeq, cReg, cRet, h, h2, pGd_tt, pGd_ft, pPick_t, pPick_f]
theorem f13_in (v : V) (b : Bool) (S : St) (k : Cont) (h : ∀ c, pGeq v (nn 2) c = c (.b true)) (h2 : ∀ c, pLeq v (nn 65521) c = c (.b true)) (h3 : ∀ c : Cont, F52 v S c = c (.b b) S) : F13 v S k = k (.b b) S := by
  simp only [F13, G13, C13, cSeq, cReg, cRet, h, h2, h3, pGd_tt, pGd_ft, pPick_t, pPick_f]
theorem sh_n {n : Nat} (hs : n < 9223372036854775808) : sh .i64 n = n + 9223372036854775808 := by
  show (n + 9223372036854775808) % 18446744073709551616 = _
  omega
theorem sh_m {n : Nat} (h1 : 9223372036854775808 ≤ n) (hn : n < 18446744073709551616) : sh .i64 n = n - 9223372036854775808 := by
  show (n + 9223372036854775808) % 18446744073709551616 = _
  omega
theorem f13_ok {n : Nat} (hn : n < 18446744073709551616) (S : St) (k : Cont) : F13 (nn n) S k = k (.b (pB n)) S := by
  by_cases hs : n < 9223372036854775808
  · by_cases ha : 2 ≤ n
    · have e1 : ∀ c, pGeq (nn n) (nn 2) c = c (.b true) := fun c => by rw [geq_n hs (by omega), decide_eq_true ha]
      by_cases hb : n ≤ 65521
      · rw [f13_in (nn n) (isP n) S k e1 (fun c => by rw [leq_n hs (by omega), decide_eq_true hb]) (fun c => f52_ok (by omega) (by omega) S c)]
        unfold pB
        cases hp : isP n
        · rw [decide_eq_false (by rintro ⟨_, _, h⟩; cases h)]
        · rw [decide_eq_true ⟨by omega, by omega, rfl⟩]
      · rw [f13_hi (nn n) S k e1 (fun c => by rw [leq_n hs (by omega), decide_eq_false hb]), pB, decide_eq_false (by omega)]
    · rw [f13_lo (nn n) S k (fun c => by rw [geq_n hs (by omega), decide_eq_false ha]), pB, decide_eq_false (by omega)]
  · rw [f13_lo (nn n) S k (fun c => by rw [pGeq_i, sh_m (by omega) hn, sh_n (by omega), ble_eq, decide_eq_false (by omega)]), pB, decide_eq_false (by omega)]
/- polymod.prime, Check of no polynomial, modfactor.permitted -/
def F113x : Gn 1 := G113 (C113 F147p)
theorem K113x : FOK Tryz.prog 113 (un 1 F113x) := fokP (.cons K147p .nil) .nil hm Tryz.func113 (by kernel_rfl) (D113 F147p) (H113 _)
section
variable (v : V) (S : St) (k : Cont)
theorem f113_lo (h : ∀ c, pLss v (nn 2) c = c (.b true)) : F113x v S k = k (nn 7) S := by
  simp only [F113x, G113, C113, cSeq, cReg, cCond, cRet, h, pGd_tf, pPick_t, ifT, pGd_uf]
theorem f113_hi (h : ∀ c, pLss v (nn 2) c = c (.b false)) (h2 : ∀ c, pGtr v (nn 65521) c = c (.b true)) : F113x v S k = k (nn 7) S := by
  simp only [F113x, G113, C113, cSeq, cReg, cCond, cRet, h, h2, pGd_ff, pPick_f, ifT]
theorem f113_np (h : ∀ c, pLss v (nn 2) c = c (.b false)) (h2 : ∀ c, pGtr v (nn 65521) c = c (.b false)) (h3 : ∀ c : Cont, F147p v S c = c (.tu [.b false, nn 0]) S) : F113x v S k = k (nn 7) S := by
  have e : ∀ c, pNeq (nn 0) (nn 0) c = c (.b false) := fun c => by rfl
  simp only [F113x, G113, C113, cSeq, cReg, cCond, cSkip, cRet, h, h2, h3, e, ext0, ext1, pNot_f, pGd_ff, pPick_f, ifT, ifF]
theorem f113_p (h : ∀ c, pLss v (nn 2) c = c (.b false)) (h2 : ∀ c, pGtr v (nn 65521) c = c (.b false)) (h3 : ∀ c : Cont, F147p v S c = c (.tu [.b true, nn 0]) S) : F113x v S k = k (nn 0) S := by
  have e : ∀ c, pNeq (nn 0) (nn 0) c = c (.b false) := fun c => by rfl
  simp only [F113x, G113, C113, cSeq, cReg, cCond, cSkip, cRet, h, h2, h3, e, ext0, ext1, pNot_t, pGd_ff, pPick_f, ifF]
end
theorem f113_ok {n : Nat} (hn : n < 18446744073709551616) (S : St) (k : Cont) : F113x (nn n) S k = k (nn (if pB n = true then 0 else 7)) S := by
  unfold pB
  by_cases hs : n < 9223372036854775808
  · by_cases ha : 2 ≤ n
    · have e1 : ∀ c, pLss (nn n) (nn 2) c = c (.b false) := fun c => by rw [lss_n hs (by omega), decide_eq_false (by omega)]
      by_cases hb : n ≤ 65521
      · have e2 : ∀ c, pGtr (nn n) (nn 65521) c = c (.b false) := fun c => by rw [gtr_n hs (by omega), decide_eq_false (by omega)]
        have e3 : ∀ c : Cont, F147p (nn n) S c = c (.tu [.b (isP n), nn 0]) S := fun c => F147p_eq ha (by omega) S c
        cases hp : isP n with
        | false => rw [hp] at e3; rw [f113_np _ S k e1 e2 e3, if_neg (by simp)]
        | true => rw [hp] at e3; rw [f113_p _ S k e1 e2 e3, if_pos (by simp [ha, hb])]
      · rw [f113_hi _ S k e1 (fun c => by rw [gtr_n hs (by omega), decide_eq_true (by omega)]), if_neg (by simp; omega)]
    · rw [f113_lo _ S k (fun c => by rw [lss_n hs (by omega), decide_eq_true (by omega)]), if_neg (by simp; omega)]
  · rw [f113_lo _ S k (fun c => by rw [pLss_i, sh_m (by omega) hn, sh_n (by omega), blt_eq, decide_eq_true (by omega)]), if_neg (by simp; omega)]
theorem f114_nil (v : V) (S : St) (k : Cont) : F114 .sn v S k = k (.b false) S := by kernel_rfl
def F70x : Gn 2 := G70 (C70 F113x F114)
theorem K70x : FOK Tryz.prog 70 (un 2 F70x) := fokP (.cons K113x (.cons K114 .nil)) .nil hm Tryz.func70 (by kernel_rfl) (D70 F113x F114) (H70 _)
theorem f70_bad (f113 : Gn 1) (f114 : Gn 2) (v b : V) (S S1 : St) (k : Cont) (h1 : ∀ c : Cont, pBox v S c = c b S1) (h2 : ∀ c, pLd b S1 c = c v) (h3 : ∀ c, f113 v S1 c = c (nn 7) S1) : G70 (C70 f113 f114) v .sn S k = k (nn 7) S1 := by
  have e : ∀ c, pNeq (nn 7) (nn 0) c = c (.b true) := fun c => by rfl
  simp only [G70, C70, cSeq, cReg, cCond, cSkip, cRet, h1, h2, h3, e, ifT]
theorem f70_good (f113 : Gn 1) (f114 : Gn 2) (v b : V) (S S1 : St) (k : Cont) (h1 : ∀ c : Cont, pBox v S c = c b S1) (h2 : ∀ c, pLd b S1 c = c v) (h3 : ∀ c, f113 v S1 c = c (nn 0) S1) (h4 : ∀ c, f114 .sn (.f 115 [b]) S1 c = c (.b false) S1) : G70 (C70 f113 f114) v .sn S k = k (nn 0) S1 := by
  have e : ∀ c, pNeq (nn 0) (nn 0) c = c (.b false) := fun c => by rfl
  have e1 : ∀ c, pLen .sn c = c (nn 0) := fun c => by rfl
  have e2 : ∀ c, pGtr (nn 0) (nn 65) c = c (.b false) := fun c => by rfl
  have e3 : ∀ c, pGtr (nn 0) (nn 0) c = c (.b false) := fun c => by rfl
  simp only [G70, C70, cSeq, cReg, cCond, cSkip, cRet, h1, h2, h3, h4, e, e1, e2, e3, pGd_ff, pGd_ft, pPick_f, pGd_uf, pGd_ut, ifF]
theorem f70_ok {n : Nat} (hn : n < 18446744073709551616) (S : St) (k : Cont) : F70x (nn n) .sn S k = k (nn (if pB n = true then 0 else 7)) (S.new [nn n]) := by
  have hl : ∀ c, pLd (.p S.nx 0) (S.new [nn n]) c = c (nn n) := fun c => pLd_eq (St.new_get _ _) (by rfl) c
  have h3 := f113_ok hn (S.new [nn n])
  unfold F70x
  by_cases hb : pB n = true
  · rw [if_pos hb] at h3 ⊢
    exact f70_good F113x F114 _ _ S _ k (fun c => pBox_eq (cellsK_i _ _) S c) hl h3 (fun c => f114_nil _ _ c)
  · rw [if_neg hb] at h3 ⊢
    exact f70_bad F113x F114 _ _ S _ k (fun c => pBox_eq (cellsK_i _ _) S c) hl h3
def F45x : Gn 1 := G45 (C45 F70x)
theorem K45x : FOK Tryz.prog 45 (un 1 F45x) := fokP (.cons K70x .nil) .nil hm Tryz.func45 (by kernel_rfl) (D45 F70x) (H45 _)
theorem f45_go (f70 : Gn 2) (v a : V) (b : Bool) (S S1 : St) (k : Cont) (h1 : ∀ c, f70 v .sn S c = c a S1) (h2 : ∀ c, pEql a (nn 0) c = c (.b b)) : G45 (C45 f70) v S k = k (.b b) S1 := by
  simp only [G45, C45, cSeq, cReg, cRet, h1, h2]
theorem f45_ok {n : Nat} (hn : n < 18446744073709551616) (S : St) (k : Cont) : F45x (nn n) S k = k (.b (pB n)) (S.new [nn n]) :=
  f45_go F70x _ _ _ S _ k (fun c => f70_ok hn S c) (fun c => by
    cases hb : pB n with
    | true => rw [if_pos rfl, eql_n]; rfl
    | false => rw [if_neg (by simp), eql_n]; rfl)
def E45 : List V → Option V
  | [.i .i64 n] => if n < 18446744073709551616 then some (.b (pB n)) else none
  | _ => none
def F45t : Gn 1 := cur 1 (pureF E45)
theorem K45t : FOK Tryz.prog 45 (un 1 F45t) := cur_ok 1 (pure_ok K45x E45 fun vs v hv => by
  unfold E45 at hv
  split at hv
  · split at hv
    · rename_i n hn
      cases hv
      exact ⟨by rfl, by rfl, _, by rw [un1p]; exact f45_ok hn _ _⟩
    · cases hv
  · cases hv)
theorem F45t_eq {n : Nat} (hn : n < 18446744073709551616) (S : St) (k : Cont) : F45t (nn n) S k = k (.b (pB n)) S := by
  have e : E45 [nn n] = some (.b (pB n)) := if_pos hn
  show pureF E45 [nn n] S k = _
  simp only [pureF, e]
/- Moebius -/
def muL : List Nat := [1, 18446744073709551615, 18446744073709551615, 0, 18446744073709551615, 1, 18446744073709551615, 0, 0, 1, 18446744073709551615, 0, 18446744073709551615, 1, 1, 0, 18446744073709551615, 0, 18446744073709551615, 0, 1, 1, 18446744073709551615, 0, 0, 1, 0, 0, 18446744073709551615, 18446744073709551615, 18446744073709551615, 0, 1, 1, 1, 0, 18446744073709551615, 1, 1, 0, 18446744073709551615, 18446744073709551615, 18446744073709551615, 0, 0, 1, 18446744073709551615, 0, 0, 0, 1, 0, 18446744073709551615, 0, 1, 0, 1, 1, 18446744073709551615, 0, 18446744073709551615, 1, 0, 0]
def muI : List Int := [1, -1, -1, 0, -1, 1, -1, 0, 0, 1, -1, 0, -1, 1, 1, 0, -1, 0, -1, 0, 1, 1, -1, 0, 0, 1, 0, 0, -1, -1, -1, 0, 1, 1, 1, 0, -1, 1, 1, 0, -1, -1, -1, 0, 0, 1, -1, 0, 0, 0, 1, 0, -1, 0, 1, 0, 1, 1, -1, 0, -1, 1, 0, 0]
def mu (n : Nat) : Int := muI.getD (n - 1) 0
theorem mu_mi (n : Nat) (h1 : 1 ≤ n) (h2 : n ≤ 64) : mi (muL.getD (n - 1) 0) = mu n ∧ muL.getD (n - 1) 0 < 18446744073709551616 ∧ (mu n).natAbs ≤ 1 := by
  have key : ∀ z : Fin 64, mi (muL.getD z.val 0) = muI.getD z.val 0 ∧ muL.getD z.val 0 < 18446744073709551616 ∧ (muI.getD z.val 0).natAbs ≤ 1 := by decide +kernel
  exact key ⟨n - 1, by omega⟩
def chkM (F : Gn 1) : Bool := upto0 (fun n => okR (F (nn (n + 1)) (mkS []) fun v S => some (v, S)) (nn (muL.getD n 0))) 64
theorem chk49 : chkM F49 = true := by kernel_rfl
theorem chk55 : chkM F55 = true := by kernel_rfl
def EM : List V → Option V
  | [.i .i64 n] => if 1 ≤ n ∧ n ≤ 64 then some (nn (muL.getD (n - 1) 0)) else none
  | _ => none
theorem EM_ok {f : FuncId} {F : Gn 1} (hF : FOK Tryz.prog f (un 1 F)) (hc : chkM F = true) : FOK Tryz.prog f (un 1 (cur 1 (pureF EM))) := cur_ok 1 (pureS_ok hF EM fun vs v hv => by
  unfold EM at hv
  split at hv
  · split at hv
    · rename_i n hn
      cases hv
      obtain ⟨n, rfl⟩ : ∃ z, n = z + 1 := ⟨n - 1, by omega⟩
      obtain ⟨S2, e⟩ := okR_some (upto0_ok hc n (by omega))
      exact ⟨by rfl, by rfl, S2, by rw [un1p]; exact e⟩
    · cases hv
  · cases hv)
def FMt : Gn 1 := cur 1 (pureF EM)
theorem K49t : FOK Tryz.prog 49 (un 1 FMt) := EM_ok K49 chk49
theorem K55t : FOK Tryz.prog 55 (un 1 FMt) := EM_ok K55 chk55
theorem FMt_eq {n : Nat} (h1 : 1 ≤ n) (h2 : n ≤ 64) (S : St) (k : Cont) : FMt (nn n) S k = k (nn (muL.getD (n - 1) 0)) S := by
  have e : EM [nn n] = some (nn (muL.getD (n - 1) 0)) := if_pos ⟨h1, h2⟩
  show pureF EM [nn n] S k = _
  simp only [pureF, e]
end
end Go.AM

/- modfactor.Count and the reference's: both are the quotient of one sum. -/
namespace Go.AM
open Go.Proofs
open Go.AM.Q
open Go.AM.U
set_option linter.unusedVariables false
set_option linter.unusedSimpArgs false
noncomputable section
variable {S0 S : St} {out : V × St}
def cT (p n d : Nat) : Int := if n % d = 0 then mu d * ((p ^ (n / d) : Nat) : Int) else 0
def cS (p n : Nat) : Nat → Int
  | 0 => 0
  | j + 1 => cS p n j + cT p n (j + 1)
theorem p_pow {p n d : Nat} (hp : p < 65536) (hn : n ≤ 64) : p ^ (n / d) < 256 ^ 129 := by
  have h1 : p ^ (n / d) ≤ (256 ^ 2) ^ (n / d) := Nat.pow_le_pow_left (by omega) _
  have h2 : n / d ≤ 64 := Nat.le_trans (Nat.div_le_self _ _) hn
  rw [← Nat.pow_mul] at h1
  exact Nat.lt_of_le_of_lt h1 (Nat.pow_lt_pow_right (by decide) (by omega))
theorem p_pow' {p n d : Nat} (hp : p < 65536) (hn : n ≤ 64) : p ^ (n / d) ≤ 256 ^ 128 := by
  have h1 : p ^ (n / d) ≤ (256 ^ 2) ^ (n / d) := Nat.pow_le_pow_left (by omega) _
  have h2 : n / d ≤ 64 := Nat.le_trans (Nat.div_le_self _ _) hn
  rw [← Nat.pow_mul] at h1
  exact Nat.le_trans h1 (Nat.pow_le_pow_right (by decide) (by omega))
theorem cT_abs {p n d : Nat} (hp : p < 65536) (hn : n ≤ 64) (h0 : 1 ≤ d) (hd : d ≤ 64) : (cT p n d).natAbs ≤ 256 ^ 128 := by
  unfold cT
  split
  · rw [Int.natAbs_mul, Int.natAbs_natCast]
    have h1 := (mu_mi d h0 hd).2.2
    have h2 := p_pow' (d := d) hp hn
    calc (mu d).natAbs * p ^ (n / d) ≤ 1 * 256 ^ 128 := Nat.mul_le_mul h1 h2
      _ = 256 ^ 128 := Nat.one_mul _
  · exact Nat.zero_le _
theorem cS_abs {p n : Nat} (hp : p < 65536) (hn : n ≤ 64) : ∀ j, j ≤ 64 → (cS p n j).natAbs ≤ j * 256 ^ 128
  | 0, _ => by simp [cS]
  | j + 1, hj => by
    have h1 := cS_abs hp hn j (by omega)
    have h2 := cT_abs (d := j + 1) hp hn (by omega) hj
    have h3 := Int.natAbs_add_le (cS p n j) (cT p n (j + 1))
    show (cS p n j + cT p n (j + 1)).natAbs ≤ _
    rw [Nat.add_mul, Nat.one_mul]
    omega
theorem cS_len {p n j : Nat} (hp : p < 65536) (hn : n ≤ 64) (hj : j ≤ 64) : (strN (cS p n j).natAbs).length ≤ 130 := by
  refine strN_len (Nat.lt_of_le_of_lt (cS_abs hp hn j hj) ?_)
  calc j * 256 ^ 128 ≤ 64 * 256 ^ 128 := Nat.mul_le_mul_right _ hj
    _ < 256 ^ 130 := by decide +kernel
theorem cT_len {p n d : Nat} (hp : p < 65536) (hn : n ≤ 64) (h0 : 1 ≤ d) (hd : d ≤ 64) : (strN (cT p n d).natAbs).length ≤ 130 :=
  strN_len (Nat.lt_of_le_of_lt (cT_abs hp hn h0 hd) (by decide +kernel))
theorem pSt2_eq {S : St} {id : Pos} {b : Nat} {y1 y2 x1 x2 : V} (h : S.h.get id = some ⟨b, [y1, y2]⟩) (hb : S.fl ≤ b) (c : St → R) : pSt 2 (.p id 0) (.ag [x1, x2]) S c = c (S.upd id ⟨b, [x1, x2]⟩) := by
  show updK id S 0 [x1, x2] c = _
  show getBK id S.h _ = _
  rw [getBK_eq _ _ _ _ h]
  show gu (Nat.ble S.fl b) _ = _
  rw [Nat.ble_eq_true_of_le hb]
  show setBK id (.mk b [x1, x2]) S.h _ = _
  rw [setBK_eq]; rfl
theorem pLdn2_eq {S : St} {id : Pos} {b : Nat} {x1 x2 : V} (h : S.h.get id = some ⟨b, [x1, x2]⟩) (c : V → R) : pLdn 2 (.p id 0) S c = c (.ag [x1, x2]) := by
  show cellsAt id S (fun cs => dropK cs 0 (fun l => takeK l 2 (fun l => c (.ag l)))) = _
  rw [cellsAt_eq h]; rfl
theorem Own_st2 {id : Pos} {y1 y2 : V} (x1 x2 : V) (h : Own S0 S id [y1, y2]) (r : Run S0 S) : ∃ S', Run S0 S' ∧ Own S0 S' id [x1, x2] ∧ (∀ q ds, q ≠ id → Own S0 S q ds → Own S0 S' q ds) ∧ ∀ c : St → R, pSt 2 (.p id 0) (.ag [x1, x2]) S c = c S' := by
  obtain ⟨h0, n, h1, h2⟩ := h
  have hp := r.pos
  refine ⟨S.upd id ⟨n, [x1, x2]⟩, ⟨r.ok.upd h1 (.inl ⟨rfl, show n ≠ 0 by omega⟩), r.fl, r.cnt, r.pos, fun q hq => ?_⟩, ⟨h0, n, St.upd_get _ _, h2⟩, fun q ds hq ho => ho.upd (ds := []) hq, fun c => pSt2_eq h1 (by rw [r.fl]; exact h2) c⟩
  rw [St.upd_get_ne _ (fun e => by rw [e] at hq; omega)]; exact r.old q hq
/-- an integer in a box of one's own -/
def Box (S0 S : St) (id : Pos) (z : Int) : Prop := Own S0 S id [.b (decide (z < 0)), .s (strN z.natAbs)]
theorem Box.ld {id : Pos} {z : Int} (h : Box S0 S id z) (c : V → R) : pLdn 2 (.p id 0) S c = c (iv z) := by
  obtain ⟨h0, n, h1, h2⟩ := h
  rw [pLdn2_eq h1]; rfl
theorem Box.abs {id : Pos} {z : Int} (h : Box S0 S id z) (c : V → R) : pLd (.p id 1) S c = c (.s (strN z.natAbs)) := by
  obtain ⟨h0, n, h1, h2⟩ := h
  exact pLd_eq h1 (by rfl) c
theorem Box.st {id : Pos} {y1 y2 : V} (z : Int) (h : Own S0 S id [y1, y2]) (r : Run S0 S) : ∃ S', Run S0 S' ∧ Box S0 S' id z ∧ (∀ q ds, q ≠ id → Own S0 S q ds → Own S0 S' q ds) ∧ ∀ c : St → R, pSt 2 (.p id 0) (iv z) S c = c S' :=
  Own_st2 _ _ h r
theorem mi_small {k : Nat} (h : k < 9223372036854775808) : mi k = (k : Int) := if_pos h
/- Count -/
def B12 (f46 f47 : Gn 2) (f48 f49 : Gn 1) (f50 : Gn 2) : CS 11 := (cSeq (cSeq (cReg fun kn v0 v1 v2 v3 v4 v5 v6 v7 v8 v9 v10 S => pLeq v4 v1 (fun a0 => kn v0 v1 v2 v3 v4 a0 v6 v7 v8 v9 v10 S)) (cCond (fun x y v0 v1 v2 v3 v4 v5 v6 v7 v8 v9 v10 S => pIf v5 (x v0 v1 v2 v3 v4 v5 v6 v7 v8 v9 v10 S) (y v0 v1 v2 v3 v4 v5 v6 v7 v8 v9 v10 S)) cSkip (cExit 0))) (cSeq (cBlock 1 (cSeq (cReg fun kn v0 v1 v2 v3 v4 v5 v6 v7 v8 v9 v10 S => pRem v1 v4 (fun a0 => pEql a0 (.i .i64 0) (fun a1 => kn v0 v1 v2 v3 v4 v5 a1 v7 v8 v9 v10 S))) (cCond (fun x y v0 v1 v2 v3 v4 v5 v6 v7 v8 v9 v10 S => pIf v6 (x v0 v1 v2 v3 v4 v5 v6 v7 v8 v9 v10 S) (y v0 v1 v2 v3 v4 v5 v6 v7 v8 v9 v10 S)) (cReg fun kn v0 v1 v2 v3 v4 v5 v6 v7 v8 v9 v10 S => pLdn 2 v7 S (fun a0 => pDraw (f49 v4) S (fun a1 S => pDraw (f48 a1) S (fun a2 S => pDraw (f48 v0) S (fun a3 S => pQuo v1 v4 (fun a4 => pDraw (f50 a3 a4) S (fun a5 S => pDraw (f47 a2 a5) S (fun a6 S => pDraw (f46 a0 a6) S (fun a7 S => pSt 2 v7 a7 S (fun S => kn v0 v1 v2 v3 v4 v5 v6 v7 v8 v9 v10 S)))))))))) cSkip))) (cReg fun kn v0 v1 v2 v3 v4 v5 v6 v7 v8 v9 v10 S => pAdd v4 (.i .i64 1) (fun a0 => kn v0 v1 v2 v3 a0 v5 v6 v7 v8 v9 v10 S))))
def HT12 (f45 f48 : Gn 1) (f51 : Gn 2) (I0 : CS 11) : CS 11 := (cSeq (cReg fun kn v0 v1 v2 v3 v4 v5 v6 v7 v8 v9 v10 S => kn v0 v1 v2 v3 v4 v5 v6 v7 v8 (.s []) (.i .i64 0) S) (cSeq (cSeq (cReg fun kn v0 v1 v2 v3 v4 v5 v6 v7 v8 v9 v10 S => f45 v0 S (fun a0 S => pNot a0 (fun a1 => kn v0 v1 a1 v3 v4 v5 v6 v7 v8 v9 v10 S))) (cCond (fun x y v0 v1 v2 v3 v4 v5 v6 v7 v8 v9 v10 S => pIf v2 (x v0 v1 v2 v3 v4 v5 v6 v7 v8 v9 v10 S) (y v0 v1 v2 v3 v4 v5 v6 v7 v8 v9 v10 S)) (cSeq (cReg fun kn v0 v1 v2 v3 v4 v5 v6 v7 v8 v9 v10 S => kn v0 v1 v2 v3 v4 v5 v6 v7 v8 (.s []) (.i .i64 7) S) cRet) cSkip)) (cSeq (cSeq (cReg fun kn v0 v1 v2 v3 v4 v5 v6 v7 v8 v9 v10 S => pLss v1 (.i .i64 1) (fun a0 => pGd a0 false (fun c => c v1 S) S (fun a1 S => pGd a0 false (fun c => pGtr a1 (.i .i64 64) (fun v => c v S)) S (fun a2 S => pPick a0 (.b true) a2 (fun a3 => kn v0 v1 v2 a3 v4 v5 v6 v7 v8 v9 v10 S))))) (cCond (fun x y v0 v1 v2 v3 v4 v5 v6 v7 v8 v9 v10 S => pIf v3 (x v0 v1 v2 v3 v4 v5 v6 v7 v8 v9 v10 S) (y v0 v1 v2 v3 v4 v5 v6 v7 v8 v9 v10 S)) (cSeq (cReg fun kn v0 v1 v2 v3 v4 v5 v6 v7 v8 v9 v10 S => kn v0 v1 v2 v3 v4 v5 v6 v7 v8 (.s []) (.i .i64 3) S) cRet) cSkip)) (cSeq (cReg fun kn v0 v1 v2 v3 v4 v5 v6 v7 v8 v9 v10 S => pBuild [(.b false),(.s [])] [] (fun a0 => pAlloc [(.b false),(.s [])] S (fun a1 S => pSt 2 a1 a0 S (fun S => kn v0 v1 v2 v3 v4 v5 v6 a1 v8 v9 v10 S)))) (cSeq (cSeq (cReg fun kn v0 v1 v2 v3 v4 v5 v6 v7 v8 v9 v10 S => kn v0 v1 v2 v3 (.i .i64 1) v5 v6 v7 v8 v9 v10 S) I0) (cSeq (cReg fun kn v0 v1 v2 v3 v4 v5 v6 v7 v8 v9 v10 S => pLdn 2 v7 S (fun a0 => pDraw (f48 v1) S (fun a1 S => pDraw (f51 a0 a1) S (fun a2 S => pExt a2 0 (fun a3 => pExt a2 1 (fun a4 => pAlloc [(.b false),(.s [])] S (fun a5 S => pAlloc [(.b false),(.s [])] S (fun a6 S => pSt 2 a5 a3 S (fun S => pSt 2 a6 a4 S (fun S => kn v0 v1 v2 v3 v4 v5 v6 v7 a5 v9 v10 S)))))))))) (cSeq (cReg fun kn v0 v1 v2 v3 v4 v5 v6 v7 v8 v9 v10 S => pFa 1 v8 (fun a0 => pLd a0 S (fun a1 => kn v0 v1 v2 v3 v4 v5 v6 v7 v8 a1 (.i .i64 0) S))) cRet)))))))
theorem C12_eq (f45 : Gn 1) (f46 f47 : Gn 2) (f48 f49 : Gn 1) (f50 f51 : Gn 2) : C12 f45 f46 f47 f48 f49 f50 f51 = HT12 f45 f48 f51 (cBlock 0 (cLoop (B12 f46 f47 f48 f49 f50))) := by rfl
section
variable (f46 f47 : Gn 2) (f45 f48 f49 : Gn 1) (f50 f51 : Gn 2) (K : Fn 11) (kx : Nat → Fn 11) (kr : Fn 11) (v0 v1 v2 v3 v4 v5 v6 v7 v8 v9 v10 a b d g m n' q s t uq w x y z z1 z2 w4 w5 w6 : V) (S S1 S2 S3 S4 S5 S6 S7 : St)
theorem ct_end (h1 : ∀ c, pLeq v4 v1 c = c (.b false)) : B12 f46 f47 f48 f49 f50 K kx kr v0 v1 v2 v3 v4 v5 v6 v7 v8 v9 v10 S = kx 0 v0 v1 v2 v3 v4 (.b false) v6 v7 v8 v9 v10 S := by
  simp only [B12, cSeq, cReg, cCond, cBlock, cSkip, cExit, cRet, h1, ifF]
theorem ct_no (h1 : ∀ c, pLeq v4 v1 c = c (.b true)) (h2 : ∀ c, pRem v1 v4 c = c a) (h3 : ∀ c, pEql a (nn 0) c = c (.b false)) (h4 : ∀ c, pAdd v4 (nn 1) c = c n') : B12 f46 f47 f48 f49 f50 K kx kr v0 v1 v2 v3 v4 v5 v6 v7 v8 v9 v10 S = K v0 v1 v2 v3 n' (.b true) (.b false) v7 v8 v9 v10 S := by
  simp only [B12, cSeq, cReg, cCond, cBlock, cSkip, cExit, cRet, h1, h2, h3, h4, ifT, ifF]
theorem ct_go (h1 : ∀ c, pLeq v4 v1 c = c (.b true)) (h2 : ∀ c, pRem v1 v4 c = c a) (h3 : ∀ c, pEql a (nn 0) c = c (.b true)) (h5 : ∀ c, pLdn 2 v7 S c = c b) (h6 : ∀ k, pDraw (f49 v4) S k = k m S) (h7 : ∀ k, pDraw (f48 m) S k = k x S) (h8 : ∀ k, pDraw (f48 v0) S k = k y S) (h9 : ∀ c, pQuo v1 v4 c = c q)
    (h10 : ∀ k, pDraw (f50 y q) S k = k z S) (h11 : ∀ k, pDraw (f47 x z) S k = k z1 S) (h12 : ∀ k, pDraw (f46 b z1) S k = k z2 S) (h13 : ∀ c, pSt 2 v7 z2 S c = c S1) (h4 : ∀ c, pAdd v4 (nn 1) c = c n') : B12 f46 f47 f48 f49 f50 K kx kr v0 v1 v2 v3 v4 v5 v6 v7 v8 v9 v10 S = K v0 v1 v2 v3 n' (.b true) (.b true) v7 v8 v9 v10 S1 := by
  simp only [B12, cSeq, cReg, cCond, cBlock, cSkip, cExit, cRet, h1, h2, h3, h4, h5, h6, h7, h8, h9, h10, h11, h12, h13, ifT]
theorem ch_bad (I0 : CS 11) (h1 : ∀ c, f45 v0 S c = c (.b false) S) : HT12 f45 f48 f51 I0 K kx kr v0 v1 v2 v3 v4 v5 v6 v7 v8 v9 v10 S = kr v0 v1 (.b true) v3 v4 v5 v6 v7 v8 (.s []) (nn 7) S := by
  simp only [HT12, cSeq, cReg, cCond, cBlock, cSkip, cExit, cRet, h1, pNot_f, ifT]
theorem ch_lo (I0 : CS 11) (h1 : ∀ c, f45 v0 S c = c (.b true) S) (h2 : ∀ c, pLss v1 (nn 1) c = c (.b true)) : HT12 f45 f48 f51 I0 K kx kr v0 v1 v2 v3 v4 v5 v6 v7 v8 v9 v10 S = kr v0 v1 (.b false) (.b true) v4 v5 v6 v7 v8 (.s []) (nn 3) S := by
  simp only [HT12, cSeq, cReg, cCond, cBlock, cSkip, cExit, cRet, h1, h2, pNot_t, pGd_tf, pGd_uf, pPick_t, ifT, ifF]
theorem ch_hi (I0 : CS 11) (h1 : ∀ c, f45 v0 S c = c (.b true) S) (h2 : ∀ c, pLss v1 (nn 1) c = c (.b false)) (h3 : ∀ c, pGtr v1 (nn 64) c = c (.b true)) : HT12 f45 f48 f51 I0 K kx kr v0 v1 v2 v3 v4 v5 v6 v7 v8 v9 v10 S = kr v0 v1 (.b false) (.b true) v4 v5 v6 v7 v8 (.s []) (nn 3) S := by
  simp only [HT12, cSeq, cReg, cCond, cBlock, cSkip, cExit, cRet, h1, h2, h3, pNot_t, pGd_ff, pPick_f, ifT, ifF]
theorem ch_go (I0 : CS 11) (h1 : ∀ c, f45 v0 S c = c (.b true) S) (h2 : ∀ c, pLss v1 (nn 1) c = c (.b false)) (h3 : ∀ c, pGtr v1 (nn 64) c = c (.b false)) (h4 : ∀ c : Cont, pAlloc [.b false, .s []] S c = c b S1) (h5 : ∀ c, pSt 2 b (.ag [.b false, .s []]) S1 c = c S2)
    (hL : ∀ (kn : Fn 11) (kx : Nat → Fn 11) (kr : Fn 11), I0 kn kx kr v0 v1 (.b false) (.b false) (nn 1) v5 v6 b v8 (.s []) (nn 0) S2 = kn v0 v1 (.b false) (.b false) w4 w5 w6 b v8 (.s []) (nn 0) S3)
    (h6 : ∀ c, pLdn 2 b S3 c = c a) (h7 : ∀ k, pDraw (f48 v1) S3 k = k x S3) (h8 : ∀ k, pDraw (f51 a x) S3 k = k (.tu [y, z]) S3) (h9 : ∀ c : Cont, pAlloc [.b false, .s []] S3 c = c d S4) (h10 : ∀ c : Cont, pAlloc [.b false, .s []] S4 c = c g S5) (h11 : ∀ c, pSt 2 d y S5 c = c S6) (h12 : ∀ c, pSt 2 g z S6 c = c S7)
    (h13 : ∀ c, pFa 1 d c = c q) (h14 : ∀ c, pLd q S7 c = c s) : HT12 f45 f48 f51 I0 K kx kr v0 v1 v2 v3 v4 v5 v6 v7 v8 v9 v10 S = kr v0 v1 (.b false) (.b false) w4 w5 w6 b d s (nn 0) S7 := by
  have e : ∀ c, pBuild [.b false, .s []] [] c = c (.ag [.b false, .s []]) := fun c => by rfl
  simp only [HT12, cSeq, cReg, cCond, cBlock, cSkip, cExit, cRet, h1, h2, h3, e, h4, h5, hL, h6, h7, h8, h9, h10, h11, h12, h13, h14, ext0, ext1, pNot_t, pGd_ff, pPick_f, ifF]
end
theorem ct_loop {p n : Nat} {io : Pos} (hp : p < 65536) (hn : n ≤ 64) : ∀ (N j : Nat) (S : St) (v5 v6 : V), j ≤ n → n < N + j → Run S0 S → Box S0 S io (cS p n j) →
    ∃ S' w6, Run S0 S' ∧ Box S0 S' io (cS p n n) ∧ ∀ (kx : Nat → Fn 11) (kr : Fn 11) (v2 v3 v8 v9 v10 : V), loopN (B12 F46t F47t F48t FMt F50t) kx kr N (nn p) (nn n) v2 v3 (nn (j + 1)) v5 v6 (.p io 0) v8 v9 v10 S = kx 0 (nn p) (nn n) v2 v3 (nn (n + 1)) (.b false) w6 (.p io 0) v8 v9 v10 S'
  | 0, j, S, v5, v6, h1, h2, r, hb => by omega
  | N + 1, j, S, v5, v6, h1, h2, r, hb => by
    by_cases hj : j < n
    · have g1 : ∀ c, pLeq (nn (j + 1)) (nn n) c = c (.b true) := fun c => by rw [leq_n (by omega) (by omega), decide_eq_true (by omega)]
      have g2 : ∀ c, pRem (nn n) (nn (j + 1)) c = c (nn (n % (j + 1))) := fun c => rem_n (by omega) (by omega) (by omega) c
      have g4 : ∀ c, pAdd (nn (j + 1)) (nn 1) c = c (nn (j + 1 + 1)) := fun c => add_n (by omega) c
      by_cases hd : n % (j + 1) = 0
      · have eT : cT p n (j + 1) = mu (j + 1) * ((p ^ (n / (j + 1)) : Nat) : Int) := if_pos hd
        obtain ⟨S1, r1, b1, _, a1⟩ := Box.st (cS p n (j + 1)) hb r
        obtain ⟨S', w6, z1, z2, z3⟩ := ct_loop hp hn N (j + 1) S1 (.b true) (.b true) hj (by omega) r1 b1
        obtain ⟨m1, m2, m3⟩ := mu_mi (j + 1) (by omega) (by omega)
        have lp : (strN p).length ≤ 16 := strN_len (Nat.lt_of_lt_of_le hp (by decide))
        have lm : (strN (mu (j + 1)).natAbs).length ≤ 50000 := Nat.le_trans (strN_len (w := 1) (by omega)) (by omega)
        have lpp : (strN (p ^ (n / (j + 1)))).length ≤ 50000 := Nat.le_trans (strN_len (p_pow hp hn)) (by omega)
        have lT := cT_len (d := j + 1) hp hn (by omega) (by omega)
        have lS := cS_len (j := j) hp hn (by omega)
        have hk : n / (j + 1) < 1000 := Nat.lt_of_le_of_lt (Nat.div_le_self _ _) (by omega)
        refine ⟨S', w6, z1, z2, fun kx kr v2 v3 v8 v9 v10 => ?_⟩
        rw [loopN_succ, ct_go (a := nn (n % (j + 1))) (b := iv (cS p n j)) (m := nn (muL.getD (j + 1 - 1) 0)) (x := iv (mu (j + 1))) (y := iv (p : Int)) (q := nn (n / (j + 1))) (z := iv ((p ^ (n / (j + 1)) : Nat) : Int)) (z1 := iv (cT p n (j + 1))) (z2 := iv (cS p n (j + 1))) (n' := nn (j + 1 + 1)) (S1 := S1) (h1 := g1) (h2 := g2) (h3 := fun c => by rw [eql_n, decide_eq_true hd]) (h5 := fun c => hb.ld c) (h6 := fun k => pDraw_pure (fun S k => FMt_eq (by omega) (by omega) S k) S k)
          (h7 := fun k => pDraw_pure (fun S k => by rw [eof_eq m2, m1]) S k) (h8 := fun k => pDraw_pure (fun S k => by rw [eof_eq (by omega), mi_small (by omega)]) S k) (h9 := fun c => quo_n (by omega) (by omega) (by omega) c) (h10 := fun k => pDraw_pure (fun S k => epow_eq hk lp S k) S k) (h11 := fun k => pDraw_pure (fun S k => by rw [emul_eq ⟨lm, by rw [Int.natAbs_natCast]; exact lpp⟩, eT]) S k)
          (h12 := fun k => pDraw_pure (fun S k => eadd_eq ⟨by omega, by omega⟩ S k) S k) (h13 := a1) (h4 := g4)]
        exact z3 kx kr v2 v3 v8 v9 v10
      · have eT : cS p n (j + 1) = cS p n j := by
          show cS p n j + cT p n (j + 1) = _
          rw [cT, if_neg hd, Int.add_zero]
        obtain ⟨S', w6, z1, z2, z3⟩ := ct_loop hp hn N (j + 1) S (.b true) (.b false) hj (by omega) r (by rw [eT]; exact hb)
        refine ⟨S', w6, z1, z2, fun kx kr v2 v3 v8 v9 v10 => ?_⟩
        rw [loopN_succ, ct_no (h1 := g1) (h2 := g2) (h3 := fun c => by rw [eql_n, decide_eq_false hd]) (h4 := g4)]
        exact z3 kx kr v2 v3 v8 v9 v10
    · have : j = n := by omega
      subst this
      refine ⟨S, v6, r, hb, fun kx kr v2 v3 v8 v9 v10 => ?_⟩
      rw [loopN_succ, ct_end (h1 := fun c => by rw [leq_n (by omega) (by omega), decide_eq_false (by omega)])]
def F12x : Gn 2 := G12 (C12 F45t F46t F47t F48t FMt F50t F51t)
theorem K12x : FOK Tryz.prog 12 (un 2 F12x) := fokP (.cons K45t (.cons K46t (.cons K47t (.cons K48t (.cons K49t (.cons K50t (.cons K51t .nil))))))) .nil hm Tryz.func12 (by kernel_rfl) (D12 F45t F46t F47t F48t FMt F50t F51t) (H12 _)
/-- the number of irreducible polynomials -/
def cN (p n : Nat) : Nat := (cS p n n / (n : Int)).natAbs
theorem alloc2 (r : Run S0 S) (c : Cont) : pAlloc [.b false, .s []] S c = c (.p S.nx 0) (S.new [.b false, .s []]) := pAlloc_eq _ S c
theorem count_run {p n : Nat} (hp : p < 65536) (hb : pB p = true) (h1 : 1 ≤ n) (hn : n ≤ 64) (r : Run S0 S) : ∃ S', ∀ k, F12x (nn p) (nn n) S k = k (.tu [.s (strN (cN p n)), nn 0]) S' := by
  have r1 := r.new [.b false, .s []]
  obtain ⟨S2, r2, b2, _, a2⟩ := Box.st 0 (Own.new r [.b false, .s []]) r1
  obtain ⟨S3, w6, r3, b3, z3⟩ := ct_loop (p := p) (n := n) hp hn 1000000 0 S2 .other .other (by omega) (by omega) r2 b2
  have r4 := r3.new [.b false, .s []]
  have o4 := Own.new r3 [.b false, .s []]
  have r5 := r4.new [.b false, .s []]
  have o5 := Own.new r4 [.b false, .s []]
  obtain ⟨o4', ne4⟩ := o4.keep r4 [.b false, .s []]
  obtain ⟨S6, r6, b6, k6, a6⟩ := Box.st (cS p n n / (n : Int)) o4' r5
  obtain ⟨S7, r7, b7, k7, a7⟩ := Box.st (cS p n n % (n : Int)) (k6 _ _ (Ne.symm ne4) o5) r6
  have b6' : Box S0 S7 S3.nx (cS p n n / (n : Int)) := k7 _ _ ne4 b6
  have lS := cS_len (j := n) hp hn hn
  refine ⟨S7, fun k => ?_⟩
  unfold F12x G12
  rw [C12_eq, ch_go (b := .p S.nx 0) (a := iv (cS p n n)) (x := iv (n : Int)) (y := iv (cS p n n / (n : Int))) (z := iv (cS p n n % (n : Int))) (d := .p S3.nx 0) (g := .p (S3.new [.b false, .s []]).nx 0) (q := .p S3.nx 1) (s := .s (strN (cN p n))) (w4 := nn (n + 1)) (w5 := .b false) (w6 := w6) (S1 := S.new [.b false, .s []]) (S2 := S2) (S3 := S3) (S4 := S3.new [.b false, .s []]) (S5 := (S3.new [.b false, .s []]).new [.b false, .s []]) (S6 := S6) (S7 := S7)
    (h1 := fun c => by rw [F45t_eq (by omega), hb]) (h2 := fun c => by rw [lss_n (by omega) (by omega), decide_eq_false (by omega)]) (h3 := fun c => by rw [gtr_n (by omega) (by omega), decide_eq_false (by omega)]) (h4 := fun c => pAlloc_eq _ S c) (h5 := a2) (hL := fun kn kx kr => ?_)
    (h6 := fun c => b3.ld c) (h7 := fun k => pDraw_pure (fun S k => by rw [eof_eq (by omega), mi_small (by omega)]) S3 k) (h8 := fun k => pDraw_pure (fun S k => ediv_eq (by omega) (by omega) (by omega) S k) S3 k) (h9 := fun c => pAlloc_eq _ S3 c) (h10 := fun c => pAlloc_eq _ _ c) (h11 := a6) (h12 := a7) (h13 := fun c => by rfl) (h14 := fun c => b6'.abs c)]
  obtain ⟨kx', e1, e2⟩ := block_loop_at 0 (B12 F46t F47t F48t FMt F50t) kn kx kr
  rw [e2]
  refine (z3 kx' kr _ _ _ _ _).trans ?_
  rw [e1]
/-- what Count hands back -/
def cV (p n : Nat) : V := if pB p = true then (if 1 ≤ n ∧ n ≤ 64 then .tu [.s (strN (cN p n)), nn 0] else .tu [.s [], nn 3]) else .tu [.s [], nn 7]
theorem pB_lt {p : Nat} (h : pB p = true) : 2 ≤ p ∧ p < 65536 := by
  have := of_decide_eq_true h
  omega
theorem cV_run {p n : Nat} (hp : p < 18446744073709551616) (hn : n < 18446744073709551616) (r : Run S0 S) : ∃ S', ∀ k, F12x (nn p) (nn n) S k = k (cV p n) S' := by
  unfold cV
  by_cases hb : pB p = true
  · rw [if_pos hb]
    have e1 : ∀ c, F45t (nn p) S c = c (.b true) S := fun c => by rw [F45t_eq hp, hb]
    by_cases h : 1 ≤ n ∧ n ≤ 64
    · rw [if_pos h]
      exact count_run (pB_lt hb).2 hb h.1 h.2 r
    · rw [if_neg h]
      refine ⟨S, fun k => ?_⟩
      unfold F12x G12
      rw [C12_eq]
      by_cases hs : n < 9223372036854775808
      · by_cases h0 : n < 1
        · rw [ch_lo (h1 := e1) (h2 := fun c => by rw [lss_n hs (by omega), decide_eq_true h0])]
        · rw [ch_hi (h1 := e1) (h2 := fun c => by rw [lss_n hs (by omega), decide_eq_false h0]) (h3 := fun c => by rw [gtr_n hs (by omega), decide_eq_true (by omega)])]
      · rw [ch_lo (h1 := e1) (h2 := fun c => by rw [pLss_i, sh_m (by omega) hn, sh_n (by omega), blt_eq, decide_eq_true (by omega)])]
  · rw [if_neg hb]
    refine ⟨S, fun k => ?_⟩
    unfold F12x G12
    rw [C12_eq, ch_bad (h1 := fun c => by rw [F45t_eq hp, Bool.eq_false_iff.2 hb])]
def E12 : List V → Option V
  | [.i .i64 p, .i .i64 n] => if p < 18446744073709551616 ∧ n < 18446744073709551616 then some (cV p n) else none
  | _ => none
theorem cV_flat (p n : Nat) : plT (cV p n) = true := by
  unfold cV
  split
  · split <;> rfl
  · rfl
def F12t : Gn 2 := cur 2 (pureF E12)
theorem K12t : FOK Tryz.prog 12 (un 2 F12t) := cur_ok 2 (pureS_ok K12x E12 fun vs v hv => by
  unfold E12 at hv
  split at hv
  · split at hv
    · rename_i p n h
      cases hv
      obtain ⟨S2, z⟩ := cV_run h.1 h.2 mkS_run
      exact ⟨by rfl, cV_flat p n, S2, by rw [un2p]; exact z _⟩
    · cases hv
  · cases hv)
theorem count_eq {p n : Nat} (hp : p < 18446744073709551616) (hn : n < 18446744073709551616) (S : St) (k : Cont) : F12t (nn p) (nn n) S k = k (cV p n) S := by
  have e : E12 [nn p, nn n] = some (cV p n) := if_pos ⟨hp, hn⟩
  show pureF E12 [nn p, nn n] S k = _
  simp only [pureF, e]
end
end Go.AM

/- galoisref10.Count; the law ModfactorCounts. -/
namespace Go.AM
open Go.Proofs
open Go.AM.Q
open Go.AM.U
set_option linter.unusedVariables false
set_option linter.unusedSimpArgs false
noncomputable section
variable {S0 S : St} {out : V × St}
def B14 (f19 : Gn 2) (f20 : Gn 1) (f53 f54 : Gn 2) (f55 : Gn 1) : CS 8 := (cSeq (cSeq (cReg fun kn v0 v1 v2 v3 v4 v5 v6 v7 S => pLeq v2 v1 (fun a0 => kn v0 v1 v2 a0 v4 v5 v6 v7 S)) (cCond (fun x y v0 v1 v2 v3 v4 v5 v6 v7 S => pIf v3 (x v0 v1 v2 v3 v4 v5 v6 v7 S) (y v0 v1 v2 v3 v4 v5 v6 v7 S)) cSkip (cExit 0))) (cSeq (cBlock 1 (cSeq (cReg fun kn v0 v1 v2 v3 v4 v5 v6 v7 S => pRem v1 v2 (fun a0 => pEql a0 (.i .i64 0) (fun a1 => kn v0 v1 v2 v3 a1 v5 v6 v7 S))) (cCond (fun x y v0 v1 v2 v3 v4 v5 v6 v7 S => pIf v4 (x v0 v1 v2 v3 v4 v5 v6 v7 S) (y v0 v1 v2 v3 v4 v5 v6 v7 S)) (cSeq (cReg fun kn v0 v1 v2 v3 v4 v5 v6 v7 S => pDraw (f20 v0) S (fun a0 S => pQuo v1 v2 (fun a1 => pDraw (f19 a0 a1) S (fun a2 S => pAlloc [(.b false),(.s [])] S (fun a3 S => pSt 2 a3 a2 S (fun S => kn v0 v1 v2 v3 v4 v5 a3 v7 S)))))) (cReg fun kn v0 v1 v2 v3 v4 v5 v6 v7 S => pLdn 2 v5 S (fun a0 => pDraw (f55 v2) S (fun a1 S => pDraw (f20 a1) S (fun a2 S => pLdn 2 v6 S (fun a3 => pDraw (f54 a2 a3) S (fun a4 S => pDraw (f53 a0 a4) S (fun a5 S => pSt 2 v5 a5 S (fun S => kn v0 v1 v2 v3 v4 v5 v6 v7 S))))))))) cSkip))) (cReg fun kn v0 v1 v2 v3 v4 v5 v6 v7 S => pAdd v2 (.i .i64 1) (fun a0 => kn v0 v1 a0 v3 v4 v5 v6 v7 S))))
def HT14 (f20 : Gn 1) (f56 : Gn 2) (I0 : CS 8) : CS 8 := (cSeq (cReg fun kn v0 v1 v2 v3 v4 v5 v6 v7 S => kn v0 v1 v2 v3 v4 v5 v6 (.s []) S) (cSeq (cReg fun kn v0 v1 v2 v3 v4 v5 v6 v7 S => f20 (.i .i64 0) S (fun a0 S => pAlloc [(.b false),(.s [])] S (fun a1 S => pSt 2 a1 a0 S (fun S => kn v0 v1 v2 v3 v4 a1 v6 v7 S)))) (cSeq (cSeq (cReg fun kn v0 v1 v2 v3 v4 v5 v6 v7 S => kn v0 v1 (.i .i64 1) v3 v4 v5 v6 v7 S) I0) (cSeq (cReg fun kn v0 v1 v2 v3 v4 v5 v6 v7 S => pLdn 2 v5 S (fun a0 => pDraw (f20 v1) S (fun a1 S => pDraw (f56 a0 a1) S (fun a2 S => pFld 1 a2 (fun a3 => kn v0 v1 v2 v3 v4 v5 v6 a3 S))))) cRet))))
theorem C14_eq (f19 : Gn 2) (f20 : Gn 1) (f53 f54 : Gn 2) (f55 : Gn 1) (f56 : Gn 2) : C14 f19 f20 f53 f54 f55 f56 = HT14 f20 f56 (cBlock 0 (cLoop (B14 f19 f20 f53 f54 f55))) := by rfl
section
variable (f19 f53 f54 : Gn 2) (f20 f55 : Gn 1) (f56 : Gn 2) (K : Fn 8) (kx : Nat → Fn 8) (kr : Fn 8) (v0 v1 v2 v3 v4 v5 v6 v7 a b d g m n' q s t x y z z0 z1 z2 w2 w3 w4 w6 : V) (S S1 S2 S3 S4 : St)
theorem rt_end (h1 : ∀ c, pLeq v2 v1 c = c (.b false)) : B14 f19 f20 f53 f54 f55 K kx kr v0 v1 v2 v3 v4 v5 v6 v7 S = kx 0 v0 v1 v2 (.b false) v4 v5 v6 v7 S := by
  simp only [B14, cSeq, cReg, cCond, cBlock, cSkip, cExit, cRet, h1, ifF]
theorem rt_no (h1 : ∀ c, pLeq v2 v1 c = c (.b true)) (h2 : ∀ c, pRem v1 v2 c = c a) (h3 : ∀ c, pEql a (nn 0) c = c (.b false)) (h4 : ∀ c, pAdd v2 (nn 1) c = c n') : B14 f19 f20 f53 f54 f55 K kx kr v0 v1 v2 v3 v4 v5 v6 v7 S = K v0 v1 n' (.b true) (.b false) v5 v6 v7 S := by
  simp only [B14, cSeq, cReg, cCond, cBlock, cSkip, cExit, cRet, h1, h2, h3, h4, ifT, ifF]
theorem rt_go (h1 : ∀ c, pLeq v2 v1 c = c (.b true)) (h2 : ∀ c, pRem v1 v2 c = c a) (h3 : ∀ c, pEql a (nn 0) c = c (.b true)) (h5 : ∀ k, pDraw (f20 v0) S k = k y S) (h6 : ∀ c, pQuo v1 v2 c = c q) (h7 : ∀ k, pDraw (f19 y q) S k = k z S) (h8 : ∀ c : Cont, pAlloc [.b false, .s []] S c = c d S1) (h9 : ∀ c, pSt 2 d z S1 c = c S2)
    (h10 : ∀ c, pLdn 2 v5 S2 c = c b) (h11 : ∀ k, pDraw (f55 v2) S2 k = k m S2) (h12 : ∀ k, pDraw (f20 m) S2 k = k x S2) (h13 : ∀ c, pLdn 2 d S2 c = c z) (h14 : ∀ k, pDraw (f54 x z) S2 k = k z1 S2) (h15 : ∀ k, pDraw (f53 b z1) S2 k = k z2 S2) (h16 : ∀ c, pSt 2 v5 z2 S2 c = c S3) (h4 : ∀ c, pAdd v2 (nn 1) c = c n') :
    B14 f19 f20 f53 f54 f55 K kx kr v0 v1 v2 v3 v4 v5 v6 v7 S = K v0 v1 n' (.b true) (.b true) v5 d v7 S3 := by
  simp only [B14, cSeq, cReg, cCond, cBlock, cSkip, cExit, cRet, h1, h2, h3, h4, h5, h6, h7, h8, h9, h10, h11, h12, h13, h14, h15, h16, ifT]
theorem rh_go (I0 : CS 8) (h1 : ∀ c, f20 (nn 0) S c = c z0 S) (h4 : ∀ c : Cont, pAlloc [.b false, .s []] S c = c b S1) (h5 : ∀ c, pSt 2 b z0 S1 c = c S2)
    (hL : ∀ (kn : Fn 8) (kx : Nat → Fn 8) (kr : Fn 8), I0 kn kx kr v0 v1 (nn 1) v3 v4 b v6 (.s []) S2 = kn v0 v1 w2 w3 w4 b w6 (.s []) S3)
    (h6 : ∀ c, pLdn 2 b S3 c = c a) (h7 : ∀ k, pDraw (f20 v1) S3 k = k x S3) (h8 : ∀ k, pDraw (f56 a x) S3 k = k y S3) (h9 : ∀ c, pFld 1 y c = c s) : HT14 f20 f56 I0 K kx kr v0 v1 v2 v3 v4 v5 v6 v7 S = kr v0 v1 w2 w3 w4 b w6 s S3 := by
  simp only [HT14, cSeq, cReg, cCond, cBlock, cSkip, cExit, cRet, h1, h4, h5, hL, h6, h7, h8, h9]
end
theorem rt_loop {p n : Nat} {io : Pos} (hp : p < 65536) (hn : n ≤ 64) : ∀ (N j : Nat) (S : St) (v3 v4 v6 : V), j ≤ n → n < N + j → Run S0 S → Box S0 S io (cS p n j) →
    ∃ S' w4 w6, Run S0 S' ∧ Box S0 S' io (cS p n n) ∧ ∀ (kx : Nat → Fn 8) (kr : Fn 8) (v7 : V), loopN (B14 F19t F20t F53t F54t FMt) kx kr N (nn p) (nn n) (nn (j + 1)) v3 v4 (.p io 0) v6 v7 S = kx 0 (nn p) (nn n) (nn (n + 1)) (.b false) w4 (.p io 0) w6 v7 S'
  | 0, j, S, v3, v4, v6, h1, h2, r, hb => by omega
  | N + 1, j, S, v3, v4, v6, h1, h2, r, hb => by
    by_cases hj : j < n
    · have g1 : ∀ c, pLeq (nn (j + 1)) (nn n) c = c (.b true) := fun c => by rw [leq_n (by omega) (by omega), decide_eq_true (by omega)]
      have g2 : ∀ c, pRem (nn n) (nn (j + 1)) c = c (nn (n % (j + 1))) := fun c => rem_n (by omega) (by omega) (by omega) c
      have g4 : ∀ c, pAdd (nn (j + 1)) (nn 1) c = c (nn (j + 1 + 1)) := fun c => add_n (by omega) c
      by_cases hd : n % (j + 1) = 0
      · have eT : cT p n (j + 1) = mu (j + 1) * ((p ^ (n / (j + 1)) : Nat) : Int) := if_pos hd
        have r1 := r.new [.b false, .s []]
        obtain ⟨hb1, ne1⟩ := Own.keep hb r [.b false, .s []]
        obtain ⟨S2, r2, b2, k2, a2⟩ := Box.st ((p ^ (n / (j + 1)) : Nat) : Int) (Own.new r [.b false, .s []]) r1
        have hb2 : Box S0 S2 io (cS p n j) := k2 _ _ ne1 hb1
        obtain ⟨S3, r3, b3, _, a3⟩ := Box.st (cS p n (j + 1)) hb2 r2
        obtain ⟨S', w4, w6, z1, z2, z3⟩ := rt_loop hp hn N (j + 1) S3 (.b true) (.b true) (.p S.nx 0) hj (by omega) r3 b3
        obtain ⟨m1, m2, m3⟩ := mu_mi (j + 1) (by omega) (by omega)
        have lp : (strN p).length ≤ 16 := strN_len (Nat.lt_of_lt_of_le hp (by decide))
        have lm : (strN (mu (j + 1)).natAbs).length ≤ 50000 := Nat.le_trans (strN_len (w := 1) (by omega)) (by omega)
        have lpp : (strN (p ^ (n / (j + 1)))).length ≤ 50000 := Nat.le_trans (strN_len (p_pow hp hn)) (by omega)
        have lT := cT_len (d := j + 1) hp hn (by omega) (by omega)
        have lS := cS_len (j := j) hp hn (by omega)
        have hk : n / (j + 1) < 1000 := Nat.lt_of_le_of_lt (Nat.div_le_self _ _) (by omega)
        refine ⟨S', w4, w6, z1, z2, fun kx kr v7 => ?_⟩
        rw [loopN_succ, rt_go (a := nn (n % (j + 1))) (b := iv (cS p n j)) (d := .p S.nx 0) (m := nn (muL.getD (j + 1 - 1) 0)) (x := iv (mu (j + 1))) (y := iv (p : Int)) (q := nn (n / (j + 1))) (z := iv ((p ^ (n / (j + 1)) : Nat) : Int)) (z1 := iv (cT p n (j + 1))) (z2 := iv (cS p n (j + 1))) (n' := nn (j + 1 + 1)) (S1 := S.new [.b false, .s []]) (S2 := S2) (S3 := S3) (h1 := g1) (h2 := g2) (h3 := fun c => by rw [eql_n, decide_eq_true hd])
          (h5 := fun k => pDraw_pure (fun S k => by rw [from_eq (by omega), mi_small (by omega)]) S k) (h6 := fun c => quo_n (by omega) (by omega) (by omega) c) (h7 := fun k => pDraw_pure (fun S k => ipow_eq hk lp S k) S k) (h8 := fun c => pAlloc_eq _ S c) (h9 := a2) (h10 := fun c => hb2.ld c) (h11 := fun k => pDraw_pure (fun S k => FMt_eq (by omega) (by omega) S k) S2 k)
          (h12 := fun k => pDraw_pure (fun S k => by rw [from_eq m2, m1]) S2 k) (h13 := fun c => b2.ld c) (h14 := fun k => pDraw_pure (fun S k => by rw [imul_eq ⟨lm, by rw [Int.natAbs_natCast]; exact lpp⟩, eT]) S2 k)
          (h15 := fun k => pDraw_pure (fun S k => iadd_eq ⟨by omega, by omega⟩ S k) S2 k) (h16 := a3) (h4 := g4)]
        exact z3 kx kr v7
      · have eT : cS p n (j + 1) = cS p n j := by
          show cS p n j + cT p n (j + 1) = _
          rw [cT, if_neg hd, Int.add_zero]
        obtain ⟨S', w4, w6, z1, z2, z3⟩ := rt_loop hp hn N (j + 1) S (.b true) (.b false) v6 hj (by omega) r (by rw [eT]; exact hb)
        refine ⟨S', w4, w6, z1, z2, fun kx kr v7 => ?_⟩
        rw [loopN_succ, rt_no (h1 := g1) (h2 := g2) (h3 := fun c => by rw [eql_n, decide_eq_false hd]) (h4 := g4)]
        exact z3 kx kr v7
    · have : j = n := by omega
      subst this
      refine ⟨S, v4, v6, r, hb, fun kx kr v7 => ?_⟩
      rw [loopN_succ, rt_end (h1 := fun c => by rw [leq_n (by omega) (by omega), decide_eq_false (by omega)])]
def F14x : Gn 2 := G14 (C14 F19t F20t F53t F54t FMt F56t)
theorem K14x : FOK Tryz.prog 14 (un 2 F14x) := fokP (.cons K19t (.cons K20t (.cons K53t (.cons K54t (.cons K55t (.cons K56t .nil)))))) .nil hm Tryz.func14 (by kernel_rfl) (D14 F19t F20t F53t F54t FMt F56t) (H14 _)
theorem rcount_run {p n : Nat} (hp : p < 65536) (h1 : 1 ≤ n) (hn : n ≤ 64) (r : Run S0 S) : ∃ S', ∀ k, F14x (nn p) (nn n) S k = k (.s (strN (cN p n))) S' := by
  have r1 := r.new [.b false, .s []]
  obtain ⟨S2, r2, b2, _, a2⟩ := Box.st 0 (Own.new r [.b false, .s []]) r1
  obtain ⟨S3, w4, w6, r3, b3, z3⟩ := rt_loop (p := p) (n := n) hp hn 1000000 0 S2 .other .other .other (by omega) (by omega) r2 b2
  have lS := cS_len (j := n) hp hn hn
  have ln : (strN n).length ≤ 8 := strN_len (Nat.lt_of_le_of_lt hn (by decide))
  refine ⟨S3, fun k => ?_⟩
  unfold F14x G14
  rw [C14_eq, rh_go (z0 := iv 0) (b := .p S.nx 0) (a := iv (cS p n n)) (x := iv (n : Int)) (y := iv (cS p n n / (n : Int))) (s := .s (strN (cN p n))) (w2 := nn (n + 1)) (w3 := .b false) (w4 := w4) (w6 := w6) (S1 := S.new [.b false, .s []]) (S2 := S2) (S3 := S3)
    (h1 := fun c => by rw [from_eq (by decide)]; rfl) (h4 := fun c => pAlloc_eq _ S c) (h5 := a2) (hL := fun kn kx kr => ?_) (h6 := fun c => b3.ld c) (h7 := fun k => pDraw_pure (fun S k => by rw [from_eq (by omega), mi_small (by omega)]) S3 k) (h8 := fun k => pDraw_pure (fun S k => iquo_eq (by omega) ⟨by omega, by rw [Int.natAbs_natCast]; omega⟩ S k) S3 k) (h9 := fun c => by rfl)]
  obtain ⟨kx', e1, e2⟩ := block_loop_at 0 (B14 F19t F20t F53t F54t FMt) kn kx kr
  rw [e2]
  refine (z3 kx' kr _).trans ?_
  rw [e1]
/- the law -/
def F3x : Gn 2 := G3 (C3 sayT F12t F13 F14x)
theorem K3x : FOK Tryz.prog 3 (un 2 F3x) := fokP (.cons K11y (.cons K12t (.cons K13 (.cons K14x .nil)))) .nil hm Tryz.func3 (by kernel_rfl) (D3 sayT F12t F13 F14x) (H3 _)
section
variable (f12 : Gn 2) (f13 : Gn 1) (f14 : Gn 2) (v0 v1 s : V) (S S1 : St) (k : Cont)
theorem seq_nil (c : V → R) : pEqS true (.s []) (.s []) c = c (.b true) := by rfl
theorem law3_np (h1 : ∀ c, f12 v0 v1 S c = c (.tu [.s [], nn 7]) S) (h2 : ∀ c, f13 v0 S c = c (.b false) S) : G3 (C3 sayT f12 f13 f14) v0 v1 S k = k (.b true) S := by
  have e : ∀ c, pEql (nn 7) (nn 7) c = c (.b true) := fun c => by rfl
  simp only [G3, C3, cSeq, cReg, cCond, cRet, cSkip, sayT, pNot_t, pNot_f, h1, h2, e, seq_nil, ext0, ext1, ifT, ifF, pGd_tt, pPick_t]
theorem law3_lo (h1 : ∀ c, f12 v0 v1 S c = c (.tu [.s [], nn 3]) S) (h2 : ∀ c, f13 v0 S c = c (.b true) S) (h3 : ∀ c, pLss v1 (nn 1) c = c (.b true)) : G3 (C3 sayT f12 f13 f14) v0 v1 S k = k (.b true) S := by
  have e : ∀ c, pEql (nn 3) (nn 3) c = c (.b true) := fun c => by rfl
  simp only [G3, C3, cSeq, cReg, cCond, cRet, cSkip, sayT, pNot_t, pNot_f, h1, h2, h3, e, seq_nil, ext0, ext1, ifT, ifF, pGd_tt, pGd_tf, pGd_uf, pPick_t]
theorem law3_hi (h1 : ∀ c, f12 v0 v1 S c = c (.tu [.s [], nn 3]) S) (h2 : ∀ c, f13 v0 S c = c (.b true) S) (h3 : ∀ c, pLss v1 (nn 1) c = c (.b false)) (h4 : ∀ c, pGtr v1 (nn 64) c = c (.b true)) : G3 (C3 sayT f12 f13 f14) v0 v1 S k = k (.b true) S := by
  have e : ∀ c, pEql (nn 3) (nn 3) c = c (.b true) := fun c => by rfl
  simp only [G3, C3, cSeq, cReg, cCond, cRet, cSkip, sayT, pNot_t, pNot_f, h1, h2, h3, h4, e, seq_nil, ext0, ext1, ifT, ifF, pGd_tt, pGd_ff, pPick_t, pPick_f]
theorem law3_go (h1 : ∀ c, f12 v0 v1 S c = c (.tu [s, nn 0]) S) (h2 : ∀ c, f13 v0 S c = c (.b true) S) (h3 : ∀ c, pLss v1 (nn 1) c = c (.b false)) (h4 : ∀ c, pGtr v1 (nn 64) c = c (.b false)) (h5 : ∀ c, f14 v0 v1 S c = c s S1) (h6 : ∀ c, pEqS true s s c = c (.b true)) : G3 (C3 sayT f12 f13 f14) v0 v1 S k = k (.b true) S1 := by
  have e : ∀ c, pEql (nn 0) (nn 0) c = c (.b true) := fun c => by rfl
  simp only [G3, C3, cSeq, cReg, cCond, cRet, cSkip, sayT, pNot_t, pNot_f, h1, h2, h3, h4, h5, h6, e, ext0, ext1, ifF, pGd_tt, pGd_ff, pPick_t, pPick_f]
end
theorem law3 {p n : Nat} (hp : p < 18446744073709551616) (hn : n < 18446744073709551616) (r : Run S0 S) (k : Cont) : ∃ S', F3x (nn p) (nn n) S k = k (.b true) S' := by
  have h1 : ∀ c, F12t (nn p) (nn n) S c = c (cV p n) S := fun c => count_eq hp hn S c
  have h2 : ∀ c, F13 (nn p) S c = c (.b (pB p)) S := fun c => f13_ok hp S c
  unfold cV at h1
  unfold F3x
  by_cases hb : pB p = true
  · rw [if_pos hb] at h1
    rw [hb] at h2
    by_cases h : 1 ≤ n ∧ n ≤ 64
    · rw [if_pos h] at h1
      obtain ⟨S', z⟩ := rcount_run (pB_lt hb).2 h.1 h.2 r
      exact ⟨S', law3_go _ _ _ _ _ _ _ _ _ h1 h2 (fun c => by rw [lss_n (by omega) (by omega), decide_eq_false (by omega)]) (fun c => by rw [gtr_n (by omega) (by omega), decide_eq_false (by omega)]) z (fun c => by rw [eqS_eq, decide_eq_true rfl])⟩
    · rw [if_neg h] at h1
      refine ⟨S, ?_⟩
      by_cases hs : n < 9223372036854775808
      · by_cases h0 : n < 1
        · exact law3_lo _ _ _ _ _ _ _ h1 h2 (fun c => by rw [lss_n hs (by omega), decide_eq_true h0])
        · exact law3_hi _ _ _ _ _ _ _ h1 h2 (fun c => by rw [lss_n hs (by omega), decide_eq_false h0]) (fun c => by rw [gtr_n hs (by omega), decide_eq_true (by omega)])
      · exact law3_lo _ _ _ _ _ _ _ h1 h2 (fun c => by rw [pLss_i, sh_m (by omega) hn, sh_n (by omega), blt_eq, decide_eq_true (by omega)])
  · rw [if_neg hb] at h1
    rw [Bool.eq_false_iff.2 hb] at h2
    exact ⟨S, law3_np _ _ _ _ _ _ _ h1 h2⟩
end
end Go.AM
