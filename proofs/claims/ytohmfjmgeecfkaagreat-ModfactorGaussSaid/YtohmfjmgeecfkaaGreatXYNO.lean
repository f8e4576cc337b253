/- Gauss's formula: the sum over the divisors is a power (plain law). -/
import Derived.Test.YtohmfjmgeecfkaaGreatXYc
namespace Go.AM
open Go.AM.U
set_option linter.unusedVariables false
set_option linter.unusedSimpArgs false
/- polynomials in p, as lists of coefficients -/
def ev (p : Int) : List Int → Int
  | [] => 0
  | a :: l => a + p * ev p l
def addAt (a : Int) : Nat → List Int → List Int
  | 0, [] => [a]
  | 0, b :: l => (b + a) :: l
  | k + 1, [] => 0 :: addAt a k []
  | k + 1, b :: l => b :: addAt a k l
theorem ev_addAt (p a : Int) : ∀ (k : Nat) (l : List Int), ev p (addAt a k l) = ev p l + a * p ^ k
  | 0, [] => by simp [addAt, ev]
  | 0, b :: l => by simp only [addAt, ev, Int.pow_zero, Int.mul_one]; omega
  | k + 1, [] => by
    simp only [addAt, ev, ev_addAt p a k [], Int.pow_succ, Int.zero_add]
    rw [Int.mul_left_comm, Int.mul_comm p]
  | k + 1, b :: l => by
    simp only [addAt, ev, ev_addAt p a k l, Int.pow_succ]
    rw [Int.mul_add, Int.mul_left_comm p a, Int.mul_comm p (p ^ k)]
    omega
/-- the sum of Count's terms, added to a polynomial -/
def cLa (n : Nat) : Nat → List Int → List Int
  | 0, l => l
  | j + 1, l => if n % (j + 1) = 0 then addAt (mu (j + 1)) (n / (j + 1)) (cLa n j l) else cLa n j l
theorem ev_cLa (p n : Nat) (l : List Int) : ∀ j, ev p (cLa n j l) = ev p l + cS p n j
  | 0 => by simp [cLa, cS]
  | j + 1 => by
    unfold cLa cS cT
    split
    · rw [ev_addAt, ev_cLa p n l j, Int.natCast_pow]; omega
    · rw [ev_cLa p n l j]; omega
/-- the sum over the divisors up to j -/
def gS (p k : Nat) : Nat → Int
  | 0 => 0
  | j + 1 => gS p k j + if k % (j + 1) = 0 then cS p (j + 1) (j + 1) else 0
def tot (k : Nat) : Nat → List Int
  | 0 => []
  | j + 1 => if k % (j + 1) = 0 then cLa (j + 1) (j + 1) (tot k j) else tot k j
theorem ev_tot (p k : Nat) : ∀ j, ev p (tot k j) = gS p k j
  | 0 => rfl
  | j + 1 => by
    unfold tot gS
    split
    · rw [ev_cLa, ev_tot p k j]
    · rw [ev_tot p k j, Int.add_zero]
def mono (k : Nat) : List Int := List.replicate k 0 ++ [1]
theorem ev_mono (p : Int) : ∀ k, ev p (mono k) = p ^ k
  | 0 => by simp [mono, ev]
  | k + 1 => by
    have : mono (k + 1) = 0 :: mono k := rfl
    rw [this, ev, ev_mono p k, Int.pow_succ, Int.mul_comm]; omega
theorem tot_mono : ∀ z : Fin 64, tot (z.val + 1) (z.val + 1) = mono (z.val + 1) := by decide +kernel
theorem gS_pow (p k : Nat) (h1 : 1 ≤ k) (hk : k ≤ 64) : gS p k k = ((p ^ k : Nat) : Int) := by
  have := tot_mono ⟨k - 1, by omega⟩
  have e : k - 1 + 1 = k := by omega
  simp only [e] at this
  rw [← ev_tot, this, ev_mono, Int.natCast_pow]
/- divisibility: by residues -/
theorem pow_mod_int (p n k : Nat) : (((p ^ k : Nat) : Int) - (((p % n) ^ k : Nat) : Int)) % (n : Int) = 0 := by
  have h : p ^ k % n = (p % n) ^ k % n := Nat.pow_mod p k n
  have h2 : (((p ^ k : Nat) : Int) % (n : Int)) = ((((p % n) ^ k : Nat) : Int) % (n : Int)) := by
    rw [← Int.natCast_emod, ← Int.natCast_emod, h]
  exact Int.emod_eq_emod_iff_emod_sub_eq_zero.1 h2
theorem cS_mod (p n : Nat) : ∀ j, (cS p n j - cS (p % n) n j) % (n : Int) = 0
  | 0 => by simp [cS]
  | j + 1 => by
    have ih := cS_mod p n j
    have e : cS p n (j + 1) - cS (p % n) n (j + 1) = (cS p n j - cS (p % n) n j) + (cT p n (j + 1) - cT (p % n) n (j + 1)) := by
      simp only [cS]; omega
    have h2 : (cT p n (j + 1) - cT (p % n) n (j + 1)) % (n : Int) = 0 := by
      unfold cT
      split
      · rw [← Int.mul_sub]
        have := Int.dvd_of_emod_eq_zero (pow_mod_int p n (n / (j + 1)))
        exact Int.emod_eq_zero_of_dvd (Int.dvd_mul_of_dvd_right this)
      · simp
    rw [e]
    exact Int.emod_eq_zero_of_dvd (Int.dvd_add (Int.dvd_of_emod_eq_zero ih) (Int.dvd_of_emod_eq_zero h2))
def resid : Nat → Nat → Bool
  | n, 0 => true
  | n, r + 1 => decide (cS r n n % (n : Int) = 0) && resid n r
theorem resid_ok {n : Nat} : ∀ {m : Nat}, resid n m = true → ∀ r, r < m → cS r n n % (n : Int) = 0
  | 0, _, r, h => by omega
  | m + 1, h, r, hr => by
    unfold resid at h
    rw [Bool.and_eq_true] at h
    rcases Nat.lt_or_ge r m with h1 | h1
    · exact resid_ok h.2 r h1
    · have : r = m := by omega
      subst this
      exact of_decide_eq_true h.1
theorem resid_all : ∀ z : Fin 64, resid (z.val + 1) (z.val + 1) = true := by decide +kernel
theorem cS_dvd (p n : Nat) (h1 : 1 ≤ n) (hn : n ≤ 64) : (n : Int) ∣ cS p n n := by
  have := resid_all ⟨n - 1, by omega⟩
  have e : n - 1 + 1 = n := by omega
  simp only [e] at this
  have h2 := resid_ok this (p % n) (Nat.mod_lt _ h1)
  have h3 := Int.dvd_add (Int.dvd_of_emod_eq_zero (cS_mod p n n)) (Int.dvd_of_emod_eq_zero h2)
  rwa [Int.sub_add_cancel] at h3
/- the sum is not negative -/
theorem mu_abs (d : Nat) (h0 : 1 ≤ d) (hd : d ≤ 64) : -1 ≤ mu d ∧ mu d ≤ 1 := by
  have := (mu_mi d h0 hd).2.2
  omega
theorem cT_low (p n d : Nat) (hp : 1 ≤ p) (h2 : 2 ≤ d) (hd : d ≤ 64) : -((p ^ (n / 2) : Nat) : Int) ≤ cT p n d := by
  unfold cT
  split
  · have hm := mu_abs d (by omega) hd
    have hle : p ^ (n / d) ≤ p ^ (n / 2) := Nat.pow_le_pow_right hp (Nat.div_le_div_left h2 (by decide))
    generalize p ^ (n / d) = x at *
    generalize p ^ (n / 2) = y at *
    have hx : (0 : Int) ≤ x := by omega
    have : -1 * (x : Int) ≤ mu d * x := Int.mul_le_mul_of_nonneg_right hm.1 hx
    omega
  · omega
theorem cS_low (p n : Nat) (hp : 1 ≤ p) (hn : 1 ≤ n) : ∀ j, j + 1 ≤ 64 → ((p ^ n : Nat) : Int) - ((j * p ^ (n / 2) : Nat) : Int) ≤ cS p n (j + 1)
  | 0, _ => by
    have e : cS p n 1 = ((p ^ n : Nat) : Int) := by
      show 0 + cT p n 1 = _
      have hm : mu 1 = 1 := by decide
      rw [cT, if_pos (Nat.mod_one _), Nat.div_one, hm, Int.one_mul, Int.zero_add]
    rw [e]; simp
  | j + 1, hj => by
    have ih := cS_low p n hp hn j (by omega)
    have h2 := cT_low p n (j + 2) hp (by omega) hj
    show _ ≤ cS p n (j + 1) + cT p n (j + 2)
    rw [Nat.add_mul, Nat.one_mul]
    generalize p ^ (n / 2) = y at *
    omega
theorem two_low : ∀ z : Fin 64, z.val ≤ 2 ^ ((z.val + 1) - (z.val + 1) / 2) := by decide +kernel
theorem cS_nonneg (p n : Nat) (hp : 2 ≤ p) (h1 : 1 ≤ n) (hn : n ≤ 64) : 0 ≤ cS p n n := by
  obtain ⟨j, rfl⟩ : ∃ j, n = j + 1 := ⟨n - 1, by omega⟩
  have h := cS_low p (j + 1) (by omega) h1 j hn
  have h2 : j * p ^ ((j + 1) / 2) ≤ p ^ (j + 1) := by
    have e : p ^ (j + 1) = p ^ ((j + 1) - (j + 1) / 2) * p ^ ((j + 1) / 2) := by rw [← Nat.pow_add]; congr 1; omega
    rw [e]
    refine Nat.mul_le_mul_right _ (Nat.le_trans (two_low ⟨j, by omega⟩) (Nat.pow_le_pow_left hp _))
  generalize p ^ (j + 1) = x at *
  generalize j * p ^ ((j + 1) / 2) = y at *
  omega
theorem cN_mul (p n : Nat) (hp : 2 ≤ p) (h1 : 1 ≤ n) (hn : n ≤ 64) : ((n * cN p n : Nat) : Int) = cS p n n := by
  have h := cS_nonneg p n hp h1 hn
  obtain ⟨q, hq⟩ := cS_dvd p n h1 hn
  have hn0 : (n : Int) ≠ 0 := by omega
  unfold cN
  rw [hq, Int.mul_ediv_cancel_left _ hn0, Int.natCast_mul]
  have hq0 : 0 ≤ q := by
    rcases Int.lt_or_le q 0 with h3 | h3
    · have : (n : Int) * q < 0 := Int.mul_neg_of_pos_of_neg (by omega) h3
      omega
    · exact h3
  rw [Int.natAbs_of_nonneg hq0]
end Go.AM

/- The law ModfactorGauss. -/
namespace Go.AM
open Go.Proofs
open Go.AM.Q
open Go.AM.U
set_option linter.unusedVariables false
set_option linter.unusedSimpArgs false
noncomputable section
variable {S0 S : St} {out : V × St}
/- galoisref01.Check: strings of numbers are well-formed -/
theorem strN_head {n x : Nat} {l : List Nat} (h : strN n = x :: l) : x ≠ 0 := fun e => by
  subst e
  have hb : By (0 :: l) := by rw [← h]; exact strN_by n
  have h1 := val_strN n
  rw [h] at h1
  have h2 : U.val (0 :: l) = 0 * 256 ^ l.length + U.val l := pv_cons 0 l l.length
  have h3 : U.val l < 256 ^ l.length := pv_lt (fun z hz => hb z (List.mem_cons_of_mem _ hz)) l.length
  rw [Nat.zero_mul, Nat.zero_add, h1] at h2
  have h4 := strN_len (n := n) (w := l.length) (by omega)
  rw [h] at h4
  have h4 : l.length + 1 ≤ l.length := h4
  omega
theorem chk_len (v0 a : V) (S : St) (k : Cont) (h1 : ∀ c, pLenS v0 c = c a) (h2 : ∀ c, pGtr a (nn 1024) c = c (.b false)) : F58 v0 S k = k (nn 0) S := by
  simp only [F58, G58, C58, cSeq, cReg, cCond, cSkip, cRet, h1, h2, ifF]
theorem chk_nil (v0 : V) (S : St) (k : Cont) (h1 : ∀ c, pEqS true v0 (.s []) c = c (.b true)) : F57 v0 S k = k (.b true) S := by
  simp only [F57, G57, C57, cSeq, cReg, cRet, h1, pGd_tf, pGd_uf, pPick_t]
theorem chk_cons (v0 x : V) (S : St) (k : Cont) (h1 : ∀ c, pEqS true v0 (.s []) c = c (.b false)) (h2 : ∀ c, pSidx v0 (nn 0) c = c x) (h3 : ∀ c, pNeq x (.i .u8 0) c = c (.b true)) : F57 v0 S k = k (.b true) S := by
  simp only [F57, G57, C57, cSeq, cReg, cRet, h1, h2, h3, pGd_ff, pPick_f]
theorem chk_go (f57 f58 : Gn 1) (v0 : V) (S : St) (k : Cont) (h1 : ∀ c, f57 v0 S c = c (.b true) S) (h2 : ∀ c, f58 v0 S c = c (nn 0) S) : G15 (C15 f57 f58) v0 S k = k (nn 0) S := by
  simp only [G15, C15, cSeq, cReg, cCond, cSkip, cRet, h1, h2, pNot_t, ifF]
theorem bneq {a b : Nat} (h : a ≠ b) (c : V → R) : pNeq (.i .u8 a) (.i .u8 b) c = c (.b true) := by
  rw [pNeq_i]
  cases hb : Nat.beq a b with
  | true => exact absurd (Nat.eq_of_beq_eq_true hb) h
  | false => rfl
theorem f15_ok {n : Nat} (hl : (strN n).length ≤ 1024) (S : St) (k : Cont) : F15 (.s (strN n)) S k = k (nn 0) S := by
  refine chk_go F57 F58 _ S k (fun c => ?_) (fun c => chk_len _ _ S c (fun c => lenS (by omega) c) (fun c => by rw [gtr_n (by omega) (by omega), decide_eq_false (by omega)]))
  cases hs : strN n with
  | nil => exact chk_nil _ S c (fun c => by rw [eqS_eq, decide_eq_true rfl])
  | cons x l =>
    rw [hs] at hl
    exact chk_cons _ (bb x) S c (fun c => by rw [eqS_eq, decide_eq_false (by simp)]) (fun c => sidx (b := x :: l) (i := 0) (by simp) (by omega) c) (fun c => bneq (strN_head hs) c)
/- galoisref01.FromInt -/
def F18t : Gn 1 := G18 (C18 F61t)
theorem K18t : FOK Tryz.prog 18 (un 1 F18t) := fokP (.cons K61t .nil) .nil hm Tryz.func18 (by kernel_rfl) (D18 F61t) (H18 _)
theorem fi_go (f61 : Gn 1) (v x r : V) (S : St) (k : Cont) (h1 : ∀ c, pConv .u64 v c = c x) (h2 : ∀ c, f61 x S c = c r S) : G18 (C18 f61) v S k = k r S := by
  simp only [G18, C18, cSeq, cReg, cRet, h1, h2]
theorem f18_eq {n : Nat} (hn : n < 9223372036854775808) (S : St) (k : Cont) : F18t (nn n) S k = k (.s (strN n)) S :=
  fi_go F61t _ _ _ S k (fun c => conv64 hn c) (fun c => F61t_eq (by omega) S c)
/- the loop -/
def B4 (f12 : Gn 2) (f15 : Gn 1) (f16 f17 : Gn 2) (f18 : Gn 1) : CS 12 := (cSeq (cSeq (cReg fun kn v0 v1 v2 v3 v4 v5 v6 v7 v8 v9 v10 v11 S => pLeq v3 v4 (fun a0 => kn v0 v1 v2 v3 v4 a0 v6 v7 v8 v9 v10 v11 S)) (cCond (fun x y v0 v1 v2 v3 v4 v5 v6 v7 v8 v9 v10 v11 S => pIf v5 (x v0 v1 v2 v3 v4 v5 v6 v7 v8 v9 v10 v11 S) (y v0 v1 v2 v3 v4 v5 v6 v7 v8 v9 v10 v11 S)) cSkip (cExit 0))) (cSeq (cBlock 1 (cSeq (cSeq (cReg fun kn v0 v1 v2 v3 v4 v5 v6 v7 v8 v9 v10 v11 S => pRem v4 v3 (fun a0 => pGtr a0 (.i .i64 0) (fun a1 => kn v0 v1 v2 v3 v4 v5 a1 v7 v8 v9 v10 v11 S))) (cCond (fun x y v0 v1 v2 v3 v4 v5 v6 v7 v8 v9 v10 v11 S => pIf v6 (x v0 v1 v2 v3 v4 v5 v6 v7 v8 v9 v10 v11 S) (y v0 v1 v2 v3 v4 v5 v6 v7 v8 v9 v10 v11 S)) (cExit 1) cSkip)) (cSeq (cReg fun kn v0 v1 v2 v3 v4 v5 v6 v7 v8 v9 v10 v11 S => f12 v0 v3 S (fun a0 S => pExt a0 0 (fun a1 => pExt a0 1 (fun a2 => kn v0 v1 v2 v3 v4 v5 v6 a2 a1 v9 v10 v11 S)))) (cSeq (cSeq (cReg fun kn v0 v1 v2 v3 v4 v5 v6 v7 v8 v9 v10 v11 S => pNeq v7 (.i .i64 0) (fun a0 => pGd a0 false (fun c => c v8 S) S (fun a1 S => pGd a0 false (fun c => f15 a1 S c) S (fun a2 S => pGd a0 false (fun c => pNeq a2 (.i .i64 0) (fun v => c v S)) S (fun a3 S => pPick a0 (.b true) a3 (fun a4 => kn v0 v1 v2 v3 v4 v5 v6 v7 v8 a4 v10 v11 S)))))) (cCond (fun x y v0 v1 v2 v3 v4 v5 v6 v7 v8 v9 v10 v11 S => pIf v9 (x v0 v1 v2 v3 v4 v5 v6 v7 v8 v9 v10 v11 S) (y v0 v1 v2 v3 v4 v5 v6 v7 v8 v9 v10 v11 S)) (cSeq (cReg fun kn v0 v1 v2 v3 v4 v5 v6 v7 v8 v9 v10 v11 S => kn v0 v1 v2 v3 v4 v5 v6 v7 v8 v9 v10 (.b false) S) cRet) cSkip)) (cReg fun kn v0 v1 v2 v3 v4 v5 v6 v7 v8 v9 v10 v11 S => f18 v3 S (fun a0 S => f17 a0 v8 S (fun a1 S => f16 v10 a1 S (fun a2 S => kn v0 v1 v2 v3 v4 v5 v6 v7 v8 v9 a2 v11 S)))))))) (cReg fun kn v0 v1 v2 v3 v4 v5 v6 v7 v8 v9 v10 v11 S => pAdd v3 (.i .i64 1) (fun a0 => kn v0 v1 v2 a0 v4 v5 v6 v7 v8 v9 v10 v11 S))))
def HT4 (f11 : Gn 0) (f13 : Gn 1) (f19 : Gn 2) (f20 : Gn 1) (I0 : CS 12) : CS 12 := (cSeq (cReg fun kn v0 v1 v2 v3 v4 v5 v6 v7 v8 v9 v10 v11 S => kn v0 v1 v2 v3 v4 v5 v6 v7 v8 v9 v10 (.b false) S) (cSeq (cSeq (cReg fun kn v0 v1 v2 v3 v4 v5 v6 v7 v8 v9 v10 v11 S => f11 S (fun a0 S => pNot a0 (fun a1 => pGd a1 false (fun c => c v0 S) S (fun a2 S => pGd a1 false (fun c => f13 a2 S c) S (fun a3 S => pGd a1 false (fun c => pNot a3 (fun v => c v S)) S (fun a4 S => pPick a1 (.b true) a4 (fun a5 => kn v0 v1 a5 v3 v4 v5 v6 v7 v8 v9 v10 v11 S))))))) (cCond (fun x y v0 v1 v2 v3 v4 v5 v6 v7 v8 v9 v10 v11 S => pIf v2 (x v0 v1 v2 v3 v4 v5 v6 v7 v8 v9 v10 v11 S) (y v0 v1 v2 v3 v4 v5 v6 v7 v8 v9 v10 v11 S)) (cSeq (cReg fun kn v0 v1 v2 v3 v4 v5 v6 v7 v8 v9 v10 v11 S => f11 S (fun a0 S => kn v0 v1 v2 v3 v4 v5 v6 v7 v8 v9 v10 a0 S)) cRet) cSkip)) (cSeq (cReg fun kn v0 v1 v2 v3 v4 v5 v6 v7 v8 v9 v10 v11 S => pConv .i64 v1 (fun a0 => pRem a0 (.i .i64 64) (fun a1 => pAdd (.i .i64 1) a1 (fun a2 => kn v0 v1 v2 v3 a2 v5 v6 v7 v8 v9 v10 v11 S)))) (cSeq (cReg fun kn v0 v1 v2 v3 v4 v5 v6 v7 v8 v9 v10 v11 S => kn v0 v1 v2 v3 v4 v5 v6 v7 v8 v9 (.s []) v11 S) (cSeq (cSeq (cReg fun kn v0 v1 v2 v3 v4 v5 v6 v7 v8 v9 v10 v11 S => kn v0 v1 v2 (.i .i64 1) v4 v5 v6 v7 v8 v9 v10 v11 S) I0) (cSeq (cReg fun kn v0 v1 v2 v3 v4 v5 v6 v7 v8 v9 v10 v11 S => f20 v0 S (fun a0 S => f19 a0 v4 S (fun a1 S => pFld 1 a1 (fun a2 => pEqS true v10 a2 (fun a3 => kn v0 v1 v2 v3 v4 v5 v6 v7 v8 v9 v10 a3 S))))) cRet))))))
theorem C4_eq (f11 : Gn 0) (f12 : Gn 2) (f13 f15 : Gn 1) (f16 f17 : Gn 2) (f18 : Gn 1) (f19 : Gn 2) (f20 : Gn 1) : C4 f11 f12 f13 f15 f16 f17 f18 f19 f20 = HT4 f11 f13 f19 f20 (cBlock 0 (cLoop (B4 f12 f15 f16 f17 f18))) := by rfl
section
variable (f12 f16 f17 : Gn 2) (f15 f18 f13 : Gn 1) (f19 : Gn 2) (f20 : Gn 1) (K : Fn 12) (kx : Nat → Fn 12) (kr : Fn 12) (v0 v1 v2 v3 v4 v5 v6 v7 v8 v9 v10 v11 a b d m n' q s t x y z r w3 w5 w6 w7 w8 w9 : V) (S : St)
theorem ga_end (h1 : ∀ c, pLeq v3 v4 c = c (.b false)) : B4 f12 f15 f16 f17 f18 K kx kr v0 v1 v2 v3 v4 v5 v6 v7 v8 v9 v10 v11 S = kx 0 v0 v1 v2 v3 v4 (.b false) v6 v7 v8 v9 v10 v11 S := by
  simp only [B4, cSeq, cReg, cCond, cBlock, cSkip, cExit, cRet, h1, ifF]
theorem ga_no (h1 : ∀ c, pLeq v3 v4 c = c (.b true)) (h2 : ∀ c, pRem v4 v3 c = c a) (h3 : ∀ c, pGtr a (nn 0) c = c (.b true)) (h4 : ∀ c, pAdd v3 (nn 1) c = c n') : B4 f12 f15 f16 f17 f18 K kx kr v0 v1 v2 v3 v4 v5 v6 v7 v8 v9 v10 v11 S = K v0 v1 v2 n' v4 (.b true) (.b true) v7 v8 v9 v10 v11 S := by
  simp only [B4, cSeq, cReg, cCond, cBlock, cSkip, cExit, cRet, h1, h2, h3, ifT]
  exact h4 _
theorem ga_go (h1 : ∀ c, pLeq v3 v4 c = c (.b true)) (h2 : ∀ c, pRem v4 v3 c = c a) (h3 : ∀ c, pGtr a (nn 0) c = c (.b false)) (h5 : ∀ k, f12 v0 v3 S k = k (.tu [x, nn 0]) S) (h6 : ∀ k, f15 x S k = k (nn 0) S) (h7 : ∀ k, f18 v3 S k = k d S) (h8 : ∀ k, f17 d x S k = k y S) (h9 : ∀ k, f16 v10 y S k = k z S) (h4 : ∀ c, pAdd v3 (nn 1) c = c n') :
    B4 f12 f15 f16 f17 f18 K kx kr v0 v1 v2 v3 v4 v5 v6 v7 v8 v9 v10 v11 S = K v0 v1 v2 n' v4 (.b true) (.b false) (nn 0) x (.b false) z v11 S := by
  have e : ∀ c, pNeq (nn 0) (nn 0) c = c (.b false) := fun c => by rfl
  simp only [B4, cSeq, cReg, cCond, cBlock, cSkip, cExit, cRet, h1, h2, h3, h4, h5, h6, h7, h8, h9, e, ext0, ext1, pGd_ff, pPick_f, ifT, ifF]
theorem gh_np (I0 : CS 12) (h1 : ∀ c, f13 v0 S c = c (.b false) S) : HT4 sayT f13 f19 f20 I0 K kx kr v0 v1 v2 v3 v4 v5 v6 v7 v8 v9 v10 v11 S = kr v0 v1 (.b true) v3 v4 v5 v6 v7 v8 v9 v10 (.b true) S := by
  simp only [HT4, cSeq, cReg, cCond, cBlock, cSkip, cExit, cRet, sayT, h1, pNot_t, pNot_f, pGd_ff, pPick_f, ifT]
theorem gh_go (I0 : CS 12) (h1 : ∀ c, f13 v0 S c = c (.b true) S) (h2 : ∀ c, pConv .i64 v1 c = c a) (h3 : ∀ c, pRem a (nn 64) c = c b) (h4 : ∀ c, pAdd (nn 1) b c = c m)
    (hL : ∀ (kn : Fn 12) (kx : Nat → Fn 12) (kr : Fn 12), I0 kn kx kr v0 v1 (.b false) (nn 1) m v5 v6 v7 v8 v9 (.s []) (.b false) S = kn v0 v1 (.b false) w3 m w5 w6 w7 w8 w9 s (.b false) S)
    (h5 : ∀ k, f20 v0 S k = k y S) (h6 : ∀ k, f19 y m S k = k z S) (h7 : ∀ c, pFld 1 z c = c t) (h8 : ∀ c, pEqS true s t c = c (.b true)) :
    HT4 sayT f13 f19 f20 I0 K kx kr v0 v1 v2 v3 v4 v5 v6 v7 v8 v9 v10 v11 S = kr v0 v1 (.b false) w3 m w5 w6 w7 w8 w9 s (.b true) S := by
  simp only [HT4, cSeq, cReg, cCond, cBlock, cSkip, cExit, cRet, sayT, h1, h2, h3, h4, hL, h5, h6, h7, h8, pNot_t, pGd_ff, pPick_f, ifF]
end
/-- the sum over the divisors up to j, as a number -/
def gN (p k : Nat) : Nat → Nat
  | 0 => 0
  | j + 1 => gN p k j + if k % (j + 1) = 0 then (j + 1) * cN p (j + 1) else 0
theorem gN_gS (p k : Nat) (hp : 2 ≤ p) : ∀ j, j ≤ 64 → ((gN p k j : Nat) : Int) = gS p k j
  | 0, _ => rfl
  | j + 1, hj => by
    unfold gN gS
    rw [Int.natCast_add, gN_gS p k hp j (by omega)]
    congr 1
    split
    · exact cN_mul p (j + 1) hp (by omega) hj
    · rfl
theorem cN_le {p n : Nat} (hp : p < 65536) (hn : n ≤ 64) : cN p n ≤ 64 * 256 ^ 128 := by
  have h1 := cS_abs (p := p) hp hn n hn
  have h2 : cN p n ≤ (cS p n n).natAbs := by
    unfold cN
    exact Int.natAbs_ediv_le_natAbs _ _
  exact Nat.le_trans h2 (Nat.le_trans h1 (Nat.mul_le_mul_right _ hn))
theorem gN_le0 {p k C : Nat} (hC : ∀ d, 1 ≤ d → d ≤ 64 → d * cN p d ≤ C) : ∀ j, j ≤ 64 → gN p k j ≤ j * C
  | 0, _ => Nat.zero_le _
  | j + 1, hj => by
    have h1 := gN_le0 (k := k) hC j (by omega)
    have h3 : (if k % (j + 1) = 0 then (j + 1) * cN p (j + 1) else 0) ≤ C := by
      split
      · exact hC (j + 1) (by omega) hj
      · exact Nat.zero_le _
    show gN p k j + _ ≤ _
    rw [Nat.succ_mul j C]
    exact Nat.add_le_add h1 h3
theorem gN_le {p k : Nat} (hp : p < 65536) (j : Nat) (hj : j ≤ 64) : gN p k j ≤ j * (64 * (64 * 256 ^ 128)) :=
  gN_le0 (fun d _ h2 => Nat.mul_le_mul h2 (cN_le hp h2)) j hj
theorem ga_loop {p m : Nat} (hb : pB p = true) (hm : m ≤ 64) : ∀ (N j : Nat) (S : St) (v5 v6 v7 v8 v9 : V), j ≤ m → m < N + j →
    ∃ w6 w7 w8 w9, ∀ (kx : Nat → Fn 12) (kr : Fn 12) (v1 v2 v11 : V), loopN (B4 F12t F15 F16t F17t F18t) kx kr N (nn p) v1 v2 (nn (j + 1)) (nn m) v5 v6 v7 v8 v9 (.s (strN (gN p m j))) v11 S = kx 0 (nn p) v1 v2 (nn (m + 1)) (nn m) (.b false) w6 w7 w8 w9 (.s (strN (gN p m m))) v11 S
  | 0, j, S, v5, v6, v7, v8, v9, h1, h2 => by omega
  | N + 1, j, S, v5, v6, v7, v8, v9, h1, h2 => by
    by_cases hj : j < m
    · have hp := pB_lt hb
      have g1 : ∀ c, pLeq (nn (j + 1)) (nn m) c = c (.b true) := fun c => by rw [leq_n (by omega) (by omega), decide_eq_true (by omega)]
      have g2 : ∀ c, pRem (nn m) (nn (j + 1)) c = c (nn (m % (j + 1))) := fun c => rem_n (by omega) (by omega) (by omega) c
      have g4 : ∀ c, pAdd (nn (j + 1)) (nn 1) c = c (nn (j + 1 + 1)) := fun c => add_n (by omega) c
      have hlt : m % (j + 1) < j + 1 := Nat.mod_lt _ (by omega)
      by_cases hd : m % (j + 1) = 0
      · have eN : gN p m (j + 1) = gN p m j + (j + 1) * cN p (j + 1) := by show gN p m j + _ = _; rw [if_pos hd]
        have lc : (strN (cN p (j + 1))).length ≤ 130 := strN_len (Nat.lt_of_le_of_lt (cN_le hp.2 (by omega)) (by decide +kernel))
        have ld : (strN (j + 1)).length ≤ 1 := strN_len (by omega)
        have lg : (strN (gN p m j)).length ≤ 140 := strN_len (Nat.lt_of_le_of_lt (Nat.le_trans (gN_le hp.2 j (by omega)) (Nat.mul_le_mul_right _ (show j ≤ 64 by omega))) (by decide +kernel))
        have lm : (strN ((j + 1) * cN p (j + 1))).length ≤ 140 := strN_len (Nat.lt_of_le_of_lt (Nat.mul_le_mul (show j + 1 ≤ 64 by omega) (cN_le hp.2 (by omega))) (by decide +kernel))
        obtain ⟨w6, w7, w8, w9, z⟩ := ga_loop hb hm N (j + 1) S (.b true) (.b false) (nn 0) (.s (strN (cN p (j + 1)))) (.b false) hj (by omega)
        refine ⟨w6, w7, w8, w9, fun kx kr v1 v2 v11 => ?_⟩
        rw [loopN_succ, ga_go (a := nn (m % (j + 1))) (x := .s (strN (cN p (j + 1)))) (d := .s (strN (j + 1))) (y := .s (strN ((j + 1) * cN p (j + 1)))) (z := .s (strN (gN p m (j + 1)))) (n' := nn (j + 1 + 1)) (h1 := g1) (h2 := g2) (h3 := fun c => by rw [gtr_n (by omega) (by omega), decide_eq_false (by omega)])
          (h5 := fun k => by rw [count_eq (by omega) (by omega), cV, if_pos hb, if_pos ⟨by omega, by omega⟩]) (h6 := fun k => f15_ok (by omega) S k) (h7 := fun k => f18_eq (by omega) S k) (h8 := fun k => mul_eq (by omega) (by omega) S k) (h9 := fun k => by rw [eN]; exact E2_eq (op := (· + ·)) (by omega) (by omega) S k) (h4 := g4)]
        exact z kx kr v1 v2 v11
      · have eN : gN p m (j + 1) = gN p m j := by show gN p m j + _ = _; rw [if_neg hd, Nat.add_zero]
        obtain ⟨w6, w7, w8, w9, z⟩ := ga_loop hb hm N (j + 1) S (.b true) (.b true) v7 v8 v9 hj (by omega)
        rw [eN] at z
        refine ⟨w6, w7, w8, w9, fun kx kr v1 v2 v11 => ?_⟩
        rw [loopN_succ, ga_no (a := nn (m % (j + 1))) (n' := nn (j + 1 + 1)) (h1 := g1) (h2 := g2) (h3 := fun c => by rw [gtr_n (by omega) (by omega), decide_eq_true (by omega)]) (h4 := g4)]
        exact z kx kr v1 v2 v11
    · have : j = m := by omega
      subst this
      refine ⟨v6, v7, v8, v9, fun kx kr v1 v2 v11 => ?_⟩
      rw [loopN_succ, ga_end (h1 := fun c => by rw [leq_n (by omega) (by omega), decide_eq_false (by omega)])]
theorem conv_u8 {n : Nat} (hn : n < 256) (c : V → R) : pConv .i64 (.i .u8 n) c = c (nn n) := by
  show retI c .i64 (cvI .u8 .i64 n) = _
  rw [retI_eq]
  have : cvI .u8 .i64 n = n := by
    unfold cvI
    show n % 18446744073709551616 = n
    omega
  rw [this]
def F4x : Gn 2 := G4 (C4 sayT F12t F13 F15 F16t F17t F18t F19t F20t)
theorem K4x : FOK Tryz.prog 4 (un 2 F4x) := fokP (.cons K11y (.cons K12t (.cons K13 (.cons K15 (.cons K16t (.cons K17t (.cons K18t (.cons K19t (.cons K20t .nil))))))))) .nil hm Tryz.func4 (by kernel_rfl) (D4 sayT F12t F13 F15 F16t F17t F18t F19t F20t) (H4 _)
theorem law4 {p n : Nat} (hp : p < 18446744073709551616) (hn : n < 256) (S : St) (k : Cont) : F4x (nn p) (.i .u8 n) S k = k (.b true) S := by
  have h2 : ∀ c, F13 (nn p) S c = c (.b (pB p)) S := fun c => f13_ok hp S c
  unfold F4x G4
  rw [C4_eq]
  by_cases hb : pB p = true
  · rw [hb] at h2
    obtain ⟨w6, w7, w8, w9, z⟩ := ga_loop (m := 1 + n % 64) hb (by omega) 1000000 0 S .other .other .other .other .other (by omega) (by omega)
    have hpl := pB_lt hb
    have lp : (strN p).length ≤ 16 := strN_len (Nat.lt_of_lt_of_le hpl.2 (by decide))
    have hval : gN p (1 + n % 64) (1 + n % 64) = p ^ (1 + n % 64) := by
      have h1 := gN_gS p (1 + n % 64) hpl.1 (1 + n % 64) (by omega)
      rw [gS_pow p (1 + n % 64) (by omega) (by omega)] at h1
      exact Int.ofNat_inj.1 h1
    rw [gh_go (a := nn n) (b := nn (n % 64)) (m := nn (1 + n % 64)) (w3 := nn (1 + n % 64 + 1)) (w5 := .b false) (w6 := w6) (w7 := w7) (w8 := w8) (w9 := w9) (s := .s (strN (gN p (1 + n % 64) (1 + n % 64)))) (y := iv (p : Int)) (z := iv ((p ^ (1 + n % 64) : Nat) : Int)) (t := .s (strN (p ^ (1 + n % 64)))) (h1 := h2) (h2 := fun c => conv_u8 hn c) (h3 := fun c => rem_n (by omega) (by omega) (by omega) c) (h4 := fun c => add_n (by omega) c) (hL := fun kn kx kr => ?_)
      (h5 := fun k => by rw [from_eq hp, mi_small (by omega)]) (h6 := fun k => ipow_eq (by omega) lp S k) (h7 := fun c => by rw [iv_nat]; rfl) (h8 := fun c => by rw [eqS_eq, hval, decide_eq_true rfl])]
    obtain ⟨kx', e1, e2⟩ := block_loop_at 0 (B4 F12t F15 F16t F17t F18t) kn kx kr
    rw [e2, ← e1]
    exact z kx' kr _ _ _
  · rw [Bool.eq_false_iff.2 hb] at h2
    rw [gh_np (h1 := h2)]
end
end Go.AM
