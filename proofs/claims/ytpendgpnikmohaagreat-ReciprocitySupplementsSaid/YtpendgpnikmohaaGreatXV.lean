/- The characters at the primes up to 31, told as tables. -/
import Derived.Test.YtpendgpnikmohaaGreatMVT
set_option linter.unusedVariables false
set_option linter.unusedSimpArgs false
set_option maxRecDepth 100000
namespace Go.AM
open Go.Proofs
noncomputable section
/-- the residue of a number of 64 bits -/
def mo (a p : Nat) : Nat := if a < 9223372036854775808 then a % p else (p - (18446744073709551616 - a) % p) % p
theorem f66_step (v w x y z : V) (S : St) (k : Cont) (h1 : ∀ c, pRem v w c = c x) (h2 : ∀ c, pAdd x w c = c y) (h3 : ∀ c, pRem y w c = c z) : F66 v w S k = k z S := by
  simp only [F66, G66, C66, cSeq, cReg, cRet, h1, h2, h3]
theorem f66_ok {a p : Nat} (ha : a < 18446744073709551616) (h0 : 0 < p) (hp : p < 1000000) (S : St) (k : Cont) : F66 (ii a) (ii p) S k = k (ii (mo a p)) S := by
  have hr : ∀ x : Nat, x % p < p := fun x => Nat.mod_lt x h0
  by_cases hs : a < 9223372036854775808
  · have e : mo a p = a % p := if_pos hs
    rw [e]
    refine f66_step (ii a) (ii p) (ii (a % p)) (ii (a % p + p)) _ S k (fun c => rem_n hs h0 (by omega) c) (fun c => add_n (by have := hr a; omega) c) (fun c => ?_)
    rw [rem_n (by have := hr a; omega) h0 (by omega), Nat.add_mod_right, Nat.mod_mod]
  · have e : mo a p = (p - (18446744073709551616 - a) % p) % p := if_neg hs
    rw [e]
    have hq := hr (18446744073709551616 - a)
    have e1 : ∀ c : V → R, pRem (ii a) (ii p) c = c (ii ((18446744073709551616 - (18446744073709551616 - a) % p) % 18446744073709551616)) := fun c => by
      obtain ⟨q, rfl⟩ : ∃ x, p = x + 1 := ⟨p - 1, by omega⟩
      rw [show (ii (q + 1)) = V.i .i64 (q + 1) from rfl, pRem_i]
      have e2 : neg .i64 a = true := by
        show Nat.ble 9223372036854775808 a = true
        exact Nat.ble_eq_true_of_le (by omega)
      have e3 : remI .i64 a (q + 1) = (18446744073709551616 - (18446744073709551616 - a) % (q + 1)) % 18446744073709551616 := by
        unfold remI
        rw [e2, neg_n (show q + 1 < 9223372036854775808 by omega)]; rfl
      rw [e3]
    refine f66_step (ii a) (ii p) _ (ii (p - (18446744073709551616 - a) % p)) _ S k e1 (fun c => ?_) (fun c => rem_n (by omega) h0 (by omega) c)
    generalize (18446744073709551616 - a) % p = q at hq
    rw [pAdd_i, show M .i64 = 18446744073709551616 from rfl]
    congr 2
    omega
theorem modc_eq (r : Nat) (va vp : V) : modc r va vp = fun S c => c (ii r) S := by rfl
theorem f55_c (r : Nat) (w va vp : V) (h : F66 va vp = fun S c => c (ii r) S) (S : St) (k : Cont) : F55 w va vp S k = F55c r w va vp S k := by
  simp only [F55, F55c, modc_eq, G55, C55, cSeq, cReg, cCond, cRet, cSkip, h]
theorem f29_c (r : Nat) (va vp : V) (h : F66 va vp = fun S c => c (ii r) S) (S : St) (k : Cont) : F29 va vp S k = F29c r va vp S k := by
  simp only [F29, F29c, G29, C29, cSeq, cReg, cRet, f55_c r _ va vp h]
theorem f30_c (r : Nat) (va vp : V) (h : F66 va vp = fun S c => c (ii r) S) (S : St) (k : Cont) : F30 va vp S k = F30c r va vp S k := by
  simp only [F30, F30c, G30, C30, cSeq, cReg, cRet, f55_c r _ va vp h]
theorem f31_c (r : Nat) (va vp : V) (h : F66 va vp = fun S c => c (ii r) S) (S : St) (k : Cont) : F31 va vp S k = F31c r va vp S k := by
  simp only [F31, F31c, G31, C31, cSeq, cReg, cRet, f55_c r _ va vp h]
theorem allT_get (f : Nat → Gn 2) (v : V) (p : Nat) : ∀ (l : List Nat) (r : Nat), allT f v p l r = true → ∀ (j t : Nat), l[j]? = some t → isV (f (r + j) v (ii p) (mkS []) fin) (.tu [ii t, ii 0]) = true
  | [], r, h, j, t, hj => by simp at hj
  | x :: l, r, h, j, t, hj => by
    have h' : (isV (f r v (ii p) (mkS []) fin) (.tu [ii x, ii 0]) && allT f v p l (r + 1)) = true := h
    rw [Bool.and_eq_true] at h'
    cases j with
    | zero => simp at hj; subst hj; exact h'.1
    | succ j =>
      have := allT_get f v p l (r + 1) h'.2 j t (by simpa using hj)
      rwa [show r + 1 + j = r + (j + 1) by omega] at this
theorem isV_some {x : R} {v : V} (h : isV x v = true) : ∃ S, x = some (v, S) := by
  unfold isV at h
  split at h
  · rename_i y S
    exact ⟨S, by rw [eqV_eq _ _ h]⟩
  · cases h
def legs (p : Nat) : Option (List Nat) := match p with
  | 3 => some leg3
  | 5 => some leg5
  | 7 => some leg7
  | 11 => some leg11
  | 13 => some leg13
  | 17 => some leg17
  | 19 => some leg19
  | 23 => some leg23
  | 29 => some leg29
  | 31 => some leg31
  | _ => none
theorem legs_all {p : Nat} {l : List Nat} (h : legs p = some l) : 0 < p ∧ p < 1000 ∧ (∀ v, allT F29c v p l 0 = true) ∧ (∀ v, allT F30c v p l 0 = true) ∧ ∀ v, allT F31c v p l 0 = true := by
  unfold legs at h
  split at h
  · cases h; exact ⟨by decide, by decide, runE3, runG3, runZ3⟩
  · cases h; exact ⟨by decide, by decide, runE5, runG5, runZ5⟩
  · cases h; exact ⟨by decide, by decide, runE7, runG7, runZ7⟩
  · cases h; exact ⟨by decide, by decide, runE11, runG11, runZ11⟩
  · cases h; exact ⟨by decide, by decide, runE13, runG13, runZ13⟩
  · cases h; exact ⟨by decide, by decide, runE17, runG17, runZ17⟩
  · cases h; exact ⟨by decide, by decide, runE19, runG19, runZ19⟩
  · cases h; exact ⟨by decide, by decide, runE23, runG23, runZ23⟩
  · cases h; exact ⟨by decide, by decide, runE29, runG29, runZ29⟩
  · cases h; exact ⟨by decide, by decide, runE31, runG31, runZ31⟩
  · cases h
def DW : List V → Option V
  | [.i .i64 a, .i .i64 p] => if a < 18446744073709551616 then (match legs p with
    | some l => (match l[mo a p]? with
      | some t => some (.tu [ii t, ii 0])
      | none => none)
    | none => none) else none
  | _ => none
theorem DW_ok {vs : List V} {v : V} (h : DW vs = some v) : ∃ a p l t, vs = [ii a, ii p] ∧ a < 18446744073709551616 ∧ legs p = some l ∧ l[mo a p]? = some t ∧ v = .tu [ii t, ii 0] := by
  unfold DW at h
  split at h
  · rename_i a p
    split at h
    · rename_i ha
      split at h
      · rename_i l hl
        split at h
        · rename_i t ht
          cases h; exact ⟨a, p, l, t, rfl, ha, hl, ht, rfl⟩
        · cases h
      · cases h
    · cases h
  · cases h
theorem DW_eq {a p t : Nat} {l : List Nat} (ha : a < 18446744073709551616) (hl : legs p = some l) (ht : l[mo a p]? = some t) (S : St) (k : Cont) : cur 2 (pureF DW) (ii a) (ii p) S k = k (.tu [ii t, ii 0]) S := by
  have e : DW [ii a, ii p] = some (.tu [ii t, ii 0]) := by
    unfold DW
    simp only [ha, if_true, hl, ht]
  show pureF DW [ii a, ii p] S k = _
  unfold pureF
  rw [e]
theorem pure2 {f : Nat} {F : Gn 2} {Fc : Nat → Gn 2} (K : FOK Tryz.prog f (un 2 F)) (hc : ∀ (r : Nat) (va vp : V), F66 va vp = (fun S c => c (ii r) S) → ∀ (S : St) (k : Cont), F va vp S k = Fc r va vp S k)
    (hT : ∀ p l, legs p = some l → ∀ v, allT Fc v p l 0 = true) : FOK Tryz.prog f (un 2 (cur 2 (pureF DW))) := cur_ok 2 (pure_ok K DW fun vs v h => by
  obtain ⟨a, p, l, t, rfl, ha, hl, ht, rfl⟩ := DW_ok h
  obtain ⟨h0, h1, _⟩ := legs_all hl
  have hm : F66 (ii a) (ii p) = fun S c => c (ii (mo a p)) S := by funext S c; exact f66_ok ha h0 (by omega) S c
  have hr := allT_get Fc (ii a) p l 0 (hT p l hl (ii a)) (mo a p) t ht
  rw [Nat.zero_add] at hr
  obtain ⟨S2, hS⟩ := isV_some hr
  refine ⟨by rfl, by rfl, S2, ?_⟩
  rw [un2', hc _ _ _ hm]; exact hS)
def Fp : Gn 2 := cur 2 (pureF DW)
theorem K29p : FOK Tryz.prog 29 (un 2 Fp) := pure2 K29 f29_c fun p l h => (legs_all h).2.2.1
theorem K30p : FOK Tryz.prog 30 (un 2 Fp) := pure2 K30 f30_c fun p l h => (legs_all h).2.2.2.1
theorem K31p : FOK Tryz.prog 31 (un 2 Fp) := pure2 K31 f31_c fun p l h => (legs_all h).2.2.2.2
end
end Go.AM
