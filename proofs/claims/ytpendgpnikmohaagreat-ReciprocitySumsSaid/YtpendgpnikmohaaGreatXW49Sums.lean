/- Sums: the law returns true at all arguments. -/
import Derived.Test.YtpendgpnikmohaaGreatXQs
import Derived.Test.YtpendgpnikmohaaGreatMSR
set_option linter.unusedVariables false
set_option linter.unusedSimpArgs false
set_option maxRecDepth 100000
namespace Go.AM
open Go.Proofs
noncomputable section
def F17p : Gn 1 := G17 (C17 F43p F44 F45 F46 T17)
theorem K17p : FOK Tryz.prog 17 (un 1 F17p) := fokP (.cons K43p (.cons K44 (.cons K45 (.cons K46 .nil)))) (show LOK Tryz.prog T17 from (.cons K76 (.cons K146 (.cons K165 .nil)))) hm Tryz.func17 (by kernel_rfl) (D17 F43p F44 F45 F46 T17) (H17 _)
def F4p : Gn 1 := G4 (C4 sayT F13 F16 F17p F18 F19 F20 F21 F22 F23)
theorem K4p : FOK Tryz.prog 4 (un 1 F4p) := fokP (.cons K11y (.cons K13 (.cons K16 (.cons K17p (.cons K18 (.cons K19 (.cons K20 (.cons K21 (.cons K22 (.cons K23 .nil)))))))))) .nil hm Tryz.func4 (by kernel_rfl) (D4 sayT F13 F16 F17p F18 F19 F20 F21 F22 F23) (H4 _)
theorem n70 (c : V → R) : pNeq (ii 7) (.i .i64 0) c = c (.b true) := by rfl
theorem f17_err (v sl : V) (S S1 : St) (k : Cont) (h1 : ∀ c : Cont, pBsl [(.i .i64 0)] 1 [(0, 1, v)] S c = c sl S1) (h2 : ∀ c : Cont, F43p sl S1 c = c (ii 7) S1) : F17p v S k = k (.tu [.sn, ii 7]) S1 := by
  simp only [F17p, G17, C17, cSeq, cReg, cCond, cRet, h1, h2, n70, pIf_t]
theorem f17_large (v sl : V) (S S1 : St) (k : Cont) (h1 : ∀ c : Cont, pBsl [(.i .i64 0)] 1 [(0, 1, v)] S c = c sl S1) (h2 : ∀ c : Cont, F43p sl S1 c = c (ii 0) S1) (h3 : ∀ c, pGtr v (.i .i64 23) c = c (.b true)) : F17p v S k = k (.tu [.sn, ii 4]) S1 := by
  simp only [F17p, G17, C17, cSeq, cReg, cCond, cRet, cSkip, h1, h2, h3, e00, pIf_t, pIf_f]
theorem l0 (c : V → R) : pLen .sn c = c (ii 0) := by rfl
theorem l1 (c : V → R) : pEql (ii 0) (.i .i64 0) c = c (.b true) := by rfl
theorem l7 (c : V → R) : pEql (ii 7) (.i .i64 7) c = c (.b true) := by rfl
theorem l4 (c : V → R) : pEql (ii 4) (.i .i64 4) c = c (.b true) := by rfl
theorem law_err (v : V) (S1 : St) (h1 : ∀ c : Cont, F17p v S0 c = c (.tu [.sn, ii 7]) S1) (h2 : ∀ c : Cont, F18 v S1 c = c (.b false) S1) : F4p v S0 fin = fin (.b true) S1 := by
  simp only [F4p, G4, C4, cSeq, cReg, cCond, cRet, cSkip, sayT, pNot_t, pNot_f, h1, h2, pExt_0, pExt_1, pIf_t, pIf_f, l0, l1, l7, pGd_tt, pPick_t]
theorem law_large (v : V) (S1 : St) (h1 : ∀ c : Cont, F17p v S0 c = c (.tu [.sn, ii 4]) S1) (h2 : ∀ c : Cont, F18 v S1 c = c (.b true) S1) (h3 : ∀ c, pGtr v (.i .i64 23) c = c (.b true)) : F4p v S0 fin = fin (.b true) S1 := by
  simp only [F4p, G4, C4, cSeq, cReg, cCond, cRet, cSkip, sayT, pNot_t, pNot_f, h1, h2, h3, pExt_0, pExt_1, pIf_t, pIf_f, l0, l1, l4, pGd_tt, pPick_t]
def good4 (n : Nat) : Prop := ∃ F : Gn 1, FOK Tryz.prog 4 (un 1 F) ∧ yesB (F (.i .i64 n) S0 fin) = true
theorem chk_cases (n : Nat) : chk n = 7 ∨ chk n = 0 := by
  unfold chk; split
  · exact .inr rfl
  · exact .inl rfl
theorem chk_prime {n : Nat} (h : chk n = 0) : 3 ≤ n ∧ n ≤ 65521 ∧ PrimeN n := by
  unfold chk at h
  split at h
  · rename_i h'; exact ⟨h'.1, h'.2.1, isP_iff.1 h'.2.2⟩
  · cases h
theorem nodiv {n d : Nat} (h : PrimeN n) (hd : 2 ≤ d) (hn : d < n) : n % d ≠ 0 := fun e => h.2 d hd hn (Nat.dvd_of_mod_eq_zero e)
theorem all4 (n : Nat) (hn : n < 18446744073709551616) : good4 n := by
  have e1 : ∀ c : Cont, pBsl [(.i .i64 0)] 1 [(0, 1, ii n)] S0 c = c (.sl S0.nx 0 1 1) (S0.new [ii n]) := fun c => pBsl1_eq (cellsK_i _ _) S0 c
  have e2 : ∀ c : Cont, F43p (.sl S0.nx 0 1 1) (S0.new [ii n]) c = c (ii (chk n)) (S0.new [ii n]) := fun c => check1 hn (St.new_get _ _) c
  have e3 : ∀ c : Cont, F18 (ii n) (S0.new [ii n]) c = c (.b (Nat.beq (chk n) 0)) (S0.new [ii n]) := fun c => f18_ok hn _ c
  rcases chk_cases n with h | h
  · rw [h] at e2 e3
    exact ⟨F4p, K4p, by rw [law_err (ii n) _ (fun c => f17_err (ii n) _ S0 _ c e1 e2) e3]; rfl⟩
  · rw [h] at e2 e3
    obtain ⟨h1, h2, h3⟩ := chk_prime h
    by_cases hl : 23 < n
    · have e4 : ∀ c, pGtr (ii n) (.i .i64 23) c = c (.b true) := fun c => by rw [gtr_n (by omega) (by omega), decide_eq_true hl]
      exact ⟨F4p, K4p, by rw [law_large (ii n) _ (fun c => f17_large (ii n) _ S0 _ c e1 e2 e4) e3 e4]; rfl⟩
    · have a2 : n % 2 ≠ 0 := nodiv h3 (by omega) (by omega)
      have a3 : n = 3 ∨ n % 3 ≠ 0 := by
        by_cases h0 : n = 3
        · exact .inl h0
        · exact .inr (nodiv h3 (by omega) (by omega))
      have : n = 3 ∨ n = 5 ∨ n = 7 ∨ n = 11 ∨ n = 13 ∨ n = 17 ∨ n = 19 ∨ n = 23 := by omega
      rcases this with rfl | rfl | rfl | rfl | rfl | rfl | rfl | rfl
      · exact ⟨_, sfok3, srun3⟩
      · exact ⟨_, sfok5, srun5⟩
      · exact ⟨_, sfok7, srun7⟩
      · exact ⟨_, sfok11, srun11⟩
      · exact ⟨_, sfok13, srun13⟩
      · exact ⟨_, sfok17, srun17⟩
      · exact ⟨_, sfok19, srun19⟩
      · exact ⟨_, sfok23, srun23⟩
theorem walkReciprocitySums (a : Int) (W : World) (wa : (Lit.int .i64 a).wf = true) : Calls Tryz.prog 4 #[.int .i64 a] W fun e w' => e = .returned (.bool true) ∧ Go.RowKit.Below W.heap.size W w' := by
  have hv : VRs (fun _ => none) [.i .i64 (a % (M .i64 : Int)).toNat] (#[.int .i64 a] : Array Value).toList := .cons _ _ _ _ (vr_wf wa) .nil
  have hn : (a % (M .i64 : Int)).toNat < 18446744073709551616 := by
    have h0 := Int.emod_nonneg a (b := (M .i64 : Int)) (by decide)
    have h1 := Int.emod_lt_of_pos a (b := (M .i64 : Int)) (by decide)
    have h2 : (M .i64 : Int) = 18446744073709551616 := by decide
    omega
  generalize (a % (M .i64 : Int)).toNat = n at hv hn
  obtain ⟨F, hF, hr⟩ := all4 n hn
  exact top_calls Tryz.func4 (by kernel_rfl) (by kernel_rfl) hF _ _ hv (by rw [un1]; exact hr) W
end
end Go.AM
