/- Halves: the law returns true at all arguments. -/
import Derived.Test.YtpendgpnikmohaaGreatX25
import Derived.Test.YtpendgpnikmohaaGreatMHR0
import Derived.Test.YtpendgpnikmohaaGreatMHR1
import Derived.Test.YtpendgpnikmohaaGreatMHN0
import Derived.Test.YtpendgpnikmohaaGreatMHN1
import Derived.Test.YtpendgpnikmohaaGreatMHN2
set_option linter.unusedVariables false
set_option linter.unusedSimpArgs false
namespace Go.AM
open Go.Proofs
theorem bad12 (v : V) (S : St) (k : V → St → R) (h : ∀ c, pLss v (.i .i64 1) c = c (.b true)) : F12h v S k = k (.tu [.sn, .i .i64 3]) S := by
  simp only [F12h, G12, C12, cSeq, cReg, cCond, cRet, cSkip, h, pPick_t, pPick_f, pGd_ff, pGd_tf, pIf_t]
theorem bad12' (v : V) (S : St) (k : V → St → R) (h : ∀ c, pLss v (.i .i64 1) c = c (.b false)) (h2 : ∀ c, pGtr v (.i .i64 129) c = c (.b true)) : F12h v S k = k (.tu [.sn, .i .i64 3]) S := by
  simp only [F12h, G12, C12, cSeq, cReg, cCond, cRet, cSkip, h, h2, pPick_t, pPick_f, pGd_ff, pGd_tf, pIf_t]
theorem bad12'' (v w : V) (S : St) (k : V → St → R) (h : ∀ c, pLss v (.i .i64 1) c = c (.b false)) (h2 : ∀ c, pGtr v (.i .i64 129) c = c (.b false)) (h3 : ∀ c, pRem v (.i .i64 2) c = c w) (h4 : ∀ c, pEql w (.i .i64 0) c = c (.b true)) : F12h v S k = k (.tu [.sn, .i .i64 3]) S := by
  simp only [F12h, G12, C12, cSeq, cReg, cCond, cRet, cSkip, h, h2, h3, h4, pPick_t, pPick_f, pGd_ff, pGd_tf, pIf_t]
theorem l0 (c : V → R) : pLen .sn c = c (.i .i64 0) := by rfl
theorem l1 (c : V → R) : pEql (.i .i64 0) (.i .i64 0) c = c (.b true) := by rfl
theorem l2 (c : V → R) : pEql (.i .i64 3) (.i .i64 3) c = c (.b true) := by rfl
theorem bad3 (v : V) (h : ∀ c, pLss v (.i .i64 1) c = c (.b true)) : F3h v S0 fin = fin (.b true) S0 := by
  simp only [F3h, G3, C3, cSeq, cReg, cCond, cRet, cSkip, sayT, pNot_t, bad12 v _ _ h, h, pPick_t, pPick_f, pGd_ff, pGd_tf, pGd_tt, pIf_t, pIf_f, pExt_0, pExt_1, l0, l1, l2]
theorem bad3' (v w : V) (h : ∀ c, pLss v (.i .i64 1) c = c (.b false)) (h2 : ∀ c, pGtr v (.i .i64 129) c = c (.b true)) (h3 : ∀ c, pRem v (.i .i64 2) c = c w) (b : Bool) (h4 : ∀ c, pEql w (.i .i64 0) c = c (.b b)) : F3h v S0 fin = fin (.b true) S0 := by
  cases b <;> simp only [F3h, G3, C3, cSeq, cReg, cCond, cRet, cSkip, sayT, pNot_t, bad12' v _ _ h h2, h, h2, h3, h4, pPick_t, pPick_f, pGd_ff, pGd_tf, pGd_tt, pIf_t, pIf_f, pExt_0, pExt_1, l0, l1, l2]
theorem bad3'' (v w : V) (h : ∀ c, pLss v (.i .i64 1) c = c (.b false)) (h2 : ∀ c, pGtr v (.i .i64 129) c = c (.b false)) (h3 : ∀ c, pRem v (.i .i64 2) c = c w) (h4 : ∀ c, pEql w (.i .i64 0) c = c (.b true)) : F3h v S0 fin = fin (.b true) S0 := by
  simp only [F3h, G3, C3, cSeq, cReg, cCond, cRet, cSkip, sayT, pNot_t, bad12'' v w _ _ h h2 h3 h4, h, h2, h3, h4, pPick_t, pPick_f, pGd_ff, pGd_tf, pGd_tt, pIf_t, pIf_f, pExt_0, pExt_1, l0, l1, l2]
theorem rem2 {n : Nat} (h : n < 9223372036854775808) (c : V → R) : pRem (.i .i64 n) (.i .i64 2) c = c (.i .i64 (n % 2)) := by
  refine (pRem_i .i64 n 1 c).trans ?_
  have e : neg .i64 n = false := by
    show Nat.ble 9223372036854775808 n = false
    rw [ble_eq]; exact decide_eq_false (by omega)
  have : remI .i64 n 2 = n % 2 := by
    unfold remI
    rw [e]; rfl
  rw [this]
theorem lss1 {n : Nat} (h0 : 1 ≤ n) (h : n < 9223372036854775808) (c : V → R) : pLss (.i .i64 n) (.i .i64 1) c = c (.b false) := by
  rw [pLss_i, sh_lt h, sh_lt (by decide), blt_eq, decide_eq_false (by omega)]
theorem lss1' {n : Nat} (h : 9223372036854775808 ≤ n) (h' : n < 18446744073709551616) (c : V → R) : pLss (.i .i64 n) (.i .i64 1) c = c (.b true) := by
  rw [pLss_i, sh_ge h h', sh_lt (by decide), blt_eq, decide_eq_true (by omega)]
theorem gtr129 {n : Nat} (h : n < 9223372036854775808) (c : V → R) : pGtr (.i .i64 n) (.i .i64 129) c = c (.b (decide (129 < n))) := by
  have e : decide (129 + 9223372036854775808 < n + 9223372036854775808) = decide (129 < n) := decide_eq_decide.2 (by omega)
  rw [pGtr_i, sh_lt h, sh_lt (by decide), blt_eq, e]
theorem eql0 (n : Nat) (c : V → R) : pEql (.i .i64 n) (.i .i64 0) c = c (.b (decide (n = 0))) := by
  rw [pEql_i]; cases n <;> rfl
def good (n : Nat) : Prop := ∃ F : Gn 1, FOK Tryz.prog 3 (un 1 F) ∧ yesB (F (.i .i64 n) S0 fin) = true
theorem goodh (n : Nat) (h : F3h (.i .i64 n) S0 fin = fin (.b true) S0) : good n := ⟨F3h, K3h, by rw [h]; rfl⟩
theorem good1 : good 1 := ⟨_, K3n1, hrun1⟩
theorem good3 : good 3 := ⟨_, K3n3, hrun3⟩
theorem good5 : good 5 := ⟨_, K3n5, hrun5⟩
theorem good7 : good 7 := ⟨_, K3n7, hrun7⟩
theorem good9 : good 9 := ⟨_, K3n9, hrun9⟩
theorem good11 : good 11 := ⟨_, K3n11, hrun11⟩
theorem good13 : good 13 := ⟨_, K3n13, hrun13⟩
theorem good15 : good 15 := ⟨_, K3n15, hrun15⟩
theorem good17 : good 17 := ⟨_, K3n17, hrun17⟩
theorem good19 : good 19 := ⟨_, K3n19, hrun19⟩
theorem good21 : good 21 := ⟨_, K3n21, hrun21⟩
theorem good23 : good 23 := ⟨_, K3n23, hrun23⟩
theorem good25 : good 25 := ⟨_, K3n25, hrun25⟩
theorem good27 : good 27 := ⟨_, K3n27, hrun27⟩
theorem good29 : good 29 := ⟨_, K3n29, hrun29⟩
theorem good31 : good 31 := ⟨_, K3n31, hrun31⟩
theorem good33 : good 33 := ⟨_, K3n33, hrun33⟩
theorem good35 : good 35 := ⟨_, K3n35, hrun35⟩
theorem good37 : good 37 := ⟨_, K3n37, hrun37⟩
theorem good39 : good 39 := ⟨_, K3n39, hrun39⟩
theorem good41 : good 41 := ⟨_, K3n41, hrun41⟩
theorem good43 : good 43 := ⟨_, K3h, hrun43⟩
theorem good45 : good 45 := ⟨_, K3h, hrun45⟩
theorem good47 : good 47 := ⟨_, K3h, hrun47⟩
theorem good49 : good 49 := ⟨_, K3h, hrun49⟩
theorem good51 : good 51 := ⟨_, K3h, hrun51⟩
theorem good53 : good 53 := ⟨_, K3h, hrun53⟩
theorem good55 : good 55 := ⟨_, K3h, hrun55⟩
theorem good57 : good 57 := ⟨_, K3h, hrun57⟩
theorem good59 : good 59 := ⟨_, K3h, hrun59⟩
theorem good61 : good 61 := ⟨_, K3h, hrun61⟩
theorem good63 : good 63 := ⟨_, K3h, hrun63⟩
theorem good65 : good 65 := ⟨_, K3h, hrun65⟩
theorem good67 : good 67 := ⟨_, K3h, hrun67⟩
theorem good69 : good 69 := ⟨_, K3h, hrun69⟩
theorem good71 : good 71 := ⟨_, K3h, hrun71⟩
theorem good73 : good 73 := ⟨_, K3h, hrun73⟩
theorem good75 : good 75 := ⟨_, K3h, hrun75⟩
theorem good77 : good 77 := ⟨_, K3h, hrun77⟩
theorem good79 : good 79 := ⟨_, K3h, hrun79⟩
theorem good81 : good 81 := ⟨_, K3h, hrun81⟩
theorem good83 : good 83 := ⟨_, K3h, hrun83⟩
theorem good85 : good 85 := ⟨_, K3h, hrun85⟩
theorem good87 : good 87 := ⟨_, K3h, hrun87⟩
theorem good89 : good 89 := ⟨_, K3h, hrun89⟩
theorem good91 : good 91 := ⟨_, K3h, hrun91⟩
theorem good93 : good 93 := ⟨_, K3h, hrun93⟩
theorem good95 : good 95 := ⟨_, K3h, hrun95⟩
theorem good97 : good 97 := ⟨_, K3h, hrun97⟩
theorem good99 : good 99 := ⟨_, K3h, hrun99⟩
theorem good101 : good 101 := ⟨_, K3h, hrun101⟩
theorem good103 : good 103 := ⟨_, K3h, hrun103⟩
theorem good105 : good 105 := ⟨_, K3h, hrun105⟩
theorem good107 : good 107 := ⟨_, K3h, hrun107⟩
theorem good109 : good 109 := ⟨_, K3h, hrun109⟩
theorem good111 : good 111 := ⟨_, K3h, hrun111⟩
theorem good113 : good 113 := ⟨_, K3h, hrun113⟩
theorem good115 : good 115 := ⟨_, K3h, hrun115⟩
theorem good117 : good 117 := ⟨_, K3h, hrun117⟩
theorem good119 : good 119 := ⟨_, K3h, hrun119⟩
theorem good121 : good 121 := ⟨_, K3h, hrun121⟩
theorem good123 : good 123 := ⟨_, K3h, hrun123⟩
theorem good125 : good 125 := ⟨_, K3h, hrun125⟩
theorem good127 : good 127 := ⟨_, K3h, hrun127⟩
theorem good129 : good 129 := ⟨_, K3h, hrun129⟩
theorem goods : ∀ m : Nat, m < 65 → good (2 * m + 1)
  | 0, _ => good1
  | 1, _ => good3
  | 2, _ => good5
  | 3, _ => good7
  | 4, _ => good9
  | 5, _ => good11
  | 6, _ => good13
  | 7, _ => good15
  | 8, _ => good17
  | 9, _ => good19
  | 10, _ => good21
  | 11, _ => good23
  | 12, _ => good25
  | 13, _ => good27
  | 14, _ => good29
  | 15, _ => good31
  | 16, _ => good33
  | 17, _ => good35
  | 18, _ => good37
  | 19, _ => good39
  | 20, _ => good41
  | 21, _ => good43
  | 22, _ => good45
  | 23, _ => good47
  | 24, _ => good49
  | 25, _ => good51
  | 26, _ => good53
  | 27, _ => good55
  | 28, _ => good57
  | 29, _ => good59
  | 30, _ => good61
  | 31, _ => good63
  | 32, _ => good65
  | 33, _ => good67
  | 34, _ => good69
  | 35, _ => good71
  | 36, _ => good73
  | 37, _ => good75
  | 38, _ => good77
  | 39, _ => good79
  | 40, _ => good81
  | 41, _ => good83
  | 42, _ => good85
  | 43, _ => good87
  | 44, _ => good89
  | 45, _ => good91
  | 46, _ => good93
  | 47, _ => good95
  | 48, _ => good97
  | 49, _ => good99
  | 50, _ => good101
  | 51, _ => good103
  | 52, _ => good105
  | 53, _ => good107
  | 54, _ => good109
  | 55, _ => good111
  | 56, _ => good113
  | 57, _ => good115
  | 58, _ => good117
  | 59, _ => good119
  | 60, _ => good121
  | 61, _ => good123
  | 62, _ => good125
  | 63, _ => good127
  | 64, _ => good129
  | n + 65, h => absurd h (by omega)
theorem all3 (n : Nat) (hn : n < 18446744073709551616) : good n := by
  by_cases h : n < 9223372036854775808
  · by_cases h0 : n = 0
    · subst h0; exact goodh _ (bad3 _ (fun c => by rfl))
    · by_cases e : n % 2 = 0
      · by_cases g : 129 < n
        · exact goodh n (bad3' _ _ (lss1 (by omega) h) (fun c => by rw [gtr129 h, decide_eq_true g]) (rem2 h) _ (eql0 _))
        · exact goodh n (bad3'' _ _ (lss1 (by omega) h) (fun c => by rw [gtr129 h, decide_eq_false g]) (rem2 h) (fun c => by rw [eql0, decide_eq_true e]))
      · by_cases g : 129 < n
        · exact goodh n (bad3' _ _ (lss1 (by omega) h) (fun c => by rw [gtr129 h, decide_eq_true g]) (rem2 h) _ (eql0 _))
        · have := goods (n / 2) (by omega)
          rwa [show 2 * (n / 2) + 1 = n by omega] at this
  · exact goodh n (bad3 _ (lss1' (by omega) hn))
theorem walkReciprocityHalves (a : Int) (W : World) (wa : (Lit.int .i64 a).wf = true) : Calls Tryz.prog 3 #[.int .i64 a] W fun e w' => e = .returned (.bool true) ∧ Go.RowKit.Below W.heap.size W w' := by
  have hv : VRs (fun _ => none) [.i .i64 (a % (M .i64 : Int)).toNat] (#[.int .i64 a] : Array Value).toList := .cons _ _ _ _ (vr_wf wa) .nil
  have hn : (a % (M .i64 : Int)).toNat < 18446744073709551616 := by
    have h0 := Int.emod_nonneg a (b := (M .i64 : Int)) (by decide)
    have h1 := Int.emod_lt_of_pos a (b := (M .i64 : Int)) (by decide)
    have h2 : (M .i64 : Int) = 18446744073709551616 := by decide
    omega
  generalize (a % (M .i64 : Int)).toNat = n at hv hn
  obtain ⟨F, hF, hr⟩ := all3 n hn
  exact top_calls Tryz.func3 (by kernel_rfl) (by kernel_rfl) hF _ _ hv (by rw [un1]; exact hr) W
end Go.AM
