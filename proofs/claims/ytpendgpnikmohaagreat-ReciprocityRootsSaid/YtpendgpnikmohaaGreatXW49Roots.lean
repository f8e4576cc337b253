/- Roots: the law returns true at all arguments. -/
import Derived.Test.YtpendgpnikmohaaGreatX24
import Derived.Test.YtpendgpnikmohaaGreatRR
import Derived.Test.YtpendgpnikmohaaGreatRR3
import Derived.Test.YtpendgpnikmohaaGreatRR4
set_option linter.unusedVariables false
namespace Go.AM
open Go.Proofs
theorem un2 (g : Gn 2) (a b : V) : un 2 g [a, b] = g a b := by rfl
theorem redm (n k : Nat) : F5m (.i .u8 n) (.i .u8 k) S0 fin = F5m (.i .u8 (n % 5)) (.i .u8 (k % 3)) S0 fin := by
  simp only [F5m, G5, C5, cSeq, cReg, cCond, cRet, cSkip, sayT, pRem_nat, Nat.mod_mod]
theorem redn (n k : Nat) : F5n (.i .u8 n) (.i .u8 k) S0 fin = F5n (.i .u8 (n % 5)) (.i .u8 (k % 3)) S0 fin := by
  simp only [F5n, G5, C5, cSeq, cReg, cCond, cRet, cSkip, sayT, pRem_nat, Nat.mod_mod]
theorem K5m : FOK Tryz.prog 5 (un 2 F5m) := fokP (.cons K11y (.cons K12m (.cons K19u (.cons K24 (.cons K25 .nil))))) .nil hm Tryz.func5 (by kernel_rfl) (D5 sayT F12m F19u F24 F25) (H5 _)
theorem K5n : FOK Tryz.prog 5 (un 2 F5n) := fokP (.cons K11y (.cons K12o (.cons K19 (.cons K24 (.cons K25 .nil))))) .nil hm Tryz.func5 (by kernel_rfl) (D5 sayT F12o F19 F24 F25) (H5 _)
theorem all13 (r s : Nat) (hr : r < 5) (hs : s < 3) (h1 : ¬ (r = 3 ∧ s = 2)) (h2 : ¬ (r = 4 ∧ s = 2)) : yesB (F5 (.i .u8 r) (.i .u8 s) S0 fin) = true := by
  have h : r = 0 ∨ r = 1 ∨ r = 2 ∨ r = 3 ∨ r = 4 := by omega
  have k : s = 0 ∨ s = 1 ∨ s = 2 := by omega
  rcases h with rfl | rfl | rfl | rfl | rfl <;> rcases k with rfl | rfl | rfl
  · exact run0_0
  · exact run0_1
  · exact run0_2
  · exact run1_0
  · exact run1_1
  · exact run1_2
  · exact run2_0
  · exact run2_1
  · exact run2_2
  · exact run3_0
  · exact run3_1
  · exact absurd ⟨rfl, rfl⟩ h1
  · exact run4_0
  · exact run4_1
  · exact absurd ⟨rfl, rfl⟩ h2
theorem walkReciprocityRoots (a b : Int) (W : World) (wa : (Lit.int .u8 a).wf = true) (wb : (Lit.int .u8 b).wf = true) : Calls Tryz.prog 5 #[.int .u8 a, .int .u8 b] W fun e w' => e = .returned (.bool true) ∧ Go.RowKit.Below W.heap.size W w' := by
  have hv : VRs (fun _ => none) [.i .u8 (a % (M .u8 : Int)).toNat, .i .u8 (b % (M .u8 : Int)).toNat] (#[.int .u8 a, .int .u8 b] : Array Value).toList := .cons _ _ _ _ (vr_wf wa) (.cons _ _ _ _ (vr_wf wb) .nil)
  generalize (a % (M .u8 : Int)).toNat = n at hv
  generalize (b % (M .u8 : Int)).toNat = k at hv
  by_cases h1 : n % 5 = 3 ∧ k % 3 = 2
  · refine top_calls Tryz.func5 (by kernel_rfl) (by kernel_rfl) K5n _ _ hv ?_ W
    rw [un2]; change yesB (F5n _ _ S0 fin) = true
    rw [redn, h1.1, h1.2]; exact run3_2
  · by_cases h2 : n % 5 = 4 ∧ k % 3 = 2
    · refine top_calls Tryz.func5 (by kernel_rfl) (by kernel_rfl) K5m _ _ hv ?_ W
      rw [un2]; change yesB (F5m _ _ S0 fin) = true
      rw [redm, h2.1, h2.2]; exact run4_2
    · refine top_calls Tryz.func5 (by kernel_rfl) (by kernel_rfl) K5 _ _ hv ?_ W
      rw [un2]; change yesB (F5 _ _ S0 fin) = true
      rw [red]; exact all13 _ _ (Nat.mod_lt _ (by decide)) (Nat.mod_lt _ (by decide)) h1 h2
end Go.AM
