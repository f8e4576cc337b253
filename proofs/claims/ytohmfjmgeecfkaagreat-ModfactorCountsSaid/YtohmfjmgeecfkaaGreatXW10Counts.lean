/- ModfactorCounts: the law returns true at all arguments. -/
import Derived.Test.YtohmfjmgeecfkaaGreatXYc
set_option linter.unusedVariables false
set_option linter.unusedSimpArgs false
set_option maxRecDepth 100000
namespace Go.AM
open Go.Proofs
open Go.AM.U
noncomputable section
theorem walkModfactorCounts (a b : Int) (W : World) (wa : (Lit.int .i64 a).wf = true) (wb : (Lit.int .i64 b).wf = true) : Calls Tryz.prog 3 #[.int .i64 a, .int .i64 b] W fun e w' => e = .returned (.bool true) ∧ Go.RowKit.Below W.heap.size W w' := by
  have hv : VRs (fun _ => none) [.i .i64 (a % (M .i64 : Int)).toNat, .i .i64 (b % (M .i64 : Int)).toNat] (#[.int .i64 a, .int .i64 b] : Array Value).toList := .cons _ _ _ _ (vr_wf wa) (.cons _ _ _ _ (vr_wf wb) .nil)
  have hM : (M .i64 : Int) = 18446744073709551616 := by decide
  have hn : ∀ a : Int, (a % (M .i64 : Int)).toNat < 18446744073709551616 := fun a => by
    have h0 := Int.emod_nonneg a (b := (M .i64 : Int)) (by decide)
    have h1 := Int.emod_lt_of_pos a (b := (M .i64 : Int)) (by decide)
    omega
  have ha := hn a
  have hb := hn b
  generalize (a % (M .i64 : Int)).toNat = p at hv ha
  generalize (b % (M .i64 : Int)).toNat = n at hv hb
  refine top_calls Tryz.func3 (by kernel_rfl) (by kernel_rfl) K3x _ _ hv ?_ W
  obtain ⟨S', z⟩ := law3 ha hb mkS_run (fun v S => some (v, S))
  have e : (mkS [] : St) = S0 := by unfold mkS layS; rfl
  rw [e] at z
  rw [un2p, z]
  rfl
end
end Go.AM
