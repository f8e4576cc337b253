/- ModfactorGauss: the law returns true at all arguments. -/
import Derived.Test.YtohmfjmgeecfkaaGreatXYNO
set_option linter.unusedVariables false
set_option linter.unusedSimpArgs false
set_option maxRecDepth 100000
namespace Go.AM
open Go.Proofs
open Go.AM.U
noncomputable section
theorem walkModfactorGauss (a b : Int) (W : World) (wa : (Lit.int .i64 a).wf = true) (wb : (Lit.int .u8 b).wf = true) : Calls Tryz.prog 4 #[.int .i64 a, .int .u8 b] W fun e w' => e = .returned (.bool true) ∧ Go.RowKit.Below W.heap.size W w' := by
  have hv : VRs (fun _ => none) [.i .i64 (a % (M .i64 : Int)).toNat, .i .u8 (b % (M .u8 : Int)).toNat] (#[.int .i64 a, .int .u8 b] : Array Value).toList := .cons _ _ _ _ (vr_wf wa) (.cons _ _ _ _ (vr_wf wb) .nil)
  have hM : (M .i64 : Int) = 18446744073709551616 := by decide
  have hM8 : (M .u8 : Int) = 256 := by decide
  have ha : (a % (M .i64 : Int)).toNat < 18446744073709551616 := by
    have h0 := Int.emod_nonneg a (b := (M .i64 : Int)) (by decide)
    have h1 := Int.emod_lt_of_pos a (b := (M .i64 : Int)) (by decide)
    omega
  have hb : (b % (M .u8 : Int)).toNat < 256 := by
    have h0 := Int.emod_nonneg b (b := (M .u8 : Int)) (by decide)
    have h1 := Int.emod_lt_of_pos b (b := (M .u8 : Int)) (by decide)
    omega
  generalize (a % (M .i64 : Int)).toNat = p at hv ha
  generalize (b % (M .u8 : Int)).toNat = n at hv hb
  refine top_calls Tryz.func4 (by kernel_rfl) (by kernel_rfl) K4x _ _ hv ?_ W
  rw [un2p, law4 ha hb]
  rfl
end
end Go.AM
