/- Integers that come in. -/
import Derived.Test.YtpendgpnikmohaaGreatX23
namespace Go.AM
theorem vr_wf {ρ : Ren} {k : IntKind} {z : Int} (h : (Lit.int k z).wf = true) : VR ρ (.i k (z % (M k : Int)).toNat) (.int k z) := by
  have hm := M_pos k
  have h0 := Int.emod_nonneg z (b := (M k : Int)) (by omega)
  have h1 := Int.emod_lt_of_pos z (b := (M k : Int)) (by omega)
  have h' : k.min ≤ z ∧ z ≤ k.max := by simpa [Lit.wf] using h
  have hw : k.wrap z = z := by
    cases k <;> simp [IntKind.wrap, IntKind.bits, IntKind.signed, IntKind.min, IntKind.max] at h' ⊢ <;> (try split) <;> omega
  exact .i _ _ _ (by omega) (by rw [← wrap_dec, hw])
end Go.AM
