/- What the printed functions of the program's polynomial packages compute, each said by a plain word (chapter 09, part 1). -/
import Derived.Test.YtmknclgamadphaaM1PolymodPrimes
namespace Go.Proofs.Ytmknclgamadphaa.MPolymodPrimes
open Go.RowKit Go.Proofs.Ytmknclgamadphaa.PPolymodPrimes Go.Proofs.YtmknclgamadphaaW.PrintWords Go.Proofs.YtmknclgamadphaaW.PrintLast Go.Proofs.YtmknclgamadphaaW.PrintMore
set_option linter.unusedVariables false
set_option linter.unusedSimpArgs false

/-- The bounds of a modulus. -/
structure Mo (p : Int) : Prop where
  lo : 2 ≤ p
  hi : p ≤ 65521
theorem Mo.pos {p : Int} (h : Mo p) : 0 < p := by have := h.lo; omega
theorem tmod_pos {a b : Int} (h : 0 ≤ a) : Int.tmod a b = a % b := Int.tmod_eq_emod_of_nonneg h
theorem mul_bd {p x y : Int} (hp : Mo p) (hx : 0 ≤ x ∧ x < p) (hy : 0 ≤ y ∧ y < p) : 0 ≤ x * y ∧ x * y ≤ 4293001441 := by
  refine ⟨Int.mul_nonneg hx.1 hy.1, ?_⟩
  have h1 : x * y ≤ 65521 * y := Int.mul_le_mul_of_nonneg_right (by have := hp.hi; omega) hy.1
  have := hp.hi
  omega
theorem mod_bd {p : Int} (hp : Mo p) (x : Int) : 0 ≤ x % p ∧ x % p < p := ⟨Int.emod_nonneg _ (by have := hp.lo; omega), Int.emod_lt_of_pos _ hp.pos⟩
theorem mx_len (a b : Nat) : mx (a : Int) (b : Int) = ((max a b : Nat) : Int) := by unfold mx; split <;> omega
theorem trim_ev (l : List Int) : ∀ k, fp_Trim.f k l = some (trimZ l) := fun _ => rfl

theorem fp_at_is {l : List Int} {i : Int} (h : 0 ≤ i) : fp_at.f l i = some (co l i.toNat) := by
  unfold fp_at.f
  by_cases h1 : i < (l.length : Int)
  · rw [if_pos h1, if_pos h]; rfl
  · rw [if_neg h1, co_ge (by omega)]
theorem fp_Mod_is {p a : Int} (hp : Mo p) : fp_Mod.f p a = some (a % p) := by
  have := hp.lo
  unfold fp_Mod.f
  rw [if_neg (by omega)]
  have h2 := Int.emod_nonneg a (b := p) (by omega)
  have h3 := Int.emod_lt_of_pos a (b := p) (by omega)
  by_cases h : Int.tmod a p < 0
  · rw [if_pos h]
    by_cases ha : 0 ≤ a
    · rw [tmod_pos ha] at h; omega
    · have e : Int.tmod a p = a % p - p := by
        have h4 := Int.tmod_eq_emod (a := a) (b := p)
        rw [h4]
        have : ¬ (0 ≤ a ∨ p ∣ a) := by
          rintro (h5 | h5)
          · exact ha h5
          · rw [h4, if_pos (.inr h5)] at h
            rw [Int.emod_eq_zero_of_dvd h5] at h
            omega
        rw [if_neg this]
        omega
      rw [e, w64 (by have := hp.hi; omega) (by have := hp.hi; omega)]
      congr 1; omega
  · rw [if_neg h]
    by_cases ha : 0 ≤ a
    · rw [tmod_pos ha]
    · have h4 := Int.tmod_eq_emod (a := a) (b := p)
      by_cases h5 : p ∣ a
      · rw [h4, if_pos (.inr h5)]; simp
      · have : ¬ (0 ≤ a ∨ p ∣ a) := by rintro (h6 | h6); exact ha h6; exact h5 h6
        rw [h4, if_neg this] at h
        have : (p.natAbs : Int) = p := Int.natAbs_of_nonneg (by omega)
        omega
theorem ref_Mod_is {p a : Int} (hp : Mo p) : galoisref04_Mod.f a p = some (a % p) := by
  have := hp.lo
  have := hp.hi
  unfold galoisref04_Mod.f
  rw [if_neg (by omega)]
  have h2 := Int.emod_nonneg a (b := p) (by omega)
  have h3 := Int.emod_lt_of_pos a (b := p) (by omega)
  have h4 := Int.tmod_eq_emod (a := a) (b := p)
  have hb : -p < Int.tmod a p ∧ Int.tmod a p < p := by
    rw [h4]; split <;> omega
  rw [w64 (by omega) (by omega), tmod_pos (by omega)]
  congr 1
  rw [h4]
  have : (p.natAbs : Int) = p := Int.natAbs_of_nonneg (by omega)
  split
  · simp
  · rw [this, show a % p - p + p = a % p from by omega, Int.emod_emod_of_dvd _ (Int.dvd_refl p)]
/-! ### one pass over a list -/
end Go.Proofs.Ytmknclgamadphaa.MPolymodPrimes
