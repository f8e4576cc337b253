/- The layer of the errors: what the exported functions answer for valid polynomials. -/
import Derived.Test.YtmknclgamadphaaA2PolymodPrimes
namespace Go.Proofs.Ytmknclgamadphaa.MPolymodPrimes
open Go.RowKit Go.Proofs.Ytmknclgamadphaa.PPolymodPrimes Go.Proofs.YtmknclgamadphaaW.PrintWords Go.Proofs.YtmknclgamadphaaW.PrintLast Go.Proofs.YtmknclgamadphaaW.PrintMore
set_option linter.unusedVariables false
set_option linter.unusedSimpArgs false
/-- A valid polynomial of up to n coefficients. -/
structure Ok (p : Int) (f : List Int) (n : Nat) : Prop where
  mo : MoP p
  va : Val p f
  len : f.length ≤ n
theorem Ok.chk {p : Int} {f : List Int} {n : Nat} (h : Ok p f n) (hn : n ≤ 65) : chk p f = 0 := chk_val h.mo (Nat.le_trans h.len hn) h.va
theorem Ok.mono {p : Int} {f : List Int} {n m : Nat} (h : Ok p f n) (hn : n ≤ m) : Ok p f m := ⟨h.mo, h.va, Nat.le_trans h.len hn⟩
theorem Ok.of {p : Int} {f g : List Int} {n m : Nat} (h : Ok p f n) (hv : Val p g) (hl : g.length ≤ m) : Ok p g m := ⟨h.mo, hv, hl⟩
theorem ok_of_chk {p : Int} {f : List Int} {n : Nat} (h : Go.Proofs.Ytmknclgamadphaa.MPolymodPrimes.chk p f = 0) (hl : f.length ≤ n) : Ok p f n := ⟨(chk_zero h).1, (chk_zero h).2.2, hl⟩
theorem len_of_bd' {p : Int} {l : List Int} (h : Val p l) {n : Nat} (hb : (toF p l).bd n) : l.length ≤ n := Nat.le_of_not_lt fun hlt => h.tr.last (List.length_pos_iff.1 (by omega)) (by rw [← toF_c h]; exact hb _ (by omega))
theorem mul_small {p : Int} {f g : List Int} (hp : MoP p) : (toF p f * toF p g).bd (f.length + g.length - 1) := by
  rw [← toF_mul]
  exact (toF_bd p _).mono (pmul_len p f g)
theorem first2_ok {p : Int} {f g : List Int} (hf : Ok p f 65) (hg : Ok p g 65) : Ev (fun k => polymod_first.f k p [f, g]) 0 :=
  Ev.eq (first2_is p f g) (by rw [if_pos (hf.chk (Nat.le_refl _)), hg.chk (Nat.le_refl _)])
end Go.Proofs.Ytmknclgamadphaa.MPolymodPrimes
