/- The layer of the errors: division and the greatest common divisor of valid polynomials. -/
import Derived.Test.YtmknclgamadphaaA4PolymodRabin
import Derived.Test.YtmknclgamadphaaA5PolymodRabin
namespace Go.Proofs.Ytmknclgamadphaa.MPolymodRabin
open Go.RowKit Go.Proofs.Ytmknclgamadphaa.PPolymodRabin Go.Proofs.YtmknclgamadphaaW.PrintWords Go.Proofs.YtmknclgamadphaaW.PrintLast Go.Proofs.YtmknclgamadphaaW.PrintMore
set_option linter.unusedVariables false
set_option linter.unusedSimpArgs false
theorem DivMod_ok {p : Int} {f g : List Int} (hf : Ok p f 65) (hg : Ok p g 65) (h0 : g ≠ []) : ∃ q r, Ev (fun k => polymod_DivMod.f k p f g) (q, r, 0) ∧ DM p f g q r ∧ q.length ≤ f.length + 1 - g.length := by
  obtain ⟨q, r, he, hd⟩ := fp_DivMod_is hf.mo hf.va hg.va h0 (by have := hf.len; omega) (by have := hg.len; omega)
  refine ⟨q, r, ?_, hd, hd.lq hf.mo.2 hf.va hg.va⟩
  unfold polymod_DivMod.f
  refine Ev.bind (first2_ok hf hg) (Ev.pos rfl (Ev.succ ?_))
  have := List.length_pos_iff.2 h0
  simp only [polymod_DivMod.j0]
  exact Ev.neg (by simp; exact h0) (Ev.pos (by trivial) (Ev.bind he (Ev.con rfl)))
end Go.Proofs.Ytmknclgamadphaa.MPolymodRabin
