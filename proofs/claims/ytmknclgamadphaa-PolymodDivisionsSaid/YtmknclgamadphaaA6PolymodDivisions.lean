/- The layer of the errors: division and the greatest common divisor of valid polynomials. -/
import Derived.Test.YtmknclgamadphaaA4PolymodDivisions
import Derived.Test.YtmknclgamadphaaA5PolymodDivisions
namespace Go.Proofs.Ytmknclgamadphaa.MPolymodDivisions
open Go.RowKit Go.Proofs.Ytmknclgamadphaa.PPolymodDivisions Go.Proofs.YtmknclgamadphaaW.PrintWords Go.Proofs.YtmknclgamadphaaW.PrintLast Go.Proofs.YtmknclgamadphaaW.PrintMore
set_option linter.unusedVariables false
set_option linter.unusedSimpArgs false
theorem DivMod_ok {p : Int} {f g : List Int} (hf : Ok p f 65) (hg : Ok p g 65) (h0 : g ≠ []) : ∃ q r, Ev (fun k => polymod_DivMod.f k p f g) (q, r, 0) ∧ DM p f g q r ∧ q.length ≤ f.length + 1 - g.length := by
  obtain ⟨q, r, he, hd⟩ := fp_DivMod_is hf.mo hf.va hg.va h0 (by have := hf.len; omega) (by have := hg.len; omega)
  refine ⟨q, r, ?_, hd, hd.lq hf.mo.2 hf.va hg.va⟩
  unfold polymod_DivMod.f
  refine Ev.bind (first2_ok hf hg) (Ev.pos rfl (Ev.succ ?_))
  have := List.length_pos_iff.2 h0
  simp only [polymod_DivMod.j0]
  exact Ev.neg (by simp; exact h0) (Ev.pos (by trivial) (Ev.bind he (Ev.con rfl)))
theorem Xgcd_ok {p : Int} {f g : List Int} (hf : Ok p f 65) (hg : Ok p g 65) :
    ∃ d s t, Ev (fun k => polymod_Xgcd.f k p f g) (d, s, t, 0) ∧ XR p f g d s t ∧ (d = [] → f = [] ∧ g = []) ∧ s.length ≤ max 1 g.length ∧ (g = [] → t = []) ∧ (g ≠ [] → s.length + d.length ≤ g.length) := by
  obtain ⟨d, s, t, he, hx⟩ := fp_Xgcd_is hf.mo hf.va hg.va (by have := hf.len; omega) (by have := hg.len; omega)
  refine ⟨d, s, t, ?_, hx⟩
  unfold polymod_Xgcd.f
  exact Ev.bind (first2_ok hf hg) (Ev.pos rfl (Ev.bind he (Ev.con rfl)))
end Go.Proofs.Ytmknclgamadphaa.MPolymodDivisions
