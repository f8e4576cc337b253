/- The pure statement of PolymodValues. -/
import Derived.Test.YtmknclgamadphaaS4PolymodValues
namespace Go.Proofs.Ytmknclgamadphaa.Pure
open Go.RowKit Go.Proofs.Ytmknclgamadphaa.PPolymodValues Go.Proofs.YtmknclgamadphaaW.PrintWords Go.Proofs.YtmknclgamadphaaW.PrintLast Go.Proofs.YtmknclgamadphaaW.PrintMore Go.Proofs.Ytmknclgamadphaa.MPolymodValues
set_option linter.unusedVariables false
set_option linter.unusedSimpArgs false
theorem awake_is : Ev (fun k => galoislaw09_awake.f k) true := Ev.of (fun k => galoislaw09_awake.mono k) (k := 100) (by decide +kernel)

theorem PolymodValues : galoislaw09_PolymodValues.Pure := by
  intro p a f g _ _ hm1 hb1 _ hm2 hb2 _
  refine Ev.rounds (g := fun k => galoislaw09_PolymodValues.f k p a f g) ?_
  unfold galoislaw09_PolymodValues.f
  refine Ev.bind awake_is (Ev.pos rfl (Ev.cbind (long_is f g 80) (Ev.succ ?_)))
  simp only [galoislaw09_PolymodValues.j0]
  by_cases hl : 80 < f.length ∨ 80 < g.length
  · exact Ev.pos (decide_eq_true hl) (Ev.bind awake_is (Ev.con rfl))
  refine Ev.neg (by simp only [decide_eq_true_eq]; exact hl) ?_
  by_cases h1 : chk p f = 0
  · obtain ⟨hp, l1, v1⟩ := chk_zero h1
    have hf1 : Ev (fun k => polymod_first.f k p [f]) 0 := Ev.eq (first1_is p f) h1
    have hD : Ev (fun k => polymod_Derivative.f k p f) (deriv p f, 0) := by
      unfold polymod_Derivative.f
      exact Ev.bind hf1 (Ev.pos rfl (Ev.bind (fp_Derivative_is hp.1 v1 (by omega)) (Ev.con rfl)))
    have hE : Ev (fun k => polymod_Eval.f k p f a) (hn p (a % p) f f.length 0, 0) := by
      unfold polymod_Eval.f
      exact Ev.bind hf1 (Ev.pos rfl (Ev.cbind (fp_Mod_is hp.1) (Ev.bind (fp_Eval_is hp.1 v1 (mod_bd hp.1 a) (by omega)) (Ev.con rfl))))
    have hS : Ev (fun k => polymod_Scale.f k p f a) (ofF f.length fun j => (co f j * (a % p)) % p, 0) := by
      unfold polymod_Scale.f
      exact Ev.bind hf1 (Ev.pos rfl (Ev.cbind (fp_Mod_is hp.1) (Ev.bind (fp_Scale_is hp.1 v1 (mod_bd hp.1 a) (by omega)) (Ev.con rfl))))
    have hdl : (deriv p f).length ≤ 65 := Nat.le_trans (ofF_len _ _) (by omega)
    have hsl : (ofF f.length fun j => (co f j * (a % p)) % p).length ≤ 65 := Nat.le_trans (ofF_len _ _) (by omega)
    refine Ev.bind hD (Ev.bind hE (Ev.bind hS (Ev.bind (ref_Check_is p f) (Ev.pos h1 (Ev.bind (ref_Derivative_is hp.1 v1 (by omega)) (Ev.bind (right_ok hdl rfl rfl) (Ev.pos rfl (Ev.bind (ref_Eval_is a hp.1 v1 (by omega)) (Ev.pos rfl (Ev.pos rfl (Ev.bind (ref_Scale_is hp.1 v1 a (by omega)) (Ev.bind (right_ok hsl rfl rfl) (Ev.succ ?_)))))))))))))
    simp only [galoislaw09_PolymodValues.j1]
    refine Ev.neg (by decide) (Ev.cbind (long_is f g 20) ?_)
    by_cases hl2 : 20 < f.length ∨ 20 < g.length
    · exact Ev.pos (decide_eq_true hl2) (Ev.con rfl)
    refine Ev.neg (by simp only [decide_eq_true_eq]; exact hl2) ?_
    by_cases h2 : chk p g = 0
    · obtain ⟨_, l2, v2⟩ := chk_zero h2
      obtain ⟨x, e, hc, hr⟩ := Compose_is h1 h2
      refine Ev.bind hc (Ev.bind (ref_Check_is p g) (Ev.pos h2 (Ev.bind (ref_Compose_is hp.1 v1 v2 (by omega) (by omega)) ?_)))
      rcases hr with ⟨r1, r2, r3⟩ | ⟨r1, r2, r3⟩
      · exact Ev.bind (right_large r1 r2 r3) (Ev.con rfl)
      · exact Ev.bind (right_ok r1 r2 r3) (Ev.con rfl)
    · have hc := Compose_err (p := p) (f := f) (g := g) (by rw [if_pos h1]; exact h2)
      exact Ev.bind hc (Ev.bind (ref_Check_is p g) (Ev.neg h2 (Ev.bind (right_err h2 rfl (if_pos h1)) (Ev.con rfl))))
  · have hD : Ev (fun k => polymod_Derivative.f k p f) ([], chk p f) := by
      unfold polymod_Derivative.f
      exact Ev.bind (first1_is p f) (Ev.neg h1 (Ev.con rfl))
    have hE : Ev (fun k => polymod_Eval.f k p f a) (0, chk p f) := by
      unfold polymod_Eval.f
      exact Ev.bind (first1_is p f) (Ev.neg h1 (Ev.con rfl))
    have hS : Ev (fun k => polymod_Scale.f k p f a) ([], chk p f) := by
      unfold polymod_Scale.f
      exact Ev.bind (first1_is p f) (Ev.neg h1 (Ev.con rfl))
    exact Ev.bind hD (Ev.bind hE (Ev.bind hS (Ev.bind (ref_Check_is p f) (Ev.neg h1 (Ev.bind (right_err h1 rfl rfl) (Ev.pos rfl (Ev.pos rfl (Ev.pos rfl (Ev.bind (right_err h1 rfl rfl) (Ev.con rfl))))))))))
end Go.Proofs.Ytmknclgamadphaa.Pure
