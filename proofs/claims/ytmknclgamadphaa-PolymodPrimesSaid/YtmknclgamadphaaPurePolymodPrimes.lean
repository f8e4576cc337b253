/- The pure statement of PolymodPrimes. -/
import Derived.Test.YtmknclgamadphaaS10PolymodPrimes
namespace Go.Proofs.Ytmknclgamadphaa.Pure
open Go.RowKit Go.Proofs.Ytmknclgamadphaa.PPolymodPrimes Go.Proofs.YtmknclgamadphaaW.PrintWords Go.Proofs.YtmknclgamadphaaW.PrintLast Go.Proofs.YtmknclgamadphaaW.PrintMore Go.Proofs.Ytmknclgamadphaa.MPolymodPrimes
set_option linter.unusedVariables false
set_option linter.unusedSimpArgs false
theorem awake_is : Ev (fun k => galoislaw09_awake.f k) true := Ev.of (fun k => galoislaw09_awake.mono k) (k := 100) (by decide +kernel)

theorem PolymodPrimes : galoislaw09_PolymodPrimes.Pure := by
  intro p f _ _ _ _
  refine Ev.rounds (g := fun k => galoislaw09_PolymodPrimes.f k p f) ?_
  unfold galoislaw09_PolymodPrimes.f
  refine Ev.bind awake_is (Ev.pos rfl (Ev.succ ?_))
  simp only [galoislaw09_PolymodPrimes.j0]
  by_cases hl : (f.length : Int) > 20
  · exact Ev.pos (decide_eq_true hl) (Ev.bind awake_is (Ev.con rfl))
  refine Ev.neg (by rw [decide_eq_false hl]; decide) ?_
  by_cases h1 : chk p f = 0
  · have hf : Ok p f 65 := ok_of_chk h1 (by omega)
    obtain ⟨b, b1, b2⟩ := IsIrr_is hf
    obtain ⟨c, c1, c2⟩ := ref_Irr_is hf.mo hf.va (by omega)
    have hbc : b = c := by rw [Bool.eq_iff_iff, b2, c2]
    exact Ev.bind b1 (Ev.bind (ref_Check_is p f) (Ev.pos h1 (Ev.bind c1 (Ev.pos (by rw [hbc]; simp) (Ev.con rfl)))))
  · have hI : Ev (fun k => polymod_IsIrreducible.f k p f) (false, chk p f) := by
      unfold polymod_IsIrreducible.f
      exact Ev.bind (first1_is p f) (Ev.neg h1 (Ev.con rfl))
    exact Ev.bind hI (Ev.bind (ref_Check_is p f) (Ev.neg h1 (Ev.neg (by simp) (Ev.bind (ref_Check_is p f) (Ev.con (by simp))))))
end Go.Proofs.Ytmknclgamadphaa.Pure
