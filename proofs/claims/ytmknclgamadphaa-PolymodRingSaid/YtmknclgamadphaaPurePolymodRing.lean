/- The pure statement of PolymodRing. -/
import Derived.Test.YtmknclgamadphaaA5PolymodRing
namespace Go.Proofs.Ytmknclgamadphaa.Pure
open Go.RowKit Go.Proofs.Ytmknclgamadphaa.PPolymodRing Go.Proofs.YtmknclgamadphaaW.PrintWords Go.Proofs.YtmknclgamadphaaW.PrintLast Go.Proofs.YtmknclgamadphaaW.PrintMore Go.Proofs.Ytmknclgamadphaa.MPolymodRing
set_option linter.unusedVariables false
set_option linter.unusedSimpArgs false
theorem awake_is : Ev (fun k => galoislaw09_awake.f k) true := Ev.of (fun k => galoislaw09_awake.mono k) (k := 100) (by decide +kernel)
theorem id_dist {R : Type} [CR R] (f g h : R) : (f + g) * h = f * h + h * g := by
  have h := CR.solve [f, g, h] ((.v 0 + .v 1) * .v 2) (.v 0 * .v 2 + .v 2 * .v 1) (by decide +kernel)
  exact h
theorem id_undo {R : Type} [CR R] (f g : R) : f + g - g = f := by
  have h := CR.solve [f, g] (.v 0 + .v 1 - .v 1) (.v 0) (by decide +kernel)
  exact h
theorem id_assoc {R : Type} [CR R] (f g h : R) : f * h * g = f * (h * g) := by
  have h := CR.solve [f, g, h] (.v 0 * .v 2 * .v 1) (.v 0 * (.v 2 * .v 1)) (by decide +kernel)
  exact h

theorem PolymodRing : galoislaw09_PolymodRing.Pure := by
  intro p f g h _ hm1 hb1 _ hm2 hb2 _ hm3 hb3 _
  refine Ev.rounds (g := fun k => galoislaw09_PolymodRing.f k p f g h) ?_
  have hj : ∀ b : Bool, (b = false → Ok p f 21 ∧ Ok p g 21 ∧ Ok p h 21) → Ev (fun k => galoislaw09_PolymodRing.j0 k p f g h b) true := by
    intro b hb
    refine Ev.succ ?_
    simp only [galoislaw09_PolymodRing.j0]
    cases b
    case true => exact Ev.pos rfl (Ev.bind awake_is (Ev.con rfl))
    obtain ⟨hf, hg, hh⟩ := hb rfl
    have hp := hf.mo
    have lf := hf.len; have lg := hg.len; have lh := hh.len
    have hf' := hf.mono (m := 65) (by omega); have hg' := hg.mono (m := 65) (by omega); have hh' := hh.mono (m := 65) (by omega)
    obtain ⟨s, hse, hsv, hsl, hsF⟩ := Add_ok hf' hg'
    obtain ⟨t, hte, htv, htl, htF⟩ := Add_ok hg' hf'
    have hs : Ok p s 65 := hf.of hsv (by omega)
    obtain ⟨l, hle, hlv, hll, _, hlF⟩ := Mul_ok hs hh' (n := 65) (by omega) ((mul_small hp).mono (by omega))
    obtain ⟨x, hxe, hxv, _, hxl, hxF⟩ := Mul_ok hf' hh' (n := 65) (by omega) ((mul_small hp).mono (by omega))
    obtain ⟨y, hye, hyv, _, hyl, hyF⟩ := Mul_ok hh' hg' (n := 65) (by omega) ((mul_small hp).mono (by omega))
    have hx : Ok p x 65 := hf.of hxv (by omega)
    have hy : Ok p y 65 := hf.of hyv (by omega)
    obtain ⟨c, hce, hcv, hcl, hcF⟩ := Add_ok hx hy
    obtain ⟨d, hde, hdv, hdl, hdF⟩ := Sub_ok hs hg'
    obtain ⟨a, hae, hav, hal, _, haF⟩ := Mul_ok hx hg' (n := 65) (by omega) ((mul_small hp).mono (by omega))
    obtain ⟨b, hbe, hbv, hbl, _, hbF⟩ := Mul_ok hf' hy (n := 65) (by omega) ((mul_small hp).mono (by omega))
    have e1 : s = t := toF_inj hsv htv (by rw [hsF, htF, CR.add_comm])
    have e2 : l = c := toF_inj hlv hcv (by rw [hlF, hcF, hsF, hxF, hyF]; exact id_dist _ _ _)
    have e3 : d = f := toF_inj hdv hf.va (by rw [hdF, hsF]; exact id_undo _ _)
    have e4 : a = b := toF_inj hav hbv (by rw [haF, hbF, hxF, hyF]; exact id_assoc _ _ _)
    have s1 := Ev.eq (Same_is (f := s) (g := t) (by omega)) (decide_eq_true e1)
    have s2 := Ev.eq (Same_is (f := l) (g := c) (by omega)) (decide_eq_true e2)
    have s3 := Ev.eq (Same_is (f := d) (g := f) (by omega)) (decide_eq_true e3)
    have s4 := Ev.eq (Same_is (f := a) (g := b) (by omega)) (decide_eq_true e4)
    refine Ev.neg (by decide) (Ev.bind hse (Ev.bind hte (Ev.bind hle (Ev.bind hxe (Ev.bind hye (Ev.bind hce (Ev.bind hde (Ev.pos rfl (Ev.pos rfl (Ev.pos rfl (Ev.pos rfl (Ev.pos rfl (Ev.pos rfl (Ev.succ ?_))))))))))))))
    simp only [galoislaw09_PolymodRing.j1]
    exact Ev.neg (by decide) (Ev.bind hae (Ev.bind hbe (Ev.pos rfl (Ev.pos rfl (Ev.bind s1 (Ev.pos rfl (Ev.bind s2 (Ev.pos rfl (Ev.bind s3 (Ev.pos rfl (Ev.bind s4 (Ev.con rfl))))))))))))
  unfold galoislaw09_PolymodRing.f
  refine Ev.bind awake_is (Ev.pos rfl (Ev.bind (few_is p f g 20 (by omega)) ?_))
  by_cases h1 : (chk p f = 0 ∧ f.length ≤ 20 + 1) ∧ (chk p g = 0 ∧ g.length ≤ 20 + 1)
  · refine Ev.pos (decide_eq_true h1) (Ev.bind (few_is p h h 20 (by omega)) ?_)
    by_cases h2 : (chk p h = 0 ∧ h.length ≤ 20 + 1) ∧ (chk p h = 0 ∧ h.length ≤ 20 + 1)
    · exact hj _ fun _ => ⟨ok_of_chk h1.1.1 h1.1.2, ok_of_chk h1.2.1 h1.2.2, ok_of_chk h2.1.1 h2.1.2⟩
    · exact hj _ fun h => by rw [decide_eq_false h2] at h; cases h
  · exact Ev.neg (by simp [h1]) (hj true fun h => by cases h)
end Go.Proofs.Ytmknclgamadphaa.Pure
