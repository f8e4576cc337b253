/- The pure statement of PolymodBezout. -/
import Derived.Test.YtmknclgamadphaaA5PolymodBezout
namespace Go.Proofs.Ytmknclgamadphaa.Pure
open Go.RowKit Go.Proofs.Ytmknclgamadphaa.PPolymodBezout Go.Proofs.YtmknclgamadphaaW.PrintWords Go.Proofs.YtmknclgamadphaaW.PrintLast Go.Proofs.YtmknclgamadphaaW.PrintMore Go.Proofs.Ytmknclgamadphaa.MPolymodBezout
set_option linter.unusedVariables false
set_option linter.unusedSimpArgs false
theorem awake_is : Ev (fun k => galoislaw09_awake.f k) true := Ev.of (fun k => galoislaw09_awake.mono k) (k := 100) (by decide +kernel)
theorem id_second {R : Type} [CR R] {s f t g d : R} (h : s * f + t * g = d) : t * g = d - s * f := by
  have h2 := CR.solve1 (l := [s, f, t, g, d]) h (.v 2 * .v 3) (.v 4 - .v 0 * .v 1) (.v 0 * .v 1 + .v 2 * .v 3) (.v 4) (.neg .o) rfl rfl (by decide +kernel)
  exact h2

theorem PolymodBezout : galoislaw09_PolymodBezout.Pure := by
  intro p f g _ hm1 hb1 _ hm2 hb2 _
  refine Ev.rounds (g := fun k => galoislaw09_PolymodBezout.f k p f g) ?_
  unfold galoislaw09_PolymodBezout.f
  refine Ev.bind awake_is (Ev.pos rfl (Ev.bind (few_is p f g 30 (by omega)) ?_))
  by_cases hl : (chk p f = 0 ∧ f.length ≤ 30 + 1) ∧ (chk p g = 0 ∧ g.length ≤ 30 + 1)
  case neg =>
    rw [decide_eq_false hl]
    refine Ev.succ ?_
    simp only [galoislaw09_PolymodBezout.j0]
    exact Ev.pos rfl (Ev.bind awake_is (Ev.con rfl))
  rw [decide_eq_true hl]
  have hf : Ok p f 31 := ok_of_chk hl.1.1 hl.1.2
  have hg : Ok p g 31 := ok_of_chk hl.2.1 hl.2.2
  have hfl := hf.len
  have hgl := hg.len
  have hp := hf.mo
  have hf' := hf.mono (m := 65) (by omega)
  have hg' := hg.mono (m := 65) (by omega)
  obtain ⟨d, s, t, he, hx, hd0, hsl, ht0⟩ := Xgcd_ok hf' hg'
  -- the lengths
  have hdl : d.length ≤ 31 := by
    by_cases h0 : f = []
    · by_cases h1 : g = []
      · have : d = [] := by
          have h2 := hx.gcd.dv 0
          rw [h0, h1, toF_nil] at h2
          obtain ⟨q, n, hq, e⟩ := h2.2 ⟨Fx.Dvd.refl _, Fx.Dvd.refl _⟩
          exact toF_eq_zero hp.1.pos hx.gcd.vd (by rw [e, CR.mul_comm, CR.zero_mul])
        rw [this]; simp
      · have hdn : d ≠ [] := fun e => h1 (hd0 e).2
        have := hx.gcd.right.le hp.2 (toF_top hx.gcd.vd hdn) (toF_top hg.va h1)
        have := List.length_pos_iff.2 h1
        omega
    · have hdn : d ≠ [] := fun e => h0 (hd0 e).1
      have := hx.gcd.left.le hp.2 (toF_top hx.gcd.vd hdn) (toF_top hf.va h0)
      have := List.length_pos_iff.2 h0
      omega
  have hso : Ok p s 65 := hf.of hx.vs (by omega)
  have hdo : Ok p d 65 := hf.of hx.gcd.vd (by omega)
  have hb1 : (toF p s * toF p f).bd 62 := (mul_small hp).mono (by omega)
  have hb2 : (toF p t * toF p g).bd 62 := by
    rw [id_second hx.eq]
    exact ((toF_bd p d).mono (by omega)).sub hb1
  have htl : t.length ≤ 65 := by
    by_cases h0 : t = []
    · rw [h0]; simp
    · by_cases h1 : g = []
      · rw [ht0 h1]; simp
      · have := ((toF_top hx.vt h0).mul hp.2 (toF_top hg.va h1)).bd_iff.1 hb2
        have := List.length_pos_iff.2 h0
        omega
  have hto : Ok p t 65 := hf.of hx.vt htl
  obtain ⟨x, hxe, hxv, hxl, _, hxF⟩ := Mul_ok hso hf' (n := 62) (by omega) hb1
  obtain ⟨y, hye, hyv, hyl, _, hyF⟩ := Mul_ok hto hg' (n := 62) (by omega) hb2
  obtain ⟨z, hze, hzv, hzl, hzF⟩ := Add_ok (hf.of hxv (m := 65) (by omega)) (hf.of hyv (m := 65) (by omega))
  have hSz := Same_is (f := z) (g := d) (by omega)
  have hzd : z = d := toF_inj hzv hx.gcd.vd (by rw [hzF, hxF, hyF, hx.eq])
  refine Ev.succ ?_
  simp only [galoislaw09_PolymodBezout.j0]
  refine Ev.neg (by simp) (Ev.bind he (Ev.bind hxe (Ev.bind hye (Ev.bind hze (Ev.pos rfl (Ev.pos rfl (Ev.pos rfl (Ev.pos rfl (Ev.bind hSz (Ev.succ ?_))))))))))
  rw [decide_eq_true hzd]
  simp only [galoislaw09_PolymodBezout.j1]
  refine Ev.neg (by simp) ?_
  by_cases hd1 : d = []
  · obtain ⟨h1, h2⟩ := hd0 hd1
    rw [hd1, h1, h2]
    exact Ev.pos rfl (Ev.pos rfl (Ev.con rfl))
  have hdp := List.length_pos_iff.2 hd1
  obtain ⟨q1, r1, e1, m1, l1⟩ := DivMod_ok hf' hdo hd1
  obtain ⟨q2, r2, e2, m2, l2⟩ := DivMod_ok hg' hdo hd1
  have z1 := (m1.rem_zero hp hx.gcd.vd hd1 hx.gcd.left).1
  have z2 := (m2.rem_zero hp hx.gcd.vd hd1 hx.gcd.right).1
  have hlead := hx.gcd.lead hd1
  refine Ev.neg (by omega) (Ev.bind e1 (Ev.bind e2 (Ev.pos rfl (Ev.pos rfl (Ev.neg (by show ¬ ((r1.length : Int) > 0); rw [z1]; decide) (Ev.neg (by show ¬ ((r2.length : Int) > 0); rw [z2]; decide) ?_))))))
  rw [w64 (x := (d.length : Int) - 1) (by omega) (by omega)]
  refine Ev.pos (by omega) (Ev.pos (by omega) (Ev.succ ?_))
  rw [rd_co, show ((d.length : Int) - 1).toNat = d.length - 1 from by omega, hlead]
  simp only [galoislaw09_PolymodBezout.j2]
  refine Ev.neg (by decide) ?_
  by_cases hg1 : g = []
  · rw [hg1]; exact Ev.pos rfl (Ev.con rfl)
  have hgp := List.length_pos_iff.2 hg1
  obtain ⟨q, r, e3, m3, l3⟩ := DivMod_ok hf' hg' hg1
  have hr := m3.lt
  have hqo : Ok p q 65 := hf.of m3.vq (by omega)
  have hb3 : (toF p q * toF p g).bd 62 := (mul_small hp).mono (by omega)
  obtain ⟨u, hue, huv, hul, _, huF⟩ := Mul_ok hqo hg' (n := 62) (by omega) hb3
  obtain ⟨v, hve, hvv, hvl, hvF⟩ := Add_ok (hf.of huv (m := 65) (by omega)) (hf.of m3.vr (m := 65) (by omega))
  have hSv := Same_is (f := v) (g := f) (by omega)
  have hvf : v = f := toF_inj hvv hf.va (by rw [hvF, huF, m3.eq])
  refine Ev.neg (by omega) (Ev.bind e3 (Ev.bind hue (Ev.bind hve (Ev.pos rfl (Ev.pos rfl (Ev.pos rfl (Ev.pos (by show (r.length : Int) < g.length; omega) (Ev.bind hSv (Ev.con ?_)))))))))
  rw [decide_eq_true hvf]
end Go.Proofs.Ytmknclgamadphaa.Pure
