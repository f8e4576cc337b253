/- The pure statement of PolymodDivisions. -/
import Derived.Test.YtmknclgamadphaaS6PolymodDivisions
namespace Go.Proofs.Ytmknclgamadphaa.Pure
open Go.RowKit Go.Proofs.Ytmknclgamadphaa.PPolymodDivisions Go.Proofs.YtmknclgamadphaaW.PrintWords Go.Proofs.YtmknclgamadphaaW.PrintLast Go.Proofs.YtmknclgamadphaaW.PrintMore Go.Proofs.Ytmknclgamadphaa.MPolymodDivisions
set_option linter.unusedVariables false
set_option linter.unusedSimpArgs false
theorem awake_is : Ev (fun k => galoislaw09_awake.f k) true := Ev.of (fun k => galoislaw09_awake.mono k) (k := 100) (by decide +kernel)
theorem id_second {R : Type} [CR R] {s f t g d : R} (h : s * f + t * g = d) : t * g = d - s * f := by
  have h2 := CR.solve1 (l := [s, f, t, g, d]) h (.v 2 * .v 3) (.v 4 - .v 0 * .v 1) (.v 0 * .v 1 + .v 2 * .v 3) (.v 4) (.neg .o) rfl rfl (by decide +kernel)
  exact h2
theorem id_diff {R : Type} [CR R] {s t f : R} (h : s * f = t * f) : (s - t) * f = 0 := by
  have h2 := CR.solve1 (l := [s, t, f]) h ((.v 0 - .v 1) * .v 2) .z (.v 0 * .v 2) (.v 1 * .v 2) (.neg .o) rfl rfl (by decide +kernel)
  exact h2
theorem both_Monic {p : Int} (hp : MoP p) {g : List Int} (hg : Val p g) (hl : g.length ≤ 1000) : ∃ m, Ev (fun k => fp_Monic.f k p g) m ∧ Ev (fun k => galoisref09_Monic.f k p g) m ∧ m.length ≤ g.length := by
  by_cases h0 : g = []
  · subst h0
    refine ⟨[], ?_, ?_, by simp⟩
    · unfold fp_Monic.f; exact Ev.pos rfl (Ev.con rfl)
    · unfold galoisref09_Monic.f; exact Ev.pos rfl (Ev.con rfl)
  · have hgl := List.length_pos_iff.2 h0
    obtain ⟨d, c, he, hm⟩ := fp_Monic_is hp hg h0 (by omega)
    have hmem := hg.mem h0
    obtain ⟨c', hc, hce⟩ := ref_Inv_is hp hmem.1 hmem.2
    have hcc := inv_uniq hp.2 hm.inv hc
    subst hcc
    have hmon := mon_scale hp hg h0 hc
    have hd : d = ofF g.length fun j => (co g j * c) % p := toF_inj hm.vd hmon.vd (by rw [hm.eq, hmon.eq])
    have hS := ref_Scale_is hp.1 hg c (by omega)
    rw [Int.emod_eq_of_lt hc.lo hc.hi, ← hd] at hS
    have hlead : galoisref09_Lead.f g = some (co g (g.length - 1)) := by
      unfold galoisref09_Lead.f
      rw [if_neg (by omega), w64 (by omega) (by omega), if_pos (by omega), if_pos (by omega), rd_co, show ((g.length : Int) - 1).toNat = g.length - 1 from by omega]
    refine ⟨d, he, ?_, by rw [hm.len]; exact Nat.le_refl _⟩
    unfold galoisref09_Monic.f
    exact Ev.neg (by omega) (Ev.cbind hlead (Ev.bind hce (Ev.bind hS (Ev.con rfl))))
theorem gcd_len {p : Int} (hp : MoP p) {f g d : List Int} (hf : Val p f) (hg : Val p g) (h : IsGcd p (toF p f) (toF p g) d) : d.length ≤ max f.length g.length := by
  by_cases hd : d = []
  · rw [hd]; simp
  · have := List.length_pos_iff.2 hd
    by_cases h0 : f = []
    · by_cases h1 : g = []
      · have h2 := h.dv 0
        rw [h0, h1, toF_nil] at h2
        obtain ⟨q, n, hq, e⟩ := h2.2 ⟨Fx.Dvd.refl _, Fx.Dvd.refl _⟩
        exact absurd (toF_eq_zero hp.1.pos h.vd (by rw [e, CR.mul_0])) hd
      · have := h.right.le hp.2 (toF_top h.vd hd) (toF_top hg h1)
        have := List.length_pos_iff.2 h1
        omega
    · have := h.left.le hp.2 (toF_top h.vd hd) (toF_top hf h0)
      have := List.length_pos_iff.2 h0
      omega
theorem both_Xgcd {p : Int} (hp : MoP p) {f g : List Int} (hf : Val p f) (hg : Val p g) (hfl : f.length ≤ 65) (hgl : g.length ≤ 65) :
    ∃ d s t, Ev (fun k => fp_Xgcd.f k p f g) (d, s, t) ∧ Ev (fun k => galoisref09_Xgcd.f k p f g) (d, s, t) ∧ IsGcd p (toF p f) (toF p g) d ∧ d.length ≤ 65 ∧ s.length ≤ 65 ∧ t.length ≤ 65 := by
  by_cases h0 : g = []
  · subst h0
    by_cases h1 : f = []
    · subst h1
      refine ⟨[], [], [], ?_, Ev.succ ?_, by rw [toF_nil]; exact isGcd_nil hp, by simp, by simp, by simp⟩
      · unfold fp_Xgcd.f; exact Ev.pos rfl (Ev.pos rfl (Ev.con rfl))
      · simp only [galoisref09_Xgcd.f, galoisref09_Xgcd.l0]
        exact Ev.neg (by decide) (Ev.pos (by trivial) (Ev.con rfl))
    · have hl := List.length_pos_iff.2 h1
      obtain ⟨d, s, t, he, hx, _, hsl, ht0, _⟩ := fp_Xgcd_is hp hf hg (by omega) (by omega)
      have htn := ht0 rfl
      subst htn
      have hmem := hf.mem h1
      obtain ⟨c, hc, hce⟩ := ref_Inv_is hp hmem.1 hmem.2
      have hmon := mon_scale hp hf h1 hc
      have hv1 := val_unit hp.1
      have hS1 := ref_Scale_is hp.1 hf c (by omega)
      have hS2 := ref_Scale_is hp.1 hv1 c (by simp)
      have hS3 := ref_Scale_is hp.1 (val_nil hp.1.pos) c (by simp)
      rw [Int.emod_eq_of_lt hc.lo hc.hi] at hS1 hS2 hS3
      have hgd : IsGcd p (toF p f) (toF p []) (ofF f.length fun j => (co f j * c) % p) := by rw [toF_nil]; exact isGcd_zero hp hmon
      have hd := hx.gcd.uniq hp hgd
      have hs : s = ofF ([1] : List Int).length fun j => (co [1] j * c) % p := by
        refine toF_inj hx.vs (val_ofF hp.1.pos _ _) ?_
        have e1 := hx.eq
        rw [toF_nil, CR.zero_mul, CR.add_0] at e1
        have e2 : toF p (ofF ([1] : List Int).length fun j => (co [1] j * c) % p) * toF p f = toF p d := by
          rw [toF_scale, unit_F, CR.mul_1, hd, hmon.eq]
        rcases Fx.mul_zero_iff hp.2 (Fx.bd.sub ((toF_bd p s).mono (Nat.le_max_left _ 1)) ((toF_bd p _).mono (Nat.le_trans (ofF_len _ _) (Nat.le_max_right _ _)))) (toF_bd p f) (id_diff (e1.trans e2.symm)) with h | h
        · exact CR.sub_eq_zero h
        · exact absurd (toF_eq_zero hp.1.pos hf h) h1
      have hlead : galoisref09_Lead.f f = some (co f (f.length - 1)) := by
        unfold galoisref09_Lead.f
        rw [if_neg (by omega), w64 (by omega) (by omega), if_pos (by omega), if_pos (by omega), rd_co, show ((f.length : Int) - 1).toNat = f.length - 1 from by omega]
      have hdl := gcd_len hp hf hg hx.gcd
      simp only [List.length_nil] at hdl hsl
      refine ⟨d, s, [], he, Ev.succ ?_, hx.gcd, by omega, by omega, by simp⟩
      simp only [galoisref09_Xgcd.f, galoisref09_Xgcd.l0]
      rw [← hd] at hS1
      rw [← hs] at hS2
      exact Ev.neg (by decide) (Ev.neg (by omega) (Ev.cbind hlead (Ev.bind hce (Ev.bind hS1 (Ev.bind hS2 (Ev.bind hS3 (Ev.con rfl)))))))
  · have hgp := List.length_pos_iff.2 h0
    obtain ⟨d, s, t, he, hx, hd0, hsl, _, hlow⟩ := fp_Xgcd_is hp hf hg (by omega) (by omega)
    obtain ⟨d', s', t', he', hg', vs', vt', heq', hlow', hd'⟩ := ref_Xgcd_low hp hf hg h0 (by omega) (by omega)
    have hdd := hx.gcd.uniq hp hg'
    subst hdd
    have hl1 := hlow h0
    obtain ⟨e1, e2⟩ := cof_uniq hp hg h0 hx.gcd.vd hd' hx.vs hx.vt vs' vt' hx.eq heq' hl1 hlow'
    subst e1; subst e2
    have hdl := gcd_len hp hf hg hx.gcd
    refine ⟨d, s, t, he, he', hx.gcd, by omega, by omega, ?_⟩
    by_cases ht : t = []
    · rw [ht]; simp
    · have htp := List.length_pos_iff.2 ht
      have hb : (toF p t * toF p g).bd (max d.length (s.length + f.length - 1)) := by
        rw [id_second hx.eq]
        exact ((toF_bd p d).mono (by omega)).sub ((mul_small hp).mono (by omega))
      have := ((toF_top hx.vt ht).mul hp.2 (toF_top hg h0)).bd_iff.1 hb
      omega

theorem PolymodDivisions : galoislaw09_PolymodDivisions.Pure := by
  intro p f g _ hm1 hb1 _ hm2 hb2 _
  refine Ev.rounds (g := fun k => galoislaw09_PolymodDivisions.f k p f g) ?_
  unfold galoislaw09_PolymodDivisions.f
  refine Ev.bind awake_is (Ev.pos rfl (Ev.cbind (long_is f g 80) (Ev.succ ?_)))
  simp only [galoislaw09_PolymodDivisions.j0]
  by_cases hl : 80 < f.length ∨ 80 < g.length
  · exact Ev.pos (decide_eq_true hl) (Ev.bind awake_is (Ev.con rfl))
  refine Ev.neg (by simp only [decide_eq_true_eq]; exact hl) ?_
  by_cases h : (if chk p f = 0 then chk p g else chk p f) = 0
  case neg =>
    have hD : Ev (fun k => polymod_DivMod.f k p f g) ([], [], if chk p f = 0 then chk p g else chk p f) := by
      unfold polymod_DivMod.f
      refine Ev.bind (first2_is p f g) (Ev.neg h (Ev.succ ?_))
      simp only [polymod_DivMod.j0]
      exact Ev.neg (by decide) (Ev.neg h (Ev.con rfl))
    have hG : Ev (fun k => polymod_Gcd.f k p f g) ([], if chk p f = 0 then chk p g else chk p f) := by
      unfold polymod_Gcd.f
      exact Ev.bind (first2_is p f g) (Ev.neg h (Ev.con rfl))
    have hX : Ev (fun k => polymod_Xgcd.f k p f g) ([], [], [], if chk p f = 0 then chk p g else chk p f) := by
      unfold polymod_Xgcd.f
      exact Ev.bind (first2_is p f g) (Ev.neg h (Ev.con rfl))
    have hr := right_err (x := []) (w := []) h rfl rfl
    by_cases h2 : chk p g = 0
    · obtain ⟨hp, l2, v2⟩ := chk_zero h2
      obtain ⟨m, m1, m2, m3⟩ := both_Monic hp v2 (by omega)
      have hM : Ev (fun k => polymod_Monic.f k p g) (m, 0) := by
        unfold polymod_Monic.f
        exact Ev.bind (first1_is p g) (Ev.pos h2 (Ev.bind m1 (Ev.con rfl)))
      have hok := right_ok (x := m) (w := m) (e := 0) (by omega) rfl rfl
      exact Ev.bind hD (Ev.bind hM (Ev.bind hG (Ev.bind hX (Ev.bind (expected_is p f g) (Ev.bind (ref_Check_is p g) (Ev.pos h2 (Ev.bind m2 (Ev.bind hok (Ev.pos rfl (Ev.neg h (Ev.bind hr (Ev.pos rfl (Ev.bind hr (Ev.pos rfl (Ev.bind hr (Ev.pos rfl (Ev.bind hr (Ev.pos rfl (Ev.bind hr (Ev.pos rfl (Ev.bind hr (Ev.con rfl))))))))))))))))))))))
    · have hM : Ev (fun k => polymod_Monic.f k p g) ([], chk p g) := by
        unfold polymod_Monic.f
        exact Ev.bind (first1_is p g) (Ev.neg h2 (Ev.con rfl))
      have hr2 := right_err (x := []) (w := []) h2 rfl rfl
      exact Ev.bind hD (Ev.bind hM (Ev.bind hG (Ev.bind hX (Ev.bind (expected_is p f g) (Ev.bind (ref_Check_is p g) (Ev.neg h2 (Ev.bind hr2 (Ev.pos rfl (Ev.bind hr (Ev.pos rfl (Ev.bind hr (Ev.pos rfl (Ev.bind hr (Ev.pos rfl (Ev.bind hr (Ev.pos rfl (Ev.bind hr (Ev.pos rfl (Ev.bind hr (Ev.con rfl))))))))))))))))))))
  have h1 : chk p f = 0 := by
    by_cases c : chk p f = 0
    · exact c
    · rwa [if_neg c] at h
  have h2 : chk p g = 0 := by rwa [if_pos h1] at h
  obtain ⟨hp, l1, v1⟩ := chk_zero h1
  obtain ⟨_, l2, v2⟩ := chk_zero h2
  have hfst : Ev (fun k => polymod_first.f k p [f, g]) 0 := Ev.eq (first2_is p f g) h
  obtain ⟨m, m1, m2, m3⟩ := both_Monic hp v2 (by omega)
  obtain ⟨d, s, t, x1, x2, hgc, ld, ls, lt⟩ := both_Xgcd hp v1 v2 l1 l2
  obtain ⟨d', hde, hdg⟩ := fp_Gcd_is hp v1 v2 (by omega) (by omega)
  have hdd := hdg.uniq hp hgc
  subst hdd
  have hM : Ev (fun k => polymod_Monic.f k p g) (m, 0) := by
    unfold polymod_Monic.f
    exact Ev.bind (first1_is p g) (Ev.pos h2 (Ev.bind m1 (Ev.con rfl)))
  have hG : Ev (fun k => polymod_Gcd.f k p f g) (d', 0) := by
    unfold polymod_Gcd.f
    exact Ev.bind hfst (Ev.pos rfl (Ev.bind hde (Ev.con rfl)))
  have hX : Ev (fun k => polymod_Xgcd.f k p f g) (d', s, t, 0) := by
    unfold polymod_Xgcd.f
    exact Ev.bind hfst (Ev.pos rfl (Ev.bind x1 (Ev.con rfl)))
  have o1 := right_ok (x := m) (w := m) (e := 0) (by omega) rfl rfl
  have o2 := right_ok (x := d') (w := d') (e := 0) ld rfl rfl
  have o3 := right_ok (x := s) (w := s) (e := 0) ls rfl rfl
  have o4 := right_ok (x := t) (w := t) (e := 0) lt rfl rfl
  have hJ : ∃ q r e, Ev (fun k => polymod_DivMod.f k p f g) (q, r, e) ∧ Ev (fun k => galoislaw09_PolymodDivisions.j1 k p f g q r e false) true := by
    by_cases h0 : g = []
    · refine ⟨[], [], 6, ?_, Ev.succ ?_⟩
      · unfold polymod_DivMod.f
        refine Ev.bind hfst (Ev.pos rfl (Ev.succ ?_))
        simp only [polymod_DivMod.j0]
        exact Ev.pos (by rw [h0]; rfl) (Ev.con rfl)
      · simp only [galoislaw09_PolymodDivisions.j1]
        have hr := right_err (x := []) (w := []) (e := 6) (e0 := 6) (by decide) rfl rfl
        exact Ev.neg (by decide) (Ev.pos (by rw [h0]; rfl) (Ev.bind hr (Ev.pos rfl (Ev.bind hr (Ev.con rfl)))))
    · have hgp := List.length_pos_iff.2 h0
      obtain ⟨q, r, e1, dm, lq⟩ := DivMod_ok (ok_of_chk h1 l1) (ok_of_chk h2 l2) h0
      obtain ⟨q', r', e2, dm'⟩ := ref_DivMod_is hp v1 v2 h0 (by omega) (by omega)
      obtain ⟨u1, u2⟩ := dm.uniq hp.2 v2 dm'
      subst u1; subst u2
      have hrl := dm.lt
      have o5 := right_ok (x := q) (w := q) (e := 0) (by omega) rfl rfl
      have o6 := right_ok (x := r) (w := r) (e := 0) (by omega) rfl rfl
      refine ⟨q, r, 0, e1, Ev.succ ?_⟩
      simp only [galoislaw09_PolymodDivisions.j1]
      exact Ev.neg (by decide) (Ev.neg (by omega) (Ev.bind e2 (Ev.bind o5 (Ev.pos rfl (Ev.bind o6 (Ev.con rfl))))))
  obtain ⟨q, r, e, hD, hj1⟩ := hJ
  exact Ev.bind hD (Ev.bind hM (Ev.bind hG (Ev.bind hX (Ev.bind (expected_is p f g) (Ev.bind (ref_Check_is p g) (Ev.pos h2 (Ev.bind m2 (Ev.bind o1 (Ev.pos rfl (Ev.pos h (Ev.bind x2 (Ev.bind o2 (Ev.pos rfl (Ev.bind o2 (Ev.pos rfl (Ev.bind o3 (Ev.pos rfl (Ev.bind o4 hj1))))))))))))))))))
end Go.Proofs.Ytmknclgamadphaa.Pure
