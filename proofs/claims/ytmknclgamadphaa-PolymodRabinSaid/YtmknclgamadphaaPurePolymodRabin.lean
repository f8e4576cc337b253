/- The pure statement of PolymodRabin. -/
import Derived.Test.YtmknclgamadphaaS9PolymodRabin
import Derived.Test.YtmknclgamadphaaA6PolymodRabin
namespace Go.Proofs.Ytmknclgamadphaa.Pure
open Go.RowKit Go.Proofs.Ytmknclgamadphaa.PPolymodRabin Go.Proofs.YtmknclgamadphaaW.PrintWords Go.Proofs.YtmknclgamadphaaW.PrintLast Go.Proofs.YtmknclgamadphaaW.PrintMore Go.Proofs.Ytmknclgamadphaa.MPolymodRabin
set_option linter.unusedVariables false
set_option linter.unusedSimpArgs false
theorem awake_is : Ev (fun k => galoislaw09_awake.f k) true := Ev.of (fun k => galoislaw09_awake.mono k) (k := 100) (by decide +kernel)
theorem natural_Check_ok {e : ByteArray} (h0 : 0 < e.size → bt e 0 ≠ 0) (h1 : e.size ≤ 2) : Ev (fun k => natural_Check.f k e) 0 := by
  have hj : Ev (fun k => natural_Check.j0 k e false) 0 := by
    refine Ev.succ ?_
    simp only [natural_Check.j0]
    exact Ev.neg (by decide) (Ev.neg (by omega) (Ev.con rfl))
  unfold natural_Check.f
  by_cases h : (e.size : Int) > 0
  · refine Ev.pos h (Ev.pos (by omega) ?_)
    rw [show (bt e 0 == 0) = false from by simp [h0 (by omega)]]
    exact hj
  · exact Ev.neg h hj
theorem PowMod_ok {p : Int} {f m : List Int} {e : ByteArray} (hf : Ok p f 65) (hm : Ok p m 65) (hne : m ≠ []) (h0 : 0 < e.size → bt e 0 ≠ 0) (h1 : e.size ≤ 2) :
    ∃ w, Ev (fun k => polymod_PowMod.f k p f e m) (w, 0) ∧ Val p w ∧ w.length < m.length ∧ Fx.Cg (toF p m) (CR.pw (toF p f) (numB e e.size)) (toF p w) := by
  have lf := hf.len; have lm := hm.len
  obtain ⟨q, r, h2, hd⟩ := fp_Rem_is hf.mo hf.va hm.va hne (by omega) (by omega)
  have hrl := hd.lt
  obtain ⟨w, w1, w2, w3, w4⟩ := fp_PowMod_is hf.mo hd.vr hm.va hne (by omega) (by omega) (e := e) (by omega)
  refine ⟨w, ?_, w2, w3, (hd.cg.pw _).trans w4⟩
  have := List.length_pos_iff.2 hne
  unfold polymod_PowMod.f
  exact Ev.bind (first2_ok hf hm) (Ev.pos rfl (Ev.bind (natural_Check_ok h0 h1) (Ev.pos rfl (Ev.neg (by omega) (Ev.bind h2 (Ev.bind w1 (Ev.con rfl)))))))
/-- The law's own loop: x^(p^n), and its difference with x. -/
theorem law_loop {p : Int} {f : List Int} (hf : Ok p f 9) {n : Nat} (hn : f.length = n + 1) (h1 : 1 ≤ n) (hirr : Fx.Irr (toF p f) n) :
    ∀ (d i : Nat) (v : List Int), i + d = n + 1 → 1 ≤ i → Ok p v 65 → Fx.Cg (toF p f) (Fx.xk p p.toNat (i - 1)) (toF p v) → Ev (fun k => galoislaw09_PolymodRabin.l0 k p f v (i : Int)) true := by
  have lf := hf.len
  have hf' := hf.mono (m := 65) (by omega)
  have hne : f ≠ [] := List.length_pos_iff.1 (by omega)
  have hpn : ((p.toNat : Nat) : Int) = p := Int.toNat_of_nonneg (by have := hf.mo.1.lo; omega)
  have hX : Ok p [0, 1] 65 := hf.of (val_x hf.mo.1) (by simp)
  intro d
  induction d with
  | zero =>
    intro i v hi h1 hv hc
    obtain ⟨s, s1, sv, sl, sF⟩ := Sub_ok hv hX
    have vl := hv.len
    have hs : Ok p s 65 := hv.of sv (by simp only [List.length_cons, List.length_nil] at sl; omega)
    obtain ⟨q, r, r1, hd, _⟩ := DivMod_ok hs hf' hne
    have hdiv : Fx.Dvd (toF p f) (toF p s) := by
      rw [sF, toF_x]
      refine (hc.sub (Fx.Cg.refl (Fx.po_mono 1 1))).symm.dvd (Fx.Dvd.refl _) ?_
      rw [show i - 1 = n from by omega]
      exact (hirr.ord hf.mo.2 hpn n).2 (Nat.dvd_refl n)
    have hr := (hd.rem_zero hf.mo hf.va hne hdiv).1
    subst hr
    refine Ev.succ ?_
    simp only [galoislaw09_PolymodRabin.l0]
    exact Ev.neg (by omega) (Ev.bind s1 (Ev.bind r1 (Ev.pos rfl (Ev.pos rfl (Ev.con rfl)))))
  | succ d ih =>
    intro i v hi h1 hv hc
    obtain ⟨e, e1, e2, e3, e4⟩ := FromInt_is (p := p) hf.mo.1.pos (by have := hf.mo.1.hi; omega)
    obtain ⟨w, w1, wv, wl, wc⟩ := PowMod_ok hv hf' hne e2 e3
    rw [show numB e e.size = p.toNat from by omega] at wc
    have hw := (hc.pw p.toNat).trans wc
    rw [← xk_succ] at hw
    have hrec := ih (i + 1) w (by omega) (by omega) (hf.of wv (by omega)) (by rw [show i + 1 - 1 = i - 1 + 1 from by omega]; exact hw)
    refine Ev.succ ?_
    simp only [galoislaw09_PolymodRabin.l0]
    rw [w64 (x := (i : Int) + 1) (by omega) (by omega)]
    exact Ev.pos (by omega) (Ev.bind e1 (Ev.bind w1 (Ev.pos rfl (Ev.neg (by simp only; omega) hrec))))

theorem PolymodRabin : galoislaw09_PolymodRabin.Pure := by
  intro p f g _ _ _ _ _ _ _
  refine Ev.rounds (g := fun k => galoislaw09_PolymodRabin.f k p f g) ?_
  have hj : ∀ b : Bool, (b = false → Ok p f 9 ∧ Ok p g 9) → Ev (fun k => galoislaw09_PolymodRabin.j0 k p f g b) true := by
    intro b hb
    refine Ev.succ ?_
    simp only [galoislaw09_PolymodRabin.j0]
    cases b
    case true => exact Ev.pos rfl (Ev.bind awake_is (Ev.con rfl))
    obtain ⟨hf, hg⟩ := hb rfl
    have hp := hf.mo
    have lf := hf.len; have lg := hg.len
    have hf' := hf.mono (m := 65) (by omega); have hg' := hg.mono (m := 65) (by omega)
    obtain ⟨t, t1, tv, tl, _, tF⟩ := Mul_ok hf' hg' (n := 65) (by omega) ((mul_small hp).mono (by omega))
    obtain ⟨b, b1, b2⟩ := IsIrr_is (hf.of tv tl)
    obtain ⟨c, c1, c2⟩ := IsIrr_is hf'
    have hend : Ev (fun k => galoislaw09_PolymodRabin.j1 k p f c false) true := by
      refine Ev.succ ?_
      simp only [galoislaw09_PolymodRabin.j1]
      refine Ev.neg (by decide) ?_
      by_cases hc : c = true
      · obtain ⟨h2, hi⟩ := c2.1 hc
        exact Ev.pos hc (law_loop hf (n := f.length - 1) (by omega) (by omega) hi (f.length - 1) 1 [0, 1] (by omega) (Nat.le_refl _) (hf.of (val_x hp.1) (by simp)) (by rw [Nat.sub_self, xk_zero, toF_x]; exact Fx.Cg.refl (Fx.po_mono 1 1)))
      · exact Ev.neg hc (Ev.con rfl)
    have hrest : Ev (fun k => if (f.length : Int) = 2 then (if c = true then (if (f.length : Int) < 2 then (galoislaw09_PolymodRabin.j1 k p f c c) else (galoislaw09_PolymodRabin.j1 k p f c false)) else (galoislaw09_PolymodRabin.j1 k p f c true)) else (if (f.length : Int) < 2 then (galoislaw09_PolymodRabin.j1 k p f c c) else (galoislaw09_PolymodRabin.j1 k p f c false))) true := by
      by_cases h2 : (f.length : Int) = 2
      · have ht := toF_top hf.va (List.length_pos_iff.1 (by omega))
        have hc : c = true := c2.2 ⟨by omega, ht, by omega, fun e k he hk => by
          have := he.le hp.2 hk ht
          omega⟩
        exact Ev.pos h2 (Ev.pos hc (Ev.neg (by omega) hend))
      · refine Ev.neg h2 ?_
        by_cases h3 : (f.length : Int) < 2
        · have hc : c = false := by
            cases c
            · rfl
            · have := (c2.1 rfl).1; omega
          subst hc
          exact Ev.pos h3 hend
        · exact Ev.neg h3 hend
    refine Ev.neg (by decide) (Ev.bind t1 (Ev.bind b1 (Ev.bind c1 (Ev.pos rfl (Ev.pos rfl (Ev.pos rfl ?_))))))
    by_cases h1 : (f.length : Int) > 1
    · refine Ev.pos h1 ?_
      by_cases h2 : (g.length : Int) > 1
      · refine Ev.pos h2 (Ev.neg (fun hbt => ?_) hrest)
        obtain ⟨h3, hi⟩ := b2.1 hbt
        have tf := toF_top hf.va (List.length_pos_iff.1 (by omega))
        have tg := toF_top hg.va (List.length_pos_iff.1 (by omega))
        have tt := tf.mul hp.2 tg
        rw [← tF] at tt
        have e := tt.uniq hi.top
        have hd : Fx.Dvd (toF p f) (toF p t) := by rw [tF, CR.mul_comm]; exact Fx.Dvd.self_mul _ (toF_bd p g)
        have := hi.irr _ _ hd tf
        omega
      · exact Ev.neg h2 hrest
    · exact Ev.neg h1 hrest
  unfold galoislaw09_PolymodRabin.f
  refine Ev.bind awake_is (Ev.pos rfl (Ev.bind (few_is p f g 8 (by omega)) ?_))
  by_cases h1 : (chk p f = 0 ∧ f.length ≤ 8 + 1) ∧ (chk p g = 0 ∧ g.length ≤ 8 + 1)
  · exact Ev.pos (decide_eq_true h1) (hj _ fun _ => ⟨ok_of_chk h1.1.1 h1.1.2, ok_of_chk h1.2.1 h1.2.2⟩)
  · exact Ev.neg (by simp [h1]) (hj true fun h => by cases h)
end Go.Proofs.Ytmknclgamadphaa.Pure
