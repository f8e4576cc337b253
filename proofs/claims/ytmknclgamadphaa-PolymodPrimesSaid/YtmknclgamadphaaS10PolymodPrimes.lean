/- What the reference's test of irreducibility is. -/
import Derived.Test.YtmknclgamadphaaS9PolymodPrimes
import Derived.Test.YtmknclgamadphaaS5PolymodPrimes
namespace Go.Proofs.Ytmknclgamadphaa.MPolymodPrimes
open Go.RowKit Go.Proofs.Ytmknclgamadphaa.PPolymodPrimes Go.Proofs.YtmknclgamadphaaW.PrintWords Go.Proofs.YtmknclgamadphaaW.PrintLast Go.Proofs.YtmknclgamadphaaW.PrintMore
set_option linter.unusedVariables false
set_option linter.unusedSimpArgs false
theorem both_Monic {p : Int} (hp : MoP p) {g : List Int} (hg : Val p g) (h0 : g ≠ []) (hl : g.length ≤ 1000) : ∃ d c, Ev (fun k => galoisref09_Monic.f k p g) d ∧ Mon p g d c := by
  have hgl := List.length_pos_iff.2 h0
  obtain ⟨d, c, he, hm⟩ := fp_Monic_is hp hg h0 (by omega)
  have hmem := hg.mem h0
  obtain ⟨c', hc, hce⟩ := ref_Inv_is hp hmem.1 hmem.2
  have hcc := inv_uniq hp.2 hm.inv hc
  subst hcc
  have hmon := mon_scale hp hg h0 hc
  have hd : d = ofF g.length fun j => (co g j * c) % p := toF_inj hm.vd hmon.vd (by rw [hm.eq, hmon.eq])
  have hS := ref_Scale_is hp.1 hg c (by omega)
  rw [Int.emod_eq_of_lt hc.lo hc.hi, ← hd] at hS
  have hlead : galoisref09_Lead.f g = some (co g (g.length - 1)) := by
    unfold galoisref09_Lead.f
    rw [if_neg (by omega), w64 (by omega) (by omega), if_pos (by omega), if_pos (by omega), rd_co, show ((g.length : Int) - 1).toNat = g.length - 1 from by omega]
  refine ⟨d, c, ?_, hm⟩
  unfold galoisref09_Monic.f
  exact Ev.neg (by omega) (Ev.cbind hlead (Ev.bind hce (Ev.bind hS (Ev.con rfl))))
theorem ref_Gcd_loop {p : Int} (hp : MoP p) : ∀ (n : Nat) (f g : List Int), g.length = n → Val p f → Val p g → f.length ≤ 1000 → g.length ≤ 1000 → ∃ d, Ev (fun k => galoisref09_Gcd.l0 k p f g) d ∧ IsGcd p (toF p f) (toF p g) d := by
  intro n
  induction n using Nat.strongRecOn with
  | _ n ih =>
    intro f g hn hf hg hfl hgl
    by_cases h0 : (g.length : Int) > 0
    · have hne : g ≠ [] := List.length_pos_iff.1 (by omega)
      obtain ⟨q, r, he, hd⟩ := ref_Rem_is hp hf hg hne (by omega) (by omega)
      obtain ⟨d, hd1, hd2⟩ := ih r.length (by have := hd.lt; omega) g r rfl hg hd.vr hgl (by have := hd.lt; omega)
      refine ⟨d, Ev.succ ?_, hd2.congr (fun e => (hd.dvd_iff e).symm)⟩
      simp only [galoisref09_Gcd.l0]
      exact Ev.pos h0 (Ev.bind he hd1)
    · have hg0 : g = [] := List.length_eq_zero_iff.1 (by omega)
      subst hg0
      rw [toF_nil]
      by_cases hf0 : f = []
      · subst hf0
        refine ⟨[], Ev.succ ?_, by rw [toF_nil]; exact isGcd_nil hp⟩
        simp only [galoisref09_Gcd.l0]
        exact Ev.neg h0 (Ev.bind (Ev.con (show galoisref09_Monic.f 0 p [] = some [] from by simp [galoisref09_Monic.f])) (Ev.con rfl))
      · obtain ⟨d, c, he, hm⟩ := both_Monic hp hf hf0 hfl
        refine ⟨d, Ev.succ ?_, isGcd_zero hp hm⟩
        simp only [galoisref09_Gcd.l0]
        exact Ev.neg h0 (Ev.bind he (Ev.con rfl))
theorem ref_PowMod_is {p : Int} (hp : MoP p) {f m : List Int} {e : ByteArray} (hf : Val p f) (hm : Val p m) (hne : m ≠ []) (hfl : f.length ≤ 1000) (hml : m.length ≤ 1000) (hes : e.size ≤ 1000000) :
    ∃ w, Ev (fun k => galoisref09_PowMod.f k p f e m) w ∧ Val p w ∧ w.length < m.length ∧ Fx.Cg (toF p m) (CR.pw (toF p f) (numB e e.size)) (toF p w) := by
  obtain ⟨t, w, t1, w1, w2, wv, wl⟩ := both_PowMod hp hf hm hne hfl hml hes
  obtain ⟨_, r, r1, hd⟩ := fp_Rem_is hp hf hm hne (by omega) (by omega)
  obtain rfl := Ev.uniq t1 r1
  obtain ⟨w', w3, _, _, w4⟩ := fp_PowMod_is hp hd.vr hm hne (by have := hd.lt; omega) hml (e := e) hes
  obtain rfl := Ev.uniq w1 w3
  exact ⟨w, w2, wv, wl, (hd.cg.pw _).trans w4⟩
theorem ref_Irr_loop {p : Int} (hp : MoP p) {F : List Int} (hF : Val p F) {n : Nat} (hn : F.length = n + 1) (h1 : 1 ≤ n) (hl : n ≤ 500) :
    ∀ (d i : Nat) (v : List Int), i + d = n → 1 ≤ i → Val p v → v.length < F.length → Fx.Cg (toF p F) (Fx.xk p p.toNat (i - 1)) (toF p v) → (∀ j, 1 ≤ j → j < i → Fx.Cop (toF p F) (Fx.xk p p.toNat j - Fx.mono p 1 1)) →
      ∃ b, Ev (fun k => galoisref09_IsIrreducible.l0 k p F v (i : Int)) b ∧ (b = true ↔ Fx.Irr (toF p F) n) := by
  have hne : F ≠ [] := List.length_pos_iff.1 (by omega)
  have hpn : ((p.toNat : Nat) : Int) = p := Int.toNat_of_nonneg (by have := hp.1.lo; omega)
  have hFt := toF_top hF hne
  rw [hn, Nat.add_sub_cancel] at hFt
  have href := Fx.reftest hp.2 hpn hFt h1
  have hend : ∀ (i : Nat) (v : List Int), i ≤ n → ¬ 2 * i ≤ n → (∀ j, 1 ≤ j → j < i → Fx.Cop (toF p F) (Fx.xk p p.toNat j - Fx.mono p 1 1)) → ∃ b, Ev (fun k => galoisref09_IsIrreducible.l0 k p F v (i : Int)) b ∧ (b = true ↔ Fx.Irr (toF p F) n) := fun i v hi h2 hcop => by
    refine ⟨true, Ev.succ ?_, ?_⟩
    · simp only [galoisref09_IsIrreducible.l0]
      rw [w64 (x := 2 * (i : Int)) (by omega) (by omega), w64 (x := (F.length : Int) - 1) (by omega) (by omega)]
      exact Ev.neg (by omega) (Ev.con rfl)
    · exact ⟨fun _ => href.2 fun j hj1 hj2 => hcop j hj1 (by omega), fun _ => rfl⟩
  intro d
  induction d with
  | zero =>
    intro i v hi hi1 hv hvl hc hcop
    exact hend i v (by omega) (by omega) hcop
  | succ d ih =>
    intro i v hi hi1 hv hvl hc hcop
    by_cases h2 : 2 * i ≤ n
    · obtain ⟨e, e1, e2, e3, e4⟩ := FromInt_is (p := p) hp.1.pos (by have := hp.1.hi; omega)
      obtain ⟨w, w1, wv, wl, wc⟩ := ref_PowMod_is hp hv hF hne (by omega) (by omega) (e := e) (by omega)
      rw [show numB e e.size = p.toNat from by omega] at wc
      have hS := ref_Sub_is hp.1 wv (val_x hp.1) (by omega) (by simp)
      have hSl : (ofF (max w.length ([0, 1] : List Int).length) fun j => (co w j + p - co [0, 1] j) % p).length ≤ max w.length 2 := ofF_len _ _
      have hSv := val_ofF (F := fun j => co w j + p - co [0, 1] j) hp.1.pos (max w.length ([0, 1] : List Int).length)
      have hxi := (hc.pw p.toNat).trans wc
      rw [← xk_succ, show i - 1 + 1 = i from by omega] at hxi
      have hdc := hxi.sub (Fx.Cg.refl (Fx.po_mono 1 1))
      rw [← toF_x, ← toF_sub] at hdc
      rw [toF_x] at hdc
      obtain ⟨g, g1, gg⟩ := ref_Gcd_loop hp _ _ F rfl hSv hF (by omega) (by omega)
      have hgc := gcd_cop hp hF hne hdc gg
      by_cases hg : g.length = 1
      · obtain ⟨b, b1, b2⟩ := ih (i + 1) w (by omega) (by omega) wv wl (by rw [Nat.add_sub_cancel]; exact hxi) (fun j hj1 hj2 => by
          by_cases hji : j = i
          · rw [hji]; exact hgc.1 hg
          · exact hcop j hj1 (by omega))
        refine ⟨b, Ev.succ ?_, b2⟩
        simp only [galoisref09_IsIrreducible.l0]
        rw [w64 (x := 2 * (i : Int)) (by omega) (by omega), w64 (x := (F.length : Int) - 1) (by omega) (by omega), w64 (x := (i : Int) + 1) (by omega) (by omega)]
        exact Ev.pos (by omega) (Ev.bind e1 (Ev.bind w1 (Ev.cbind (by rfl) (Ev.bind hS (Ev.bind g1 (Ev.pos (by omega) b1))))))
      · refine ⟨false, Ev.succ ?_, ?_⟩
        · simp only [galoisref09_IsIrreducible.l0]
          rw [w64 (x := 2 * (i : Int)) (by omega) (by omega), w64 (x := (F.length : Int) - 1) (by omega) (by omega)]
          exact Ev.pos (by omega) (Ev.bind e1 (Ev.bind w1 (Ev.cbind (by rfl) (Ev.bind hS (Ev.bind g1 (Ev.neg (by omega) (Ev.con rfl)))))))
        · constructor
          · intro h; cases h
          · intro h
            exact absurd (hgc.2 (href.1 h i hi1 h2)) hg
    · exact hend i v (by omega) h2 hcop
theorem ref_Irr_is {p : Int} (hp : MoP p) {F : List Int} (hF : Val p F) (hl : F.length ≤ 500) : ∃ b, Ev (fun k => galoisref09_IsIrreducible.f k p F) b ∧ (b = true ↔ 2 ≤ F.length ∧ Fx.Irr (toF p F) (F.length - 1)) := by
  by_cases h2 : 2 ≤ F.length
  · have hne : F ≠ [] := List.length_pos_iff.1 (by omega)
    obtain ⟨_, t, t1, td⟩ := ref_Rem_is hp (val_x hp.1) hF hne (by simp) (by omega)
    have htc := td.cg
    rw [toF_x] at htc
    obtain ⟨b, b1, b2⟩ := ref_Irr_loop hp hF (n := F.length - 1) (by omega) (by omega) (by omega) (F.length - 1 - 1) 1 t (by omega) (by omega) td.vr td.lt (by rw [Nat.sub_self, xk_zero]; exact htc) (fun j hj1 hj2 => by omega)
    refine ⟨b, ?_, b2.trans ⟨fun h => ⟨h2, h⟩, fun h => h.2⟩⟩
    unfold galoisref09_IsIrreducible.f
    exact Ev.neg (by omega) (Ev.cbind (by rfl) (Ev.bind t1 b1))
  · refine ⟨false, ?_, ?_⟩
    · unfold galoisref09_IsIrreducible.f
      exact Ev.pos (by omega) (Ev.con rfl)
    · constructor
      · intro h; cases h
      · intro h; exact absurd h.1 h2
end Go.Proofs.Ytmknclgamadphaa.MPolymodPrimes
