/- The extended algorithm's factors are determined by their degrees; the program's and the reference's are the same. -/
import Derived.Test.YtmknclgamadphaaS5PolymodDivisions
import Derived.Test.YtmknclgamadphaaA6PolymodDivisions
namespace Go.Proofs.Ytmknclgamadphaa.MPolymodDivisions
open Go.RowKit Go.Proofs.Ytmknclgamadphaa.PPolymodDivisions Go.Proofs.YtmknclgamadphaaW.PrintWords Go.Proofs.YtmknclgamadphaaW.PrintLast Go.Proofs.YtmknclgamadphaaW.PrintMore
set_option linter.unusedVariables false
set_option linter.unusedSimpArgs false
theorem id_dif {R : Type} [CR R] {s s' t t' F G d : R} (h1 : s * F + t * G = d) (h2 : s' * F + t' * G = d) : (s - s') * F = (t' - t) * G := by
  have h := h1.trans h2.symm
  have h2 := CR.solve1 (l := [s, s', t, t', F, G]) h ((.v 0 - .v 1) * .v 4) ((.v 3 - .v 2) * .v 5) (.v 0 * .v 4 + .v 2 * .v 5) (.v 1 * .v 4 + .v 3 * .v 5) (.neg .o) rfl rfl (by decide +kernel)
  exact h2
theorem id_sub0 {R : Type} [CR R] (a : R) : a - 0 = a := by rw [CR.sub_def, CR.neg_zero, CR.add_0]
theorem id_edvd {R : Type} [CR R] {e w s t F G d : R} (h1 : s * F + t * G = d) (h2 : e * F = w * G) : e * d = (s * w + t * e) * G := by
  rw [← h1]
  have h := CR.solve1 (l := [e, w, s, t, F, G]) h2 (.v 0 * (.v 2 * .v 4 + .v 3 * .v 5)) ((.v 2 * .v 1 + .v 3 * .v 0) * .v 5) (.v 0 * .v 4) (.v 1 * .v 5) (.neg (.v 2)) rfl rfl (by decide +kernel)
  exact h
/-- The factors are determined. -/
theorem cof_uniq {p : Int} (hp : MoP p) {f g d s t s' t' : List Int} (hg : Val p g) (hgn : g ≠ []) (hd : Val p d) (hdn : d ≠ []) (vs : Val p s) (vt : Val p t) (vs' : Val p s') (vt' : Val p t')
    (h1 : toF p s * toF p f + toF p t * toF p g = toF p d) (h2 : toF p s' * toF p f + toF p t' * toF p g = toF p d) (l1 : s.length + d.length ≤ g.length) (l2 : s'.length + d.length ≤ g.length) : s = s' ∧ t = t' := by
  have hdl := List.length_pos_iff.2 hdn
  have hgl := List.length_pos_iff.2 hgn
  have e1 := id_dif h1 h2
  have e2 := id_edvd h1 e1
  have hbd : (toF p s - toF p s').bd (g.length - d.length) := ((toF_bd p s).mono (by omega)).sub ((toF_bd p s').mono (by omega))
  have hw : (toF p t' - toF p t).bd (max t'.length t.length) := ((toF_bd p t').mono (by omega)).sub ((toF_bd p t).mono (by omega))
  have hs : toF p s - toF p s' = 0 := Classical.byContradiction fun hne => by
    obtain ⟨a, ha, hta⟩ := Fx.exists_top hbd hne
    have htop := hta.mul hp.2 (toF_top hd hdn)
    have hdv : Fx.Dvd (toF p g) ((toF p s - toF p s') * toF p d) := ⟨_, _, Fx.bd.add ((Fx.mul_bd' (toF_bd p s) hw).mono (Nat.le_max_left _ (t.length + (g.length - d.length)))) ((Fx.mul_bd' (toF_bd p t) hbd).mono (Nat.le_max_right _ _)), e2⟩
    have := hdv.le hp.2 (toF_top hg hgn) htop
    omega
  have hs' := toF_inj vs vs' (CR.sub_eq_zero hs)
  refine ⟨hs', ?_⟩
  rw [hs, CR.zero_mul] at e1
  rcases Fx.mul_zero_iff hp.2 hw (toF_bd p g) e1.symm with h | h
  · exact (toF_inj vt' vt (CR.sub_eq_zero h)).symm
  · exact absurd (toF_eq_zero hp.1.pos hg h) hgn
theorem val_mon {p : Int} {F G : Fx p} {d : List Int} (h : IsGcd p F G d) : Val p d := h.vd
/-- The reference's first factor behind a first step: of low degree. -/
theorem ref_Xgcd_loop2 {p : Int} (hp : MoP p) {F G : Fx p} {N gl : Nat} (hN : N ≤ 10000) : ∀ (n : Nat) (a b s t u v : List Int), b.length = n → YS p F G a b s t u v N → b.length < a.length → s.length + a.length ≤ gl → t.length + a.length ≤ gl + 1 →
    ∃ d s' u', Ev (fun k => galoisref09_Xgcd.l0 k p a b s t u v) (d, s', u') ∧ IsGcd p F G d ∧ Val p s' ∧ Val p u' ∧ toF p s' * F + toF p u' * G = toF p d ∧ s'.length + d.length ≤ gl ∧ d ≠ [] := by
  intro n
  induction n using Nat.strongRecOn with
  | _ n ih =>
    intro a b s t u v hn h hab z1 z2
    have hls := h.ls; have hlt := h.lt; have hlu := h.lu; have hlv := h.lv
    by_cases h0 : (b.length : Int) > 0
    · have hb : b ≠ [] := List.length_pos_iff.1 (by omega)
      obtain ⟨q, r, he, hd⟩ := ref_DivMod_is hp h.va h.vb hb (by omega) (by omega)
      have hq := hd.lq hp.2 h.va h.vb
      have hnx := h.next hp hd
      have z3 := psub_short (p := p) (s := s) (t := t) (q := q) (la := a.length) (lb := b.length) (N := gl + 1) hq (by omega) z2
      obtain ⟨d, s', u', h1, h2⟩ := ih r.length (by have := hd.lt; omega) _ _ _ _ _ _ rfl hnx hd.lt (by omega) z3
      refine ⟨d, s', u', Ev.succ ?_, h2⟩
      simp only [galoisref09_Xgcd.l0]
      have hm1 := pmul_len p q t
      have hm2 := pmul_len p q v
      have hM1 := ref_Mul_is hp.1 hd.vq h.vt (by omega) (by omega)
      have hM2 := ref_Mul_is hp.1 hd.vq h.vv (by omega) (by omega)
      have hS1 := ref_Sub_is hp.1 h.vs (val_pmul hp.1.pos q t) (by omega) (by omega)
      have hS2 := ref_Sub_is hp.1 h.vu (val_pmul hp.1.pos q v) (by omega) (by omega)
      exact Ev.pos h0 (Ev.bind he (Ev.bind hM1 (Ev.bind hS1 (Ev.bind hM2 (Ev.bind hS2 h1)))))
    · have hb0 : b = [] := List.length_eq_zero_iff.1 (by omega)
      have ha0 : a ≠ [] := List.length_pos_iff.1 (by omega)
      have hm := h.va.mem ha0
      obtain ⟨c, hc, hce⟩ := ref_Inv_is hp hm.1 hm.2
      have hmon := mon_scale hp h.va ha0 hc
      have hcm : c % p = c := Int.emod_eq_of_lt hc.lo hc.hi
      have hgcd : IsGcd p F G (ofF a.length fun j => (co a j * c) % p) := (isGcd_zero hp hmon).congr (fun e => by
        have := h.dv e
        rwa [hb0, toF_nil] at this)
      have hS1 := ref_Scale_is hp.1 h.va c (by omega)
      have hS2 := ref_Scale_is hp.1 h.vs c (by omega)
      have hS3 := ref_Scale_is hp.1 h.vu c (by omega)
      rw [hcm] at hS1 hS2 hS3
      have hvs1 := val_ofF hp.1.pos s.length fun j => co s j * c
      have hvu1 := val_ofF hp.1.pos u.length fun j => co u j * c
      have l1 := ofF_len s.length fun j => (co s j * c) % p
      have hml := hmon.len
      have hlead : galoisref09_Lead.f a = some (co a (a.length - 1)) := by
        unfold galoisref09_Lead.f
        rw [if_neg (by omega), w64 (by omega) (by omega), if_pos (by omega), if_pos (by omega), rd_co, show ((a.length : Int) - 1).toNat = a.length - 1 from by omega]
      refine ⟨_, _, _, Ev.succ ?_, hgcd, hvs1, hvu1, ?_, by omega, hmon.ne⟩
      · simp only [galoisref09_Xgcd.l0]
        exact Ev.neg h0 (Ev.neg (by omega) (Ev.cbind hlead (Ev.bind hce (Ev.bind hS1 (Ev.bind hS2 (Ev.bind hS3 (Ev.con rfl)))))))
      · rw [toF_scale, toF_scale]
        exact id_rdone h.ea hmon.eq
theorem unit_F {p : Int} : toF p [1] = 1 := Fx.ext fun i => by
  rw [Fx.one_c]
  show co [1] i % p = _
  cases i with
  | zero => rfl
  | succ i => rw [co_succ, co_nil, if_neg (by omega)]
theorem ref_Xgcd_low {p : Int} (hp : MoP p) {f g : List Int} (hf : Val p f) (hg : Val p g) (hgn : g ≠ []) (hfl : f.length ≤ 1000) (hgl : g.length ≤ 1000) :
    ∃ d s u, Ev (fun k => galoisref09_Xgcd.f k p f g) (d, s, u) ∧ IsGcd p (toF p f) (toF p g) d ∧ Val p s ∧ Val p u ∧ toF p s * toF p f + toF p u * toF p g = toF p d ∧ s.length + d.length ≤ g.length ∧ d ≠ [] := by
  have hv1 := val_unit hp.1
  have hl := List.length_pos_iff.2 hgn
  have h0 : YS p (toF p f) (toF p g) f g [1] [] [] [1] (f.length + g.length + 1) := ⟨hf, hg, hv1, val_nil hp.1.pos, val_nil hp.1.pos, hv1, by rw [unit_F, toF_nil, CR.one_mul, CR.zero_mul, CR.add_0], by rw [unit_F, toF_nil, CR.one_mul, CR.zero_mul, CR.zero_add], fun e => Iff.rfl, by simp; omega, by simp; omega, by simp; omega, by simp; omega⟩
  obtain ⟨q, r, he, hd⟩ := ref_DivMod_is hp hf hg hgn (by omega) (by omega)
  have hq := hd.lq hp.2 hf hg
  have hm0 : pmul p q [] = [] := by simp [pmul]
  have hs1 : psub p [1] (pmul p q []) = [1] := toF_inj (val_ofF hp.1.pos _ _) hv1 (by unfold psub; rw [toF_sub, hm0, toF_nil]; exact id_sub0 _)
  have h1 := h0.next hp hd
  rw [hs1] at h1
  obtain ⟨d, s', u', e1, e2⟩ := ref_Xgcd_loop2 hp (gl := g.length) (by omega) r.length g r [] [1] [1] _ rfl h1 hd.lt (by simp) (by simp; omega)
  refine ⟨d, s', u', Ev.succ ?_, e2⟩
  simp only [galoisref09_Xgcd.f, galoisref09_Xgcd.l0]
  have hm2 := pmul_len p q [1]
  have hM1 := ref_Mul_is hp.1 hd.vq (val_nil hp.1.pos) (by omega) (by simp)
  have hM2 := ref_Mul_is hp.1 hd.vq hv1 (by omega) (by simp)
  have hS1 := ref_Sub_is hp.1 hv1 (val_pmul hp.1.pos q []) (by simp) (by rw [hm0]; simp)
  have hS2 := ref_Sub_is hp.1 (val_nil hp.1.pos) (val_pmul hp.1.pos q [1]) (by simp) (by simp at hm2; omega)
  have hS1' : Ev (fun k => galoisref09_Sub.f k p [1] (pmul p q [])) [1] := Ev.eq hS1 hs1
  exact Ev.pos (by omega) (Ev.bind he (Ev.bind hM1 (Ev.bind hS1' (Ev.bind hM2 (Ev.bind hS2 e1)))))
end Go.Proofs.Ytmknclgamadphaa.MPolymodDivisions
