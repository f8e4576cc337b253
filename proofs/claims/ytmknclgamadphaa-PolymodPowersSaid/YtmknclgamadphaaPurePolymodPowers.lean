/- The pure statement of PolymodPowers. -/
import Derived.Test.YtmknclgamadphaaS5PolymodPowers
import Derived.Test.YtmknclgamadphaaA6PolymodPowers
namespace Go.Proofs.Ytmknclgamadphaa.Pure
open Go.RowKit Go.Proofs.Ytmknclgamadphaa.PPolymodPowers Go.Proofs.YtmknclgamadphaaW.PrintWords Go.Proofs.YtmknclgamadphaaW.PrintLast Go.Proofs.YtmknclgamadphaaW.PrintMore Go.Proofs.Ytmknclgamadphaa.MPolymodPowers
set_option linter.unusedVariables false
set_option linter.unusedSimpArgs false
theorem awake_is : Ev (fun k => galoislaw09_awake.f k) true := Ev.of (fun k => galoislaw09_awake.mono k) (k := 100) (by decide +kernel)
theorem toList_loop (bs : ByteArray) : ∀ (n i : Nat) (r : List UInt8), bs.size - i = n → (ByteArray.toList.loop bs i r).length = r.length + n := by
  intro n
  induction n with
  | zero => intro i r h; rw [ByteArray.toList.loop, if_neg (by omega), List.length_reverse]; rfl
  | succ n ih => intro i r h; rw [ByteArray.toList.loop, if_pos (by omega), ih _ _ (by omega), List.length_cons]; omega
theorem toList_len (bs : ByteArray) : bs.toList.length = bs.size := by
  unfold ByteArray.toList
  rw [toList_loop bs bs.size 0 [] (by omega)]; simp
/-- The error of an exponent. -/
def natE (e : ByteArray) : Int := if 0 < e.size ∧ bt e 0 = 0 then 1 else if e.size > 1024 then 4 else 0
theorem natural_Check_is (e : ByteArray) : Ev (fun k => natural_Check.f k e) (natE e) := by
  have hj : ∀ b : Bool, (b = true ↔ 0 < e.size ∧ bt e 0 = 0) → Ev (fun k => natural_Check.j0 k e b) (natE e) := by
    intro b hb
    refine Ev.succ ?_
    simp only [natural_Check.j0]
    cases b
    · have hne : natE e = if e.size > 1024 then 4 else 0 := if_neg (fun h => by have := hb.2 h; cases this)
      rw [hne]
      refine Ev.neg (by decide) ?_
      by_cases h : (e.size : Int) > 1024
      · rw [if_pos (show e.size > 1024 by omega)]; exact Ev.pos h (Ev.con rfl)
      · rw [if_neg (show ¬ e.size > 1024 by omega)]; exact Ev.neg h (Ev.con rfl)
    · have hne : natE e = 1 := if_pos (hb.1 rfl)
      rw [hne]
      exact Ev.pos rfl (Ev.con rfl)
  unfold natural_Check.f
  by_cases h : (e.size : Int) > 0
  · refine Ev.pos h (Ev.pos (by omega) (hj _ ?_))
    rw [beq_iff_eq]
    exact ⟨fun x => ⟨by omega, x⟩, fun x => x.2⟩
  · exact Ev.neg h (hj false ⟨fun x => (by cases x), fun x => by omega⟩)
theorem ref01_Check_is (e : ByteArray) : galoisref01_Check.f e = some (natE e) := by
  have hfits : galoisref01_Fits.f e = some (if e.size > 1024 then 4 else 0) := by
    unfold galoisref01_Fits.f
    by_cases h : e.size > 1024
    · rw [if_pos (by omega), if_pos h]
    · rw [if_neg (by omega), if_neg h]
  unfold galoisref01_Check.f galoisref01_Valid.f natE
  by_cases h0 : e.toList = ([] : List UInt8)
  · have hs : e.size = 0 := by
      have : e.toList.length = 0 := by rw [h0]; rfl
      rwa [toList_len] at this
    rw [if_pos h0, if_neg (by omega)]
    simp [hfits]
  · have hs : 0 < e.size := by
      apply Nat.pos_of_ne_zero
      intro hs
      apply h0
      apply List.length_eq_zero_iff.1
      rw [toList_len, hs]
    rw [if_neg h0, if_pos (by omega)]
    by_cases hb : bt e 0 = 0
    · simp [hb, hs]
    · simp [hb, hfits]
theorem id_inv {R : Type} [CR R] {s u f m q f' o : R} (h : s * f' + u * m = o) (hf : f = q * m + f') : s * f + (u - s * q) * m = o := by
  rw [← h, hf]
  have h := CR.solve [s, u, q, m, f'] (.v 0 * (.v 2 * .v 3 + .v 4) + (.v 1 - .v 0 * .v 2) * .v 3) (.v 0 * .v 4 + .v 1 * .v 3) (by decide +kernel)
  exact h
theorem id_two {R : Type} [CR R] {s t f m u v o : R} (h1 : s * f + u * m = o) (h2 : t * f + v * m = o) : s * o = t * o + (s * v - t * u) * m := by
  have e : s * (t * f + v * m) = t * (s * f + u * m) + (s * v - t * u) * m := by
    have h := CR.solve [s, t, f, m, u, v] (.v 0 * (.v 1 * .v 2 + .v 5 * .v 3)) (.v 1 * (.v 0 * .v 2 + .v 4 * .v 3) + (.v 0 * .v 5 - .v 1 * .v 4) * .v 3) (by decide +kernel)
    exact h
  rw [h1, h2] at e
  exact e
theorem id_mix {R : Type} [CR R] {s t w q q' m r r' : R} (h : s = t + w * m) (h1 : s = q * m + r) (h2 : t = q' * m + r') : (q' + w) * m + r' = q * m + r := by
  rw [← h1, h, h2]
  have h := CR.solve [w, q', m, r'] ((.v 1 + .v 0) * .v 2 + .v 3) (.v 1 * .v 2 + .v 3 + .v 0 * .v 2) (by decide +kernel)
  exact h
theorem bd_add' {p : Int} {x y : Fx p} {n m : Nat} (hx : x.bd n) (hy : y.bd m) : (x + y).bd (max n m) := (hx.mono (Nat.le_max_left _ _)).add (hy.mono (Nat.le_max_right _ _))
theorem bd_sub' {p : Int} {x y : Fx p} {n m : Nat} (hx : x.bd n) (hy : y.bd m) : (x - y).bd (max n m) := (hx.mono (Nat.le_max_left _ _)).sub (hy.mono (Nat.le_max_right _ _))
/-- The only divisor of highest coefficient 1 and degree 0 is 1. -/
theorem one_of {p : Int} {F G : Fx p} {d : List Int} (h : IsGcd p F G d) (hl : d.length = 1) : toF p d = 1 := Fx.ext fun i => by
  have hd : d ≠ [] := List.length_pos_iff.1 (by omega)
  have h1 := h.lead hd
  rw [Fx.one_c]
  show co d i % p = _
  rw [hl] at h1
  cases i with
  | zero => rw [h1]; rfl
  | succ i => rw [co_ge (by omega), if_neg (by omega)]

theorem PolymodPowers : galoislaw09_PolymodPowers.Pure := by
  intro p f m e _ _ _ _ _ _ _ hes
  refine Ev.rounds (g := fun k => galoislaw09_PolymodPowers.f k p f m e) ?_
  have hj : ∀ b : Bool, (b = false → f.length ≤ 20 ∧ m.length ≤ 20 ∧ e.size ≤ 12) → Ev (fun k => galoislaw09_PolymodPowers.j0 k p e f m b) true := by
    intro b hb
    refine Ev.succ ?_
    simp only [galoislaw09_PolymodPowers.j0]
    cases b
    case true => exact Ev.pos rfl (Ev.bind awake_is (Ev.con rfl))
    obtain ⟨hfl, hml, hel⟩ := hb rfl
    by_cases h : (if chk p f = 0 then chk p m else chk p f) = 0
    case neg =>
      have hP : Ev (fun k => polymod_PowMod.f k p f e m) ([], if chk p f = 0 then chk p m else chk p f) := by
        unfold polymod_PowMod.f
        exact Ev.bind (first2_is p f m) (Ev.neg h (Ev.con rfl))
      have hI : Ev (fun k => polymod_Inverse.f k p f m) ([], if chk p f = 0 then chk p m else chk p f) := by
        unfold polymod_Inverse.f
        exact Ev.bind (first2_is p f m) (Ev.neg h (Ev.con rfl))
      exact Ev.neg (by decide) (Ev.bind hP (Ev.bind hI (Ev.bind (expected_is p f m) (Ev.neg h (Ev.bind (right_err h rfl rfl) (Ev.pos rfl (Ev.bind (right_err h rfl rfl) (Ev.con rfl))))))))
    have h1 : chk p f = 0 := by
      by_cases c : chk p f = 0
      · exact c
      · rwa [if_neg c] at h
    have h2 : chk p m = 0 := by rwa [if_pos h1] at h
    obtain ⟨hp, l1, v1⟩ := chk_zero h1
    obtain ⟨_, l2, v2⟩ := chk_zero h2
    have hfst : Ev (fun k => polymod_first.f k p [f, m]) 0 := Ev.eq (first2_is p f m) h
    -- the powers
    obtain ⟨x, e1, hP, hx⟩ : ∃ (x : List Int) (e1 : Int), Ev (fun k => polymod_PowMod.f k p f e m) (x, e1) ∧
        ((natE e = 0 ∧ m ≠ [] ∧ e1 = 0 ∧ x.length ≤ 65 ∧ Ev (fun k => galoisref09_PowMod.f k p f e m) x) ∨ ((natE e ≠ 0 ∧ e1 = natE e ∨ natE e = 0 ∧ m = [] ∧ e1 = 6) ∧ x = [])) := by
      by_cases hn : natE e = 0
      · by_cases hm0 : m = []
        · refine ⟨[], 6, ?_, .inr ⟨.inr ⟨hn, hm0, rfl⟩, rfl⟩⟩
          unfold polymod_PowMod.f
          exact Ev.bind hfst (Ev.pos rfl (Ev.bind (natural_Check_is e) (Ev.pos hn (Ev.pos (by rw [hm0]; rfl) (Ev.con rfl)))))
        · obtain ⟨t, w, t1, t2, t3, t4, t5⟩ := both_PowMod hp v1 v2 hm0 (e := e) (by omega) (by omega) (by omega)
          refine ⟨w, 0, ?_, .inl ⟨hn, hm0, rfl, by omega, t3⟩⟩
          unfold polymod_PowMod.f
          have := List.length_pos_iff.2 hm0
          exact Ev.bind hfst (Ev.pos rfl (Ev.bind (natural_Check_is e) (Ev.pos hn (Ev.neg (by omega) (Ev.bind t1 (Ev.bind t2 (Ev.con rfl)))))))
      · refine ⟨[], natE e, ?_, .inr ⟨.inl ⟨hn, rfl⟩, rfl⟩⟩
        unfold polymod_PowMod.f
        exact Ev.bind hfst (Ev.pos rfl (Ev.bind (natural_Check_is e) (Ev.neg hn (Ev.con rfl))))
    -- the inverses
    obtain ⟨y, e2, hI, hj3⟩ : ∃ (y : List Int) (e2 : Int), Ev (fun k => polymod_Inverse.f k p f m) (y, e2) ∧ Ev (fun k => galoislaw09_PolymodPowers.j3 k p f m y e2) true := by
      by_cases hm2 : (m.length : Int) < 2
      · refine ⟨[], 6, ?_, Ev.succ ?_⟩
        · unfold polymod_Inverse.f
          exact Ev.bind hfst (Ev.pos rfl (Ev.pos hm2 (Ev.con rfl)))
        · simp only [galoislaw09_PolymodPowers.j3]
          exact Ev.pos hm2 (Ev.bind (right_err (by decide) rfl rfl) (Ev.con rfl))
      · have hm0 : m ≠ [] := List.length_pos_iff.1 (by omega)
        obtain ⟨d, s, t, he, hx, _, hsl, _⟩ := fp_Xgcd_is hp v1 v2 (by omega) (by omega)
        obtain ⟨q0, f', _, hf2, hdm⟩ := both_Rem hp v1 v2 hm0 (by omega) (by omega)
        have hf'l := hdm.lt
        obtain ⟨d', s', u', he', hg', hvs, hvu, heq, hs'l, _⟩ := ref_Xgcd_is hp hdm.vr v2 (by omega) (by omega)
        have hdd : d = d' := hx.gcd.uniq hp (hg'.congr (fun e => by
          have h3 := hdm.dvd_iff e
          constructor
          · rintro ⟨a, b⟩; exact h3.2 ⟨b, a⟩
          · rintro hab; have := h3.1 hab; exact ⟨this.2, this.1⟩))
        subst hdd
        by_cases hd1 : (d.length : Int) = 1
        · have ho : toF p d = 1 := one_of hx.gcd (by omega)
          obtain ⟨q1, r1, hr1, hd1'⟩ := fp_Rem_is hp hx.vs v2 hm0 (by omega) (by omega)
          obtain ⟨q2, r2, hr2, hd2'⟩ := ref_Rem_is hp hvs v2 hm0 (by omega) (by omega)
          have hre : r1 = r2 := by
            have a1 := hx.eq
            have a2 := id_inv heq hdm.eq
            have a3 := id_two a1 a2
            rw [ho, CR.mul_1, CR.mul_1] at a3
            have a4 := id_mix a3 hd1'.eq hd2'.eq
            have hlt1 := hd1'.lt
            have hlt2 := hd2'.lt
            -- the two remainders are the same
            obtain ⟨e1, e2⟩ := Fx.div_uniq hp.2 (toF_top v2 hm0) (bd_add' (toF_bd p q2) (bd_sub' (Fx.mul_bd' (toF_bd p s) (bd_sub' (toF_bd p u') (Fx.mul_bd' (toF_bd p s') (toF_bd p q0)))) (Fx.mul_bd' (toF_bd p s') (toF_bd p t)))) (toF_bd p q1) ((toF_bd p r2).mono (by omega)) ((toF_bd p r1).mono (by omega)) a4
            exact (toF_inj hd2'.vr hd1'.vr e2).symm
          subst hre
          have hlt1 := hd1'.lt
          refine ⟨r1, 0, ?_, Ev.succ ?_⟩
          · unfold polymod_Inverse.f
            exact Ev.bind hfst (Ev.pos rfl (Ev.neg hm2 (Ev.bind he (Ev.pos hd1 (Ev.bind hr1 (Ev.con rfl))))))
          · simp only [galoislaw09_PolymodPowers.j3]
            have hRI : Ev (fun k => galoisref09_Inverse.f k p f m) (r1, true) := by
              unfold galoisref09_Inverse.f
              exact Ev.bind hf2 (Ev.bind he' (Ev.pos hd1 (Ev.bind hr2 (Ev.con rfl))))
            have hok := right_ok (x := r1) (w := r1) (e := 0) (by omega) rfl rfl
            exact Ev.neg hm2 (Ev.bind hRI (Ev.pos rfl (Ev.bind hok (Ev.con rfl))))
        · refine ⟨[], 6, ?_, Ev.succ ?_⟩
          · unfold polymod_Inverse.f
            exact Ev.bind hfst (Ev.pos rfl (Ev.neg hm2 (Ev.bind he (Ev.neg hd1 (Ev.con rfl)))))
          · simp only [galoislaw09_PolymodPowers.j3]
            have hRI : Ev (fun k => galoisref09_Inverse.f k p f m) ([], false) := by
              unfold galoisref09_Inverse.f
              exact Ev.bind hf2 (Ev.bind he' (Ev.neg hd1 (Ev.con rfl)))
            exact Ev.neg hm2 (Ev.bind hRI (Ev.neg (by decide) (Ev.bind (right_err (by decide) rfl rfl) (Ev.con rfl))))
    -- the law
    have hj2 : ∀ e3 : Int, e3 = (if natE e = 0 ∧ m = [] then 6 else natE e) → Ev (fun k => galoislaw09_PolymodPowers.j2 k p e f m x e1 y e2 e3) true := by
      intro e3 he3
      refine Ev.succ ?_
      simp only [galoislaw09_PolymodPowers.j2]
      rcases hx with ⟨a1, a2, a3, a4, a5⟩ | ⟨a1, a2⟩
      · rw [if_neg (fun h => a2 h.2), a1] at he3
        exact Ev.pos he3 (Ev.bind a5 (Ev.bind (right_ok a4 rfl a3) (Ev.pos rfl hj3)))
      · have h3 : e3 ≠ 0 ∧ e1 = e3 := by
          rcases a1 with ⟨b1, b2⟩ | ⟨b1, b2, b3⟩
          · rw [if_neg (fun h => b1 h.1)] at he3
            rw [he3]; exact ⟨b1, b2⟩
          · rw [if_pos ⟨b1, b2⟩] at he3
            rw [he3]; exact ⟨by decide, b3⟩
        exact Ev.neg h3.1 (Ev.bind (right_err h3.1 a2 h3.2) (Ev.pos rfl hj3))
    refine Ev.neg (by decide) (Ev.bind hP (Ev.bind hI (Ev.bind (expected_is p f m) (Ev.pos h (Ev.cbind (ref01_Check_is e) ?_)))))
    have hj1 : ∀ b : Bool, (b = true ↔ natE e = 0 ∧ m = []) → Ev (fun k => galoislaw09_PolymodPowers.j1 k p e f m x e1 y e2 (natE e) b) true := by
      intro b hb
      refine Ev.succ ?_
      simp only [galoislaw09_PolymodPowers.j1]
      cases b
      · exact Ev.neg (by decide) (hj2 _ (by rw [if_neg (fun h => by have := hb.2 h; cases this)]))
      · exact Ev.pos rfl (hj2 _ (by rw [if_pos (hb.1 rfl)]))
    by_cases hn : natE e = 0
    · refine Ev.pos hn (hj1 _ ?_)
      rw [beq_iff_eq]
      exact ⟨fun h => ⟨hn, List.length_eq_zero_iff.1 (by omega)⟩, fun h => by rw [h.2]; rfl⟩
    · exact Ev.neg hn (hj1 false ⟨fun h => (by cases h), fun h => absurd h.1 hn⟩)
  unfold galoislaw09_PolymodPowers.f
  refine Ev.bind awake_is (Ev.pos rfl (Ev.cbind (long_is f m 20) ?_))
  by_cases hl : 20 < f.length ∨ 20 < m.length
  · exact Ev.pos (decide_eq_true hl) (hj true fun h => by cases h)
  · exact Ev.neg (by simp only [decide_eq_true_eq]; exact hl) (hj _ fun h => by have := of_decide_eq_false h; omega)
end Go.Proofs.Ytmknclgamadphaa.Pure
