/- The pure statement of PolymodSums: sums, differences, products, order and errors of the program are those of the reference. -/
import Derived.Test.YtmknclgamadphaaS3PolymodSums
namespace Go.Proofs.Ytmknclgamadphaa.Pure
open Go.RowKit Go.Proofs.Ytmknclgamadphaa.PPolymodSums Go.Proofs.YtmknclgamadphaaW.PrintWords Go.Proofs.YtmknclgamadphaaW.PrintLast Go.Proofs.YtmknclgamadphaaW.PrintMore Go.Proofs.Ytmknclgamadphaa.MPolymodSums
set_option linter.unusedVariables false
set_option linter.unusedSimpArgs false
theorem awake_is : Ev (fun k => galoislaw09_awake.f k) true := Ev.of (fun k => galoislaw09_awake.mono k) (k := 100) (by decide +kernel)

theorem PolymodSums : galoislaw09_PolymodSums.Pure := by
  intro p f g _ hm1 hb1 _ hm2 hb2 _
  refine Ev.rounds (g := fun k => galoislaw09_PolymodSums.f k p f g) ?_
  unfold galoislaw09_PolymodSums.f
  refine Ev.bind awake_is (Ev.pos rfl ?_)
  have hlong : galoislaw09_long.f f g 80 = some (decide (80 < f.length ∨ 80 < g.length)) := by
    unfold galoislaw09_long.f
    by_cases h : (f.length : Int) > 80
    · rw [if_pos h, decide_eq_true (.inl (by omega))]
    · rw [if_neg h]
      congr 1
      rw [decide_eq_decide]; omega
  refine Ev.cbind hlong ?_
  by_cases hl : 80 < f.length ∨ 80 < g.length
  · rw [decide_eq_true hl]
    refine Ev.succ ?_
    simp only [galoislaw09_PolymodSums.j0]
    exact Ev.pos (by simp) (Ev.bind awake_is (Ev.con rfl))
  · rw [decide_eq_false hl]
    have hfl : f.length ≤ 80 := by omega
    have hgl : g.length ≤ 80 := by omega
    refine Ev.succ ?_
    simp only [galoislaw09_PolymodSums.j0]
    refine Ev.neg (by simp) ?_
    -- the three results of the program
    have hA : ∃ x : List Int, Ev (fun k => polymod_Add.f k p f g) (x, if chk p f = 0 then chk p g else chk p f) ∧ (x ≠ [] → chk p f = 0 ∧ chk p g = 0) ∧ (chk p f = 0 → chk p g = 0 → x = ofF (max f.length g.length) fun j => (co f j + co g j) % p) := by
      unfold polymod_Add.f
      by_cases h : (if chk p f = 0 then chk p g else chk p f) = 0
      · have h1 : chk p f = 0 := by
          by_cases c : chk p f = 0
          · exact c
          · rwa [if_neg c] at h
        have h2 : chk p g = 0 := by rwa [if_pos h1] at h
        obtain ⟨hp, l1, v1⟩ := chk_zero h1
        obtain ⟨_, l2, v2⟩ := chk_zero h2
        exact ⟨_, Ev.bind (first2_is p f g) (Ev.pos h (Ev.bind (fp_Add_is hp.1 v1 v2 (by omega) (by omega)) (Ev.con (by rw [h])))), fun _ => ⟨h1, h2⟩, fun _ _ => rfl⟩
      · exact ⟨[], Ev.bind (first2_is p f g) (Ev.neg h (Ev.con rfl)), fun hx => absurd rfl hx, fun h1 h2 => absurd (by rw [if_pos h1]; exact h2) h⟩
    have hS : ∃ x : List Int, Ev (fun k => polymod_Sub.f k p f g) (x, if chk p f = 0 then chk p g else chk p f) ∧ (x ≠ [] → chk p f = 0 ∧ chk p g = 0) ∧ (chk p f = 0 → chk p g = 0 → x = ofF (max f.length g.length) fun j => (co f j + p - co g j) % p) := by
      unfold polymod_Sub.f
      by_cases h : (if chk p f = 0 then chk p g else chk p f) = 0
      · have h1 : chk p f = 0 := by
          by_cases c : chk p f = 0
          · exact c
          · rwa [if_neg c] at h
        have h2 : chk p g = 0 := by rwa [if_pos h1] at h
        obtain ⟨hp, l1, v1⟩ := chk_zero h1
        obtain ⟨_, l2, v2⟩ := chk_zero h2
        exact ⟨_, Ev.bind (first2_is p f g) (Ev.pos h (Ev.bind (fp_Sub_is hp.1 v1 v2 (by omega) (by omega)) (Ev.con (by rw [h])))), fun _ => ⟨h1, h2⟩, fun _ _ => rfl⟩
      · exact ⟨[], Ev.bind (first2_is p f g) (Ev.neg h (Ev.con rfl)), fun hx => absurd rfl hx, fun h1 h2 => absurd (by rw [if_pos h1]; exact h2) h⟩
    have hM : ∃ (x : List Int) (e : Int), Ev (fun k => polymod_Mul.f k p f g) (x, e) ∧ ((if chk p f = 0 then chk p g else chk p f) ≠ 0 → x = [] ∧ e = if chk p f = 0 then chk p g else chk p f) ∧ (chk p f = 0 → chk p g = 0 → 65 < (pmul p f g).length → x = [] ∧ e = 4) ∧ (chk p f = 0 → chk p g = 0 → (pmul p f g).length ≤ 65 → x = pmul p f g ∧ e = 0) := by
      unfold polymod_Mul.f
      by_cases h : (if chk p f = 0 then chk p g else chk p f) = 0
      · have h1 : chk p f = 0 := by
          by_cases c : chk p f = 0
          · exact c
          · rwa [if_neg c] at h
        have h2 : chk p g = 0 := by rwa [if_pos h1] at h
        obtain ⟨hp, l1, v1⟩ := chk_zero h1
        obtain ⟨_, l2, v2⟩ := chk_zero h2
        by_cases hL : 65 < (pmul p f g).length
        · refine ⟨[], 4, Ev.bind (first2_is p f g) (Ev.pos h (Ev.bind (fp_Mul_is hp.1 v1 v2 (by omega) (by omega)) (Ev.bind (Ev.con (show polymod_bounded.f 0 (pmul p f g) = some ([], 4) from ?_)) (Ev.con rfl)))), fun hc => absurd h hc, fun _ _ _ => ⟨rfl, rfl⟩, fun _ _ hc => by omega⟩
          unfold polymod_bounded.f
          rw [if_pos (by omega)]
        · refine ⟨pmul p f g, 0, Ev.bind (first2_is p f g) (Ev.pos h (Ev.bind (fp_Mul_is hp.1 v1 v2 (by omega) (by omega)) (Ev.bind (Ev.con (show polymod_bounded.f 0 (pmul p f g) = some (pmul p f g, 0) from ?_)) (Ev.con rfl)))), fun hc => absurd h hc, fun _ _ hc => absurd hc hL, fun _ _ _ => ⟨rfl, rfl⟩⟩
          unfold polymod_bounded.f
          rw [if_neg (by omega)]
      · refine ⟨[], _, Ev.bind (first2_is p f g) (Ev.neg h (Ev.con rfl)), fun _ => ⟨rfl, rfl⟩, fun h1 h2 => absurd (by rw [if_pos h1]; exact h2) h, fun h1 h2 => absurd (by rw [if_pos h1]; exact h2) h⟩
    obtain ⟨xa, ha, ha1, ha2⟩ := hA
    obtain ⟨xs, hs, hs1, hs2⟩ := hS
    obtain ⟨xm, em, hm, hm1, hm2, hm3⟩ := hM
    refine Ev.bind ha (Ev.bind hs (Ev.bind hm (Ev.bind (polymod_Check_is p f) (Ev.bind (ref_Check_is p f) (Ev.pos rfl (Ev.bind (Compare_is (by omega)) (Ev.bind (ref_Compare_is (by omega)) ?_)))))))
    refine Ev.succ ?_
    simp only [galoislaw09_PolymodSums.j1]
    refine Ev.neg (by simp) (Ev.bind (expected_is p f g) ?_)
    by_cases h : (if chk p f = 0 then chk p g else chk p f) = 0
    · have h1 : chk p f = 0 := by
        by_cases c : chk p f = 0
        · exact c
        · rwa [if_neg c] at h
      have h2 : chk p g = 0 := by rwa [if_pos h1] at h
      obtain ⟨hp, l1, v1⟩ := chk_zero h1
      obtain ⟨_, l2, v2⟩ := chk_zero h2
      have e1 := ofF_len (max f.length g.length) fun j => (co f j + co g j) % p
      have e2 := ofF_len (max f.length g.length) fun j => (co f j + p - co g j) % p
      refine Ev.pos h (Ev.bind (ref_Add_is hp.1 v1 v2 (by omega) (by omega)) (Ev.bind (right_ok (by omega) (ha2 h1 h2) h) (Ev.pos rfl ?_)))
      refine Ev.bind (ref_Sub_is hp.1 v1 v2 (by omega) (by omega)) (Ev.bind (right_ok (by omega) (hs2 h1 h2) h) (Ev.pos rfl ?_))
      refine Ev.bind (ref_Mul_is hp.1 v1 v2 (by omega) (by omega)) ?_
      by_cases hL : 65 < (pmul p f g).length
      · obtain ⟨r1, r2⟩ := hm2 h1 h2 hL
        exact Ev.bind (right_large hL r1 r2) (Ev.con rfl)
      · obtain ⟨r1, r2⟩ := hm3 h1 h2 (by omega)
        exact Ev.bind (right_ok (by omega) r1 r2) (Ev.con rfl)
    · have na : xa = [] := Classical.byContradiction fun hc => h (by rw [if_pos (ha1 hc).1]; exact (ha1 hc).2)
      have ns : xs = [] := Classical.byContradiction fun hc => h (by rw [if_pos (hs1 hc).1]; exact (hs1 hc).2)
      obtain ⟨r1, r2⟩ := hm1 h
      exact Ev.neg h (Ev.bind (right_err h na rfl) (Ev.pos rfl (Ev.bind (right_err h ns rfl) (Ev.pos rfl (Ev.bind (right_err h r1 r2) (Ev.con rfl))))))
end Go.Proofs.Ytmknclgamadphaa.Pure
