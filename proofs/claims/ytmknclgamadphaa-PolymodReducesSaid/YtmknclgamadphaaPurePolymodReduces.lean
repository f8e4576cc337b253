import Derived.Test.YtmknclgamadphaaM2PolymodReduces
import Derived.Test.YtmknclgamadphaaApPolymodReduces
namespace Go.Proofs.Ytmknclgamadphaa.Pure
open Go.RowKit Go.Proofs.Ytmknclgamadphaa.PPolymodReduces Go.Proofs.YtmknclgamadphaaW.PrintWords Go.Proofs.YtmknclgamadphaaW.PrintLast Go.Proofs.YtmknclgamadphaaW.PrintMore Go.Proofs.Ytmknclgamadphaa.MPolymodReduces
set_option linter.unusedVariables false
set_option linter.unusedSimpArgs false
theorem awake_is : Ev (fun k => galoislaw09_awake.f k) true := Ev.of (fun k => galoislaw09_awake.mono k) (k := 100) (by decide +kernel)
theorem Of_right {p : Int} {c x : List Int} {e : Int} (h : (x, e) = if 65 < (ofF c.length fun j => co c j % p).length then (([] : List Int), (4 : Int)) else ((ofF c.length fun j => co c j % p), 0)) : Ev (fun k => galoislaw09_right.f k x e 0 (ofF c.length fun j => co c j % p)) true := by
  by_cases hl : 65 < (ofF c.length fun j => co c j % p).length
  · rw [if_pos hl] at h
    obtain ⟨h1, h2⟩ := Prod.mk.inj h
    exact right_large hl h1 h2
  · rw [if_neg hl] at h
    obtain ⟨h1, h2⟩ := Prod.mk.inj h
    exact right_ok (by omega) h1 h2
section
variable {p : Int} {c : List Int} {f : List S72} {x : List Int} {e : Int}
theorem j6_is (hp : Mo p) (hc : c.length ≤ 80) (hf : f.length ≤ 80) (hs : ∀ i, i < f.length → (cf f i).f1.size ≤ 40)
    (h : (x, e) = if 65 < (ofF c.length fun j => co c j % p).length then (([] : List Int), (4 : Int)) else ((ofF c.length fun j => co c j % p), 0)) :
    Ev (fun k => galoislaw09_PolymodReduces.j6 k p c f x e (if pE f = 0 then (rl p f, (0 : Int)) else ([], pE f)).1 (if pE f = 0 then (rl p f, (0 : Int)) else ([], pE f)).2 (pE f)) true := by
  have hO := ref_Of_is (c := c) hp (by omega)
  have hR := ref_Reduce_is (f := f) hp (by omega) (fun i hi => by have := hs i hi; omega)
  refine Ev.succ ?_
  simp only [galoislaw09_PolymodReduces.j6]
  by_cases h0 : pE f = 0
  · rw [if_pos h0]
    have hl : (rl p f).length ≤ 65 := by
      have h1 : f.length ≤ 65 := Classical.byContradiction fun hc => by
        have : pE f = 4 := if_pos (by omega)
        omega
      exact Nat.le_trans (ofF_len _ _) h1
    exact Ev.pos h0 (Ev.bind hO (Ev.bind (Of_right h) (Ev.pos rfl (Ev.bind hR (Ev.bind (right_ok hl rfl rfl) (Ev.con rfl))))))
  · rw [if_neg h0]
    exact Ev.neg h0 (Ev.bind hO (Ev.bind (Of_right h) (Ev.pos rfl (Ev.bind (right_err h0 rfl rfl) (Ev.con rfl)))))
variable {x2 : List Int} {e2 : Int}
theorem j4_is {E : Int} (h6 : Ev (fun k => galoislaw09_PolymodReduces.j6 k p c f x e x2 e2 (pE f)) true) (hf : f.length ≤ 80) (hE : E = if 65 < f.length then 4 else fe f) : Ev (fun k => galoislaw09_PolymodReduces.j4 k p c f x e x2 e2 E) true := by
  have h5 : ∀ b : Bool, (if b = true then 1 else E) = pE f → Ev (fun k => galoislaw09_PolymodReduces.j5 k p c f x e x2 e2 E b) true := fun b hb => by
    refine Ev.succ ?_
    simp only [galoislaw09_PolymodReduces.j5]
    rw [← hb] at h6
    cases b
    · exact Ev.neg (by decide) h6
    · exact Ev.pos rfl h6
  have hp : pE f = if 65 < f.length then 4 else if fe f = 0 then (if 0 < f.length ∧ (cf f (f.length - 1)).f1.size = 0 then 1 else 0) else fe f := rfl
  refine Ev.succ ?_
  simp only [galoislaw09_PolymodReduces.j4]
  by_cases h0 : E = 0
  · have hl : ¬ 65 < f.length := fun h => by rw [if_pos h] at hE; omega
    rw [if_neg hl] at hE hp
    have hfe : fe f = 0 := by rw [← hE]; exact h0
    rw [if_pos hfe] at hp
    refine Ev.pos h0 ?_
    by_cases hn : (f.length : Int) > 0
    · have hw : wrap64 ((f.length : Int) - 1) = ((f.length - 1 : Nat) : Int) := by rw [w64 (by omega) (by omega)]; omega
      rw [hw, rd_cf]
      refine Ev.pos hn (Ev.pos (by omega) (Ev.pos (by omega) (Ev.cbind rfl (h5 _ ?_))))
      rw [hp, h0]
      by_cases hz : (cf f (f.length - 1)).f1.size = 0
      · rw [if_pos (by rw [beq_iff_eq]; exact (toList_nil _).2 hz), if_pos ⟨by omega, hz⟩]
      · rw [if_neg (by rw [beq_iff_eq]; exact fun h => hz ((toList_nil _).1 h)), if_neg (fun h => hz h.2)]
    · refine Ev.neg hn (h5 _ ?_)
      rw [hp, h0, if_neg (by decide), if_neg (fun h => by have := h.1; omega)]
  · refine Ev.neg h0 (h5 _ ?_)
    rw [hp, if_neg (by decide)]
    by_cases hl : 65 < f.length
    · rw [if_pos hl] at hE ⊢; exact hE
    · rw [if_neg hl] at hE ⊢
      rw [if_neg (by omega)]; exact hE
theorem l1_is (h6 : Ev (fun k => galoislaw09_PolymodReduces.j6 k p c f x e x2 e2 (pE f)) true) (hf : f.length ≤ 65) : ∀ (d i : Nat), i + d = f.length → ∀ E : Int, (if E = 0 then fe (f.drop i) else E) = fe f → Ev (fun k => galoislaw09_PolymodReduces.l1 k p c f x e x2 e2 E (i : Int)) true := by
  have hend : ∀ E : Int, E = fe f → Ev (fun k => galoislaw09_PolymodReduces.j4 k p c f x e x2 e2 E) true := fun E hE => j4_is h6 (by omega) (by rw [if_neg (by omega)]; exact hE)
  intro d
  induction d with
  | zero =>
    intro i hi E hE
    refine Ev.succ ?_
    simp only [galoislaw09_PolymodReduces.l1]
    refine Ev.neg (by omega) (hend E ?_)
    rw [show f.drop i = [] from List.drop_of_length_le (by omega)] at hE
    by_cases h0 : E = 0
    · rw [if_pos h0] at hE; rw [h0]; exact hE
    · rw [if_neg h0] at hE; exact hE
  | succ d ih =>
    intro i hi E hE
    refine Ev.succ ?_
    simp only [galoislaw09_PolymodReduces.l1]
    refine Ev.pos (by omega) ?_
    by_cases h0 : E = 0
    · rw [if_pos h0, drop_cf (by omega)] at hE
      rw [rd_cf, w64 (x := (i : Int) + 1) (by omega) (by omega)]
      refine Ev.pos h0 (Ev.pos (by omega) (Ev.cbind (ref02_Check_is _ _) (ih (i + 1) (by omega) _ ?_)))
      exact hE
    · rw [if_neg h0] at hE
      exact Ev.neg h0 (hend E hE)
end
theorem main_is {p : Int} {c : List Int} {f : List S72} (hc : c.length ≤ 80) (hf : f.length ≤ 80) (hs : ∀ i, i < f.length → (cf f i).f1.size ≤ 40) :
    Ev (fun k => (polymod_Of.f k p c).bind fun bt714 => ((polymod_Reduce.f k p f).bind fun bt718 => ((galoisref09_IsPrime.f k p).bind fun t722 => (if t722 = true then (if (f.length : Int) > 65 then (galoislaw09_PolymodReduces.j2 k p c f bt714.1 bt714.2 bt718.1 bt718.2 4) else (galoislaw09_PolymodReduces.j2 k p c f bt714.1 bt714.2 bt718.1 bt718.2 0)) else ((galoislaw09_right.f k bt714.1 bt714.2 7 ([] : List Int)).bind fun t723 => (if t723 = true then ((galoislaw09_right.f k bt718.1 bt718.2 7 ([] : List Int)).bind fun t724 => (some t724)) else (none))))))) true := by
  refine Ev.bind (Of_is (by omega)) (Ev.bind (Reduce_is (fun i hi => by have := hs i hi; omega)) (Ev.bind (ref09_IsPrime_is p) ?_))
  by_cases hp : pm p = true
  · rw [if_pos hp, if_pos hp]
    refine Ev.pos hp ?_
    have hM := (pm_iff.1 hp).1
    have h6 := j6_is (p := p) (c := c) (f := f) hM hc hf hs (x := (if 65 < (ofF c.length fun j => co c j % p).length then (([] : List Int), (4 : Int)) else ((ofF c.length fun j => co c j % p), 0)).1) (e := (if 65 < (ofF c.length fun j => co c j % p).length then (([] : List Int), (4 : Int)) else ((ofF c.length fun j => co c j % p), 0)).2) rfl
    by_cases hl : (f.length : Int) > 65
    · refine Ev.pos hl (Ev.succ ?_)
      simp only [galoislaw09_PolymodReduces.j2]
      refine Ev.succ ?_
      simp only [galoislaw09_PolymodReduces.l1]
      exact Ev.pos (by omega) (Ev.neg (by decide) (j4_is h6 hf (by rw [if_pos (by omega)])))
    · refine Ev.neg hl (Ev.succ ?_)
      simp only [galoislaw09_PolymodReduces.j2]
      exact l1_is h6 (by omega) f.length 0 (Nat.zero_add _) 0 (by rw [if_pos rfl, List.drop_zero])
  · rw [if_neg hp, if_neg hp]
    exact Ev.neg hp (Ev.bind (right_err (by decide) rfl rfl) (Ev.pos rfl (Ev.bind (right_err (by decide) rfl rfl) (Ev.con rfl))))
theorem l0_is {p : Int} {c : List Int} {f : List S72} (hc : c.length ≤ 80) (hf : f.length ≤ 80) : ∀ (d i : Nat), i + d = f.length → (∀ j, j < i → (cf f j).f1.size ≤ 40) → Ev (fun k => galoislaw09_PolymodReduces.l0 k p c f (i : Int)) true := by
  intro d
  induction d with
  | zero =>
    intro i hi hs
    refine Ev.succ ?_
    simp only [galoislaw09_PolymodReduces.l0]
    refine Ev.neg (by omega) (Ev.cbind rfl (Ev.pos (by simp; omega) ?_))
    exact main_is hc hf (fun j hj => hs j (by omega))
  | succ d ih =>
    intro i hi hs
    refine Ev.succ ?_
    simp only [galoislaw09_PolymodReduces.l0]
    rw [rd_cf, w64 (x := (i : Int) + 1) (by omega) (by omega)]
    refine Ev.pos (by omega) (Ev.pos (by omega) ?_)
    by_cases h : ((cf f i).f1.size : Int) > 40
    · exact Ev.pos h (Ev.con rfl)
    · refine Ev.neg h (ih (i + 1) (by omega) fun j hj => ?_)
      by_cases hji : j = i
      · rw [hji]; omega
      · exact hs j (by omega)
theorem PolymodReduces : galoislaw09_PolymodReduces.Pure := by
  intro p c f _ hm1 hb1 _
  refine Ev.rounds (g := fun k => galoislaw09_PolymodReduces.f k p c f) ?_
  unfold galoislaw09_PolymodReduces.f
  refine Ev.bind awake_is (Ev.pos rfl ?_)
  have hj0 : Ev (fun k => galoislaw09_PolymodReduces.j0 k p c f true) true := by
    refine Ev.succ ?_
    simp only [galoislaw09_PolymodReduces.j0]
    exact Ev.pos (by trivial) (Ev.bind awake_is (Ev.con rfl))
  by_cases h1 : (c.length : Int) > 80
  · exact Ev.pos h1 hj0
  · refine Ev.neg h1 ?_
    by_cases h2 : (f.length : Int) > 80
    · rw [decide_eq_true h2]; exact hj0
    · rw [decide_eq_false h2]
      refine Ev.succ ?_
      simp only [galoislaw09_PolymodReduces.j0]
      exact Ev.neg (by decide) (l0_is (by omega) (by omega) f.length 0 (Nat.zero_add _) (fun j hj => absurd hj (Nat.not_lt_zero _)))
end Go.Proofs.Ytmknclgamadphaa.Pure
