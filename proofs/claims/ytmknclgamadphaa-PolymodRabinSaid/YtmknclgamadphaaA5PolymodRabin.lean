/- The layer of the errors: what the exported functions answer for valid polynomials. -/
import Derived.Test.YtmknclgamadphaaA2PolymodRabin
namespace Go.Proofs.Ytmknclgamadphaa.MPolymodRabin
open Go.RowKit Go.Proofs.Ytmknclgamadphaa.PPolymodRabin Go.Proofs.YtmknclgamadphaaW.PrintWords Go.Proofs.YtmknclgamadphaaW.PrintLast Go.Proofs.YtmknclgamadphaaW.PrintMore
set_option linter.unusedVariables false
set_option linter.unusedSimpArgs false
/-- A valid polynomial of up to n coefficients. -/
structure Ok (p : Int) (f : List Int) (n : Nat) : Prop where
  mo : MoP p
  va : Val p f
  len : f.length ≤ n
theorem Ok.chk {p : Int} {f : List Int} {n : Nat} (h : Ok p f n) (hn : n ≤ 65) : chk p f = 0 := chk_val h.mo (Nat.le_trans h.len hn) h.va
theorem Ok.mono {p : Int} {f : List Int} {n m : Nat} (h : Ok p f n) (hn : n ≤ m) : Ok p f m := ⟨h.mo, h.va, Nat.le_trans h.len hn⟩
theorem Ok.of {p : Int} {f g : List Int} {n m : Nat} (h : Ok p f n) (hv : Val p g) (hl : g.length ≤ m) : Ok p g m := ⟨h.mo, hv, hl⟩
theorem ok_of_chk {p : Int} {f : List Int} {n : Nat} (h : Go.Proofs.Ytmknclgamadphaa.MPolymodRabin.chk p f = 0) (hl : f.length ≤ n) : Ok p f n := ⟨(chk_zero h).1, (chk_zero h).2.2, hl⟩
theorem Few_is (p : Int) (f : List Int) (n : Nat) (hn : n ≤ 1000000) : Ev (fun k => galoisref09_Few.f k p f 65521 (n : Int)) (decide (chk p f = 0 ∧ f.length ≤ n + 1)) := by
  unfold galoisref09_Few.f
  by_cases h1 : p ≤ 65521
  · refine Ev.pos h1 ?_
    rw [w64 (x := (n : Int) + 1) (by omega) (by omega)]
    by_cases h2 : (f.length : Int) ≤ (n : Int) + 1
    · refine Ev.pos h2 (Ev.bind (ref_Check_is p f) (Ev.con ?_))
      congr 1
      by_cases h3 : chk p f = 0
      · rw [h3, decide_eq_true ⟨rfl, by omega⟩]; rfl
      · rw [decide_eq_false (fun h => h3 h.1)]; simp [h3]
    · exact Ev.neg h2 (Ev.con (by rw [decide_eq_false (fun h => h2 (by have := h.2; omega))]))
  · exact Ev.neg h1 (Ev.con (by rw [decide_eq_false (fun h => h1 (chk_zero h.1).1.1.hi)]))
theorem few_is (p : Int) (f g : List Int) (n : Nat) (hn : n ≤ 1000000) : Ev (fun k => galoislaw09_few.f k p f g (n : Int)) (decide ((chk p f = 0 ∧ f.length ≤ n + 1) ∧ (chk p g = 0 ∧ g.length ≤ n + 1))) := by
  unfold galoislaw09_few.f
  refine Ev.bind (Few_is p f n hn) ?_
  by_cases h : chk p f = 0 ∧ f.length ≤ n + 1
  · refine Ev.pos (decide_eq_true h) (Ev.bind (Few_is p g n hn) (Ev.con ?_))
    simp [h]
  · exact Ev.neg (by simp [h]) (Ev.con (by rw [decide_eq_false (fun x => h x.1)]))
theorem len_of_bd' {p : Int} {l : List Int} (h : Val p l) {n : Nat} (hb : (toF p l).bd n) : l.length ≤ n := Nat.le_of_not_lt fun hlt => h.tr.last (List.length_pos_iff.1 (by omega)) (by rw [← toF_c h]; exact hb _ (by omega))
theorem mul_small {p : Int} {f g : List Int} (hp : MoP p) : (toF p f * toF p g).bd (f.length + g.length - 1) := by
  rw [← toF_mul]
  exact (toF_bd p _).mono (pmul_len p f g)
theorem first2_ok {p : Int} {f g : List Int} (hf : Ok p f 65) (hg : Ok p g 65) : Ev (fun k => polymod_first.f k p [f, g]) 0 :=
  Ev.eq (first2_is p f g) (by rw [if_pos (hf.chk (Nat.le_refl _)), hg.chk (Nat.le_refl _)])
theorem Sub_ok {p : Int} {f g : List Int} (hf : Ok p f 65) (hg : Ok p g 65) : ∃ d, Ev (fun k => polymod_Sub.f k p f g) (d, 0) ∧ Val p d ∧ d.length ≤ max f.length g.length ∧ toF p d = toF p f - toF p g := by
  refine ⟨_, ?_, val_ofF hf.mo.1.pos _ _, ofF_len _ _, toF_sub⟩
  unfold polymod_Sub.f
  exact Ev.bind (first2_ok hf hg) (Ev.pos rfl (Ev.bind (fp_Sub_is hf.mo.1 hf.va hg.va (by have := hf.len; omega) (by have := hg.len; omega)) (Ev.con rfl)))
theorem Mul_ok {p : Int} {f g : List Int} (hf : Ok p f 65) (hg : Ok p g 65) {n : Nat} (hn : n ≤ 65) (hb : (toF p f * toF p g).bd n) : ∃ d, Ev (fun k => polymod_Mul.f k p f g) (d, 0) ∧ Val p d ∧ d.length ≤ n ∧ d.length ≤ f.length + g.length - 1 ∧ toF p d = toF p f * toF p g := by
  have hv := val_pmul hf.mo.1.pos f g
  have hl : (pmul p f g).length ≤ n := len_of_bd' hv (by rw [toF_mul]; exact hb)
  refine ⟨pmul p f g, ?_, hv, hl, pmul_len p f g, toF_mul⟩
  unfold polymod_Mul.f
  refine Ev.bind (first2_ok hf hg) (Ev.pos rfl (Ev.bind (fp_Mul_is hf.mo.1 hf.va hg.va (by have := hf.len; omega) (by have := hg.len; omega)) (Ev.bind (Ev.con (show polymod_bounded.f 0 (pmul p f g) = some (pmul p f g, 0) from ?_)) (Ev.con rfl))))
  unfold polymod_bounded.f
  rw [if_neg (by omega)]
end Go.Proofs.Ytmknclgamadphaa.MPolymodRabin
