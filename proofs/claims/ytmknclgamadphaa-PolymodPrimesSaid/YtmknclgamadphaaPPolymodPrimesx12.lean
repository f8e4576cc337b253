-- WRITTEN BY sprint.py (a program of this repo, over the kit's print.py): nothing here is trusted, Lean checks it.
import Derived.Test.YtmknclgamadphaaPPolymodPrimesx0
import Derived.Test.YtmknclgamadphaaPPolymodPrimesx5
import Derived.Test.YtmknclgamadphaaPPolymodPrimesx6
import Derived.Test.YtmknclgamadphaaPPolymodPrimesx7
import Derived.Test.YtmknclgamadphaaPPolymodPrimesx8
import Derived.Test.YtmknclgamadphaaPPolymodPrimesx9
import Derived.Test.YtmknclgamadphaaPPolymodPrimesx10
import Derived.Test.YtmknclgamadphaaPPolymodPrimesx11
namespace Go.Proofs.Ytmknclgamadphaa.PPolymodPrimes
open Go.RowKit Go.Proofs.YtmknclgamadphaaW.PrintWords Go.Proofs.YtmknclgamadphaaW.PrintLast Go.Proofs.YtmknclgamadphaaW.PrintMore
attribute [local go_sem] max2_int min2_int max_two min_two max_three min_three max_four min_four   -- for this text's walks alone
set_option linter.unusedVariables false
set_option linter.unusedSimpArgs false

/-! ### galoisref09_Sub: function 51 -/
def galoisref09_Sub.f (k : Nat) (a0 : Int) (l1 : List Int) (l2 : List Int) : Option (List Int) := (galoisref09_Scale.f k a0 l2 (-1)).bind fun t458 => ((galoisref09_Add.f k a0 l1 t458).bind fun t461 => (some t461))
theorem galoisref09_Sub.mono : ∀ a0 a1 a2 k, LeO (galoisref09_Sub.f k a0 a1 a2) (galoisref09_Sub.f (k + 1) a0 a1 a2) := by
 intro a0 a1 a2 k
 unfold galoisref09_Sub.f
 repeat' first
  | (with_reducible apply galoisref09_Add.mono)
  | (with_reducible apply galoisref09_Scale.mono)
  | (with_reducible apply LeO.refl)
  | (with_reducible apply LeO.none)
  | (with_reducible refine LeO.ite ?_ ?_)
  | (with_reducible refine LeO.bind ?_ (fun _ => ?_))
set_option maxHeartbeats 8000000 in
set_option maxRecDepth 100000 in
theorem galoisref09_Sub.calls (k : Nat) (a0 : Int) (A1 : Option Addr) (c1 : Nat) (l1 : List Int) (A2 : Option Addr) (c2 : Nat) (l2 : List Int) (r : List Int) (w : World) (hr1 : Kd.C (Kd.int .i64) w A1 l1.length l1) (hc1 : l1.length ≤ c1) (hr2 : Kd.C (Kd.int .i64) w A2 l2.length l2) (hc2 : l2.length ≤ c2) (h : galoisref09_Sub.f k a0 l1 l2 = some r) :
 Calls Try.prog 51 #[.int .i64 a0, .slice A1 l1.length c1, .slice A2 l2.length c2] w fun e w' => ∃ v0_ : Value, e = .returned (v0_) ∧ Kd.V (Kd.int .i64) 3 w' w.heap.size (fun k_ => (w.heap.size ≤ k_)) v0_ r ∧ Below w.heap.size w w' := by
 have HR1 := ak hr1
 have HC1 := ak hc1
 clear hr1 hc1
 have HR2 := ak hr2
 have HC2 := ak hc2
 clear hr2 hc2
 have HB := ak (Below.refl w.heap.size w)
 have H : ((galoisref09_Scale.f k a0 l2 (-1)).bind fun t458 => ((galoisref09_Add.f k a0 l1 t458).bind fun t461 => (some t461))) = some r := h
 clear h
 replace H := Option.bind_eq_some_iff.mp H
 obtain ⟨t458, A40, H⟩ := H
 replace H : ((galoisref09_Add.f k a0 l1 t458).bind fun t461 => (some t461)) = some r := H
 have A4 := ak A40
 clear A40
 replace H := Option.bind_eq_some_iff.mp H
 obtain ⟨t461, A50, H⟩ := H
 replace H : (some t461) = some r := H
 have A5 := ak A50
 clear A50
 as_aux_lemma =>
  obtain rfl := Option.some.inj H
  go_enter Try.func51, Try.ntmps51
  go_wp2_with (first | ((with_reducible refine gate_callee (f := 45) rfl ?_); refine goesL_ (some 11) rfl rfl Try.func45 (by kernel_rfl) rfl #[.int .i64 a0, .slice A2 l2.length c2, .int .i64 (-1)] rfl mX ?_; (with_reducible refine (galoisref09_Scale.calls k a0 _ _ l2 (-1) t458 _ ?side1 ?side2 A4.out).mono ?_); (case side1 => repeat (first | exact HR2.out | (with_reducible first | apply cA | apply cB | apply cC))); (case side2 => exact HC2.out); rintro e w6 ⟨v459, rfl, ho0, hb⟩; refine ⟨_, rfl, ?_⟩; have n0_ := ak (Kd.V_lower (Kd.V_mono (ok' := fun k_ => (w.heap.size ≤ k_)) ho0 (fun k_ hk_ => (Nat.le_trans (below_size bX) hk_))) (below_size bX)); have n1_ := ak (below_step bX hb); clear HB; have HO460 := n0_; have HB := n1_; clear n0_ n1_; (try clear hb); (try clear hb2); (try clear hk); (try clear hi); (try clear ho0); obtain ⟨Ao7, co7, eo7⟩ := Kd.V_slice HO460.out; subst eo7) | ((with_reducible refine gate_callee (f := 50) rfl ?_); refine goesL_ (some 12) rfl rfl Try.func50 (by kernel_rfl) rfl #[.int .i64 a0, .slice A1 l1.length c1, .slice Ao7 t458.length co7] rfl mX ?_; (with_reducible refine (galoisref09_Add.calls k a0 _ _ l1 _ _ t458 t461 _ ?side1 ?side2 ?side3 ?side4 A5.out).mono ?_); (case side1 => exact cX (Kd.C_below HR1.out HB.out)); (case side2 => exact HC1.out); (case side3 => exact cX (Kd.V_reads' HO460.out).2.2); (case side4 => exact (Kd.V_reads' HO460.out).2.1); rintro e w8 ⟨v462, rfl, ho0, hb⟩; refine ⟨_, rfl, ?_⟩; have n0_ := ak (Kd.V_below (vX HO460.out) hb); have n1_ := ak (Kd.V_lower (Kd.V_mono (ok' := fun k_ => (w.heap.size ≤ k_)) ho0 (fun k_ hk_ => (Nat.le_trans (below_size bX) hk_))) (below_size bX)); have n2_ := ak (below_step bX hb); clear HO460; clear HB; have HO460 := n0_; have HO463 := n1_; have HB := n2_; clear n0_ n1_ n2_; (try clear hb); (try clear hb2); (try clear hk); (try clear hi); (try clear ho0)))
  go_ret
  exact ⟨_, by first | rfl | (simp [errW_none, errW_some] <;> rfl) | (simp [*, errW_none, errW_some] <;> rfl), by (with_reducible repeat (first | apply vA | apply vB | apply vC)); exact HO463.out, by repeat (first | (with_reducible first | exact HB.out | apply bA | apply bB | apply bC) | exact HB.out)⟩

/-! ### galoisref09_X: function 63 -/
def galoisref09_X.f  : Option (List Int) := some (([0, 1] : List Int))
set_option maxHeartbeats 8000000 in
set_option maxRecDepth 100000 in
theorem galoisref09_X.calls  (r : List Int) (w : World) (h : galoisref09_X.f  = some r) :
 Calls Try.prog 63 #[] w fun e w' => ∃ v0_ : Value, e = .returned (v0_) ∧ Kd.R (Kd.int .i64) 3 w' w.heap.size (fun _ => True) v0_ r ∧ Below w.heap.size w w' := by
 have HB := ak (Below.refl w.heap.size w)
 have H : (some (([0, 1] : List Int))) = some r := h
 clear h
 obtain ⟨y464, hy464⟩ : ∃ y_ : List Int, y_ = (([0, 1] : List Int)) := ⟨_, rfl⟩
 replace H : (some y464) = some r := by first | (rw [hy464]; with_reducible exact H) | (have H2_ := (Option.bind_some _ _).symm.trans H; rw [hy464]; with_reducible exact H2_) | (have H2_ := (Option.bind_some _ _).symm.trans H; with_reducible exact H2_) | with_reducible exact H | (rw [hy464]; exact H) | exact H
 have Ny464 := ak hy464
 clear hy464
 as_aux_lemma =>
  obtain rfl := Option.some.inj H
  go_enter Try.func63, Try.ntmps63
  go_wp2_with (first | ((with_reducible refine gate_dst (N := 1) rfl ?_); refine Kd.R_lit (Kd.int .i64) _ 3 ?hg (N := 1) ?hd (xs := ([0, 1] : List Int)) (inner := [.int .i64 0, .int .i64 1]) (ok := fun _ => True) (okp := fun _ => True) ?hr ?hp (fun _ hk => hk) trivial (Below.refl _ _) (Nat.le_refl _) (by simp) ?_; (case hd => rfl); (case hg => rfl); (case hr => first | (go_simp; done) | (go_simp; rfl)); (case hp => exact (Reps.one (show Kd.M (Kd.int .i64) _ _ _ 0 [.int .i64 0] from rfl) (Reps.one (show Kd.M (Kd.int .i64) _ _ _ 1 [.int .i64 1] from rfl) (Reps.none _ _)))); intro v465 w1 ho2 hb hg_ hnew_; clear hg_ hnew_; (first | rw [← Ny464.out] at ho2 | (simp only [Int.reduceToNat] at ho2; rw [← Ny464.out] at ho2)); have n0_ := ak (Kd.R_lower ho2 (below_size bX)); have n1_ := ak (below_step bX hb); clear HB; have HO466 := n0_; have HB := n1_; clear n0_ n1_; clear hb ho2))
  go_ret
  exact ⟨_, by first | rfl | (simp [errW_none, errW_some] <;> rfl) | (simp [*, errW_none, errW_some] <;> rfl), by (with_reducible repeat (first | apply Kd.R_alloc | apply Kd.R_drewN | apply Kd.R_drew)); exact HO466.out, by repeat (first | (with_reducible first | exact HB.out | apply bA | apply bB | apply bC) | exact HB.out)⟩

/-! ### galoisref09_Lead: function 83 -/
def galoisref09_Lead.f (l0 : List Int) : Option (Int) := if (l0.length : Int) = 0 then (some 0) else (if 0 ≤ (wrap64 ((l0.length : Int) - 1)) then (if (wrap64 ((l0.length : Int) - 1)) < (l0.length : Int) then (some (rd l0 (wrap64 ((l0.length : Int) - 1)))) else (none)) else (none))
set_option maxHeartbeats 8000000 in
set_option maxRecDepth 100000 in
theorem galoisref09_Lead.calls (A0 : Option Addr) (c0 : Nat) (l0 : List Int) (r : Int) (w : World) (hr0 : Kd.C (Kd.int .i64) w A0 l0.length l0) (hc0 : l0.length ≤ c0) (h : galoisref09_Lead.f l0 = some r) :
 Calls Try.prog 83 #[.slice A0 l0.length c0] w fun e w' => e = .returned (.int .i64 r) ∧ Drawn0 w w' := by
 have HR0 := ak hr0
 have HC0 := ak hc0
 clear hr0 hc0
 have H : (if (l0.length : Int) = 0 then (some 0) else (if 0 ≤ (wrap64 ((l0.length : Int) - 1)) then (if (wrap64 ((l0.length : Int) - 1)) < (l0.length : Int) then (some (rd l0 (wrap64 ((l0.length : Int) - 1)))) else (none)) else (none))) = some r := h
 clear h
 by_cases c2 : (l0.length : Int) = 0
 · rw [if_pos c2] at H
   have c2b0 : ((l0.length : Int) == 0) = true := beq_iff_eq.mpr c2
   have c2b1 : ((l0.length : Int) != 0) = false := bne_eq_false_iff_eq.mpr c2
   clear c2
   as_aux_lemma =>
    obtain rfl := Option.some.inj H
    go_enter Try.func83, Try.ntmps83
    go_wp2
    go_ret
    exact ⟨by first | rfl | (simp; done) | (simp [*]; done), by repeat (first | exact Drawn0.refl _ | apply Drawn0.step)⟩
 · rw [if_neg c2] at H
   have c2b0 : ((l0.length : Int) == 0) = false := beq_eq_false_iff_ne.mpr c2
   have c2b1 : ((l0.length : Int) != 0) = true := bne_iff_ne.mpr c2
   have c2b2 : ¬ (l0 = []) := fun h_ => c2 (by rw [h_]; rfl)
   obtain ⟨ji3, hji3⟩ : ∃ j_ : Int, (wrap64 ((l0.length : Int) - 1)) = j_ := ⟨_, rfl⟩
   replace H : (if 0 ≤ (ji3) then (if (ji3) < (l0.length : Int) then (some (rd l0 (ji3))) else (none)) else (none)) = some r := by first | (rw [hji3] at H; exact H) | (simp only [hji3] at H ⊢; exact H)
   have hji3w : (IntKind.i64.wrap ((l0.length : Int) - 1)) = ji3 := (i64_w _).trans hji3
   by_cases c4 : 0 ≤ (ji3)
   · rw [if_pos c4] at H
     have c4b0 : decide (0 ≤ (ji3)) = true := decide_eq_true c4
     clear c4
     by_cases c5 : (ji3) < (l0.length : Int)
     · rw [if_pos c5] at H
       have c5b0 : decide ((ji3) < (l0.length : Int)) = true := decide_eq_true c5
       clear c5
       as_aux_lemma =>
        obtain rfl := Option.some.inj H
        have p467 : 0 ≤ ((ji3) : Int) := of_decide_eq_true aX
        have q467 : (ji3) < (l0.length : Int) := of_decide_eq_true aX
        obtain ⟨ad467, e467, hx467_0⟩ := Kd.at_int HR0.out (ji3) p467 q467
        cases e467
        replace p467 := eq_true p467
        replace q467 := eq_true q467
        go_enter Try.func83, Try.ntmps83
        go_wp2
        go_ret
        exact ⟨by first | rfl | (simp; done) | (simp only [← hji3] <;> (first | rfl | simp)) | (simp [*]; done), by repeat (first | exact Drawn0.refl _ | apply Drawn0.step)⟩
     · rw [if_neg c5] at H
       exact absurd H (by simp)
   · rw [if_neg c4] at H
     exact absurd H (by simp)

/-! ### galoisref09_Monic: function 33 -/
def galoisref09_Monic.f (k : Nat) (a0 : Int) (l1 : List Int) : Option (List Int) := if (l1.length : Int) = 0 then (some ([] : List Int)) else ((galoisref09_Lead.f l1).bind fun t468 => ((galoisref04_Inverse.f k t468 a0).bind fun t469 => ((galoisref09_Scale.f k a0 l1 t469).bind fun t470 => (some t470))))
theorem galoisref09_Monic.mono : ∀ a0 a1 k, LeO (galoisref09_Monic.f k a0 a1) (galoisref09_Monic.f (k + 1) a0 a1) := by
 intro a0 a1 k
 unfold galoisref09_Monic.f
 repeat' first
  | (with_reducible apply galoisref04_Inverse.mono)
  | (with_reducible apply galoisref09_Scale.mono)
  | (with_reducible apply LeO.refl)
  | (with_reducible apply LeO.none)
  | (with_reducible refine LeO.ite ?_ ?_)
  | (with_reducible refine LeO.bind ?_ (fun _ => ?_))
set_option maxHeartbeats 8000000 in
set_option maxRecDepth 100000 in
theorem galoisref09_Monic.calls (k : Nat) (a0 : Int) (A1 : Option Addr) (c1 : Nat) (l1 : List Int) (r : List Int) (w : World) (hr1 : Kd.C (Kd.int .i64) w A1 l1.length l1) (hc1 : l1.length ≤ c1) (h : galoisref09_Monic.f k a0 l1 = some r) :
 Calls Try.prog 33 #[.int .i64 a0, .slice A1 l1.length c1] w fun e w' => ∃ v0_ : Value, e = .returned (v0_) ∧ Kd.V (Kd.int .i64) 3 w' w.heap.size (fun k_ => (w.heap.size ≤ k_)) v0_ r ∧ Below w.heap.size w w' := by
 have HR1 := ak hr1
 have HC1 := ak hc1
 clear hr1 hc1
 have HB := ak (Below.refl w.heap.size w)
 have H : (if (l1.length : Int) = 0 then (some ([] : List Int)) else ((galoisref09_Lead.f l1).bind fun t468 => ((galoisref04_Inverse.f k t468 a0).bind fun t469 => ((galoisref09_Scale.f k a0 l1 t469).bind fun t470 => (some t470))))) = some r := h
 clear h
 by_cases c3 : (l1.length : Int) = 0
 · rw [if_pos c3] at H
   have c3b0 : ((l1.length : Int) == 0) = true := beq_iff_eq.mpr c3
   have c3b1 : ((l1.length : Int) != 0) = false := bne_eq_false_iff_eq.mpr c3
   clear c3
   as_aux_lemma =>
    obtain rfl := Option.some.inj H
    go_enter Try.func33, Try.ntmps33
    go_wp2
    go_ret
    exact ⟨(.slice none 0 0), by first | rfl | (simp [errW_none, errW_some] <;> rfl) | (simp [*, errW_none, errW_some] <;> rfl), (Kd.V_nil _ _ _ _ _), by repeat (first | (with_reducible first | exact HB.out | apply bA | apply bB | apply bC) | exact HB.out)⟩
 · rw [if_neg c3] at H
   have c3b0 : ((l1.length : Int) == 0) = false := beq_eq_false_iff_ne.mpr c3
   have c3b1 : ((l1.length : Int) != 0) = true := bne_iff_ne.mpr c3
   have c3b2 : ¬ (l1 = []) := fun h_ => c3 (by rw [h_]; rfl)
   replace H := Option.bind_eq_some_iff.mp H
   obtain ⟨t468, A40, H⟩ := H
   replace H : ((galoisref04_Inverse.f k t468 a0).bind fun t469 => ((galoisref09_Scale.f k a0 l1 t469).bind fun t470 => (some t470))) = some r := H
   have A4 := ak A40
   clear A40
   replace H := Option.bind_eq_some_iff.mp H
   obtain ⟨t469, A50, H⟩ := H
   replace H : ((galoisref09_Scale.f k a0 l1 t469).bind fun t470 => (some t470)) = some r := H
   have A5 := ak A50
   clear A50
   replace H := Option.bind_eq_some_iff.mp H
   obtain ⟨t470, A60, H⟩ := H
   replace H : (some t470) = some r := H
   have A6 := ak A60
   clear A60
   as_aux_lemma =>
    obtain rfl := Option.some.inj H
    go_enter Try.func33, Try.ntmps33
    go_wp2_with (first | ((with_reducible refine gate_callee (f := 83) rfl ?_); refine goesL_ (some 11) rfl rfl Try.func83 (by kernel_rfl) rfl #[.slice A1 l1.length c1] rfl mX ?_; (with_reducible refine (galoisref09_Lead.calls _ _ l1 t468 _ ?side1 ?side2 A4.out).mono ?_); (case side1 => repeat (first | exact HR1.out | (with_reducible first | apply cA | apply cB | apply cC))); (case side2 => exact HC1.out); rintro e w' ⟨rfl, ⟨nd, rfl⟩⟩; refine ⟨_, rfl, ?_⟩) | ((with_reducible refine gate_callee (f := 82) rfl ?_); refine goesL_ (some 13) rfl rfl Try.func82 (by kernel_rfl) rfl #[.int .i64 t468, .int .i64 a0] rfl mX ?_; (with_reducible refine (galoisref04_Inverse.calls k t468 a0 t469 _ A5.out).mono ?_); rintro e w' ⟨rfl, ⟨nd, rfl⟩⟩; refine ⟨_, rfl, ?_⟩) | ((with_reducible refine gate_callee (f := 45) rfl ?_); refine goesL_ (some 14) rfl rfl Try.func45 (by kernel_rfl) rfl #[.int .i64 a0, .slice A1 l1.length c1, .int .i64 t469] rfl mX ?_; (with_reducible refine (galoisref09_Scale.calls k a0 _ _ l1 t469 t470 _ ?side1 ?side2 A6.out).mono ?_); (case side1 => repeat (first | exact HR1.out | (with_reducible first | apply cA | apply cB | apply cC))); (case side2 => exact HC1.out); rintro e w7 ⟨v471, rfl, ho0, hb⟩; refine ⟨_, rfl, ?_⟩; have n0_ := ak (Kd.V_lower (Kd.V_mono (ok' := fun k_ => (w.heap.size ≤ k_)) ho0 (fun k_ hk_ => (Nat.le_trans (below_size bX) hk_))) (below_size bX)); have n1_ := ak (below_step bX hb); clear HB; have HO472 := n0_; have HB := n1_; clear n0_ n1_; (try clear hb); (try clear hb2); (try clear hk); (try clear hi); (try clear ho0)))
    go_ret
    exact ⟨_, by first | rfl | (simp [errW_none, errW_some] <;> rfl) | (simp [*, errW_none, errW_some] <;> rfl), by (with_reducible repeat (first | apply vA | apply vB | apply vC)); exact HO472.out, by repeat (first | (with_reducible first | exact HB.out | apply bA | apply bB | apply bC) | exact HB.out)⟩

/-! ### galoisref09_Gcd: function 64 -/
def galoisref09_Gcd.l0 : Nat → Int → List Int → List Int → Option (List Int)
 | 0, _, _, _ => none
 | k + 1, x0, x1, x2 => if (x2.length : Int) > 0 then ((galoisref09_Mod.f k x0 x1 x2).bind fun t473 => (galoisref09_Gcd.l0 k x0 x2 t473)) else ((galoisref09_Monic.f k x0 x1).bind fun t476 => (some t476))
def galoisref09_Gcd.f (k : Nat) (a0 : Int) (l1 : List Int) (l2 : List Int) : Option (List Int) := galoisref09_Gcd.l0 k a0 l1 l2
theorem galoisref09_Gcd.mono_l : ∀ k, (∀ y0 y1 y2, LeO (galoisref09_Gcd.l0 k y0 y1 y2) (galoisref09_Gcd.l0 (k + 1) y0 y1 y2))
 | 0 => fun _ _ _ r h => by simp [galoisref09_Gcd.l0] at h
 | k + 1 => by
   have ih0 := galoisref09_Gcd.mono_l k
   · intro y0 y1 y2
     unfold galoisref09_Gcd.l0
     repeat' first
     | (with_reducible apply ih0)
     | (with_reducible apply galoisref09_Mod.mono)
     | (with_reducible apply galoisref09_Monic.mono)
     | (with_reducible apply LeO.refl)
     | (with_reducible apply LeO.none)
     | (with_reducible refine LeO.ite ?_ ?_)
     | (with_reducible refine LeO.bind ?_ (fun _ => ?_))
theorem galoisref09_Gcd.mono : ∀ a0 a1 a2 k, LeO (galoisref09_Gcd.f k a0 a1 a2) (galoisref09_Gcd.f (k + 1) a0 a1 a2) := by
 intro a0 a1 a2 k
 have ih0 := galoisref09_Gcd.mono_l k
 unfold galoisref09_Gcd.f
 repeat' first
  | (with_reducible apply ih0)
  | (with_reducible apply galoisref09_Mod.mono)
  | (with_reducible apply galoisref09_Monic.mono)
  | (with_reducible apply LeO.refl)
  | (with_reducible apply LeO.none)
  | (with_reducible refine LeO.ite ?_ ?_)
  | (with_reducible refine LeO.bind ?_ (fun _ => ?_))
set_option maxHeartbeats 8000000 in
set_option maxRecDepth 100000 in
theorem galoisref09_Gcd.calls (k : Nat) (a0 : Int) (P1_ : Nat → Prop) (A1 : Option Addr) (c1 : Nat) (l1 : List Int) (P2_ : Nat → Prop) (A2 : Option Addr) (c2 : Nat) (l2 : List Int) (r : List Int) (w : World) (hs1 : Kd.V (Kd.int .i64) 3 w w.heap.size (fun k_ => P1_ k_) (.slice A1 l1.length c1) l1) (hs2 : Kd.V (Kd.int .i64) 3 w w.heap.size (fun k_ => P2_ k_) (.slice A2 l2.length c2) l2) (h : galoisref09_Gcd.f k a0 l1 l2 = some r) :
 Calls Try.prog 64 #[.int .i64 a0, .slice A1 l1.length c1, .slice A2 l2.length c2] w fun e w' => ∃ v0_ : Value, e = .returned (v0_) ∧ Kd.V (Kd.int .i64) 3 w' w.heap.size (fun k_ => ((P1_ k_ ∨ P2_ k_) ∨ w.heap.size ≤ k_)) v0_ r ∧ Below w.heap.size w w' := by
 have HO1 := ak (show Kd.V (Kd.int .i64) 3 w w.heap.size (fun k_ => ((P1_ k_ ∨ P2_ k_) ∨ w.heap.size ≤ k_)) (.slice A1 l1.length c1) l1 from Kd.V_mono hs1 (fun k_ hk => .inl (.inl hk)))
 have HO2 := ak (show Kd.V (Kd.int .i64) 3 w w.heap.size (fun k_ => ((P1_ k_ ∨ P2_ k_) ∨ w.heap.size ≤ k_)) (.slice A2 l2.length c2) l2 from Kd.V_mono hs2 (fun k_ hk => .inl (.inr hk)))
 have HB := ak (Below.refl w.heap.size w)
 have H : (galoisref09_Gcd.l0 k a0 l1 l2) = some r := h
 clear h
 have H' := ak H
 clear H
 go_enter Try.func64, Try.ntmps64
 go_wp2
 go_loopg [1, 2] k (fun kq v1 v2 w' => ∃ (x1_1 : List Int) (x2_1 : List Int), Aside0 (galoisref09_Gcd.l0 kq a0 x1_1 x2_1 = some r) ∧ Aside0 (kq ≤ k) ∧ Aside0 (Kd.V (Kd.int .i64) 3 w' w.heap.size (fun k_ => ((P1_ k_ ∨ P2_ k_) ∨ w.heap.size ≤ k_)) v1 x1_1) ∧ Aside0 (Kd.V (Kd.int .i64) 3 w' w.heap.size (fun k_ => ((P1_ k_ ∨ P2_ k_) ∨ w.heap.size ≤ k_)) v2 x2_1) ∧ Aside0 (Below w.heap.size w w'))
 case atStart => exact ⟨(l1), (l2), H', ⟨Nat.le_refl _⟩, ⟨by (with_reducible repeat (first | apply vA | apply vB | apply vC)); exact HO1.out⟩, ⟨by (with_reducible repeat (first | apply vA | apply vB | apply vC)); exact HO2.out⟩, ⟨by repeat (first | (with_reducible first | exact HB.out | apply bA | apply bB | apply bC) | exact HB.out)⟩⟩
 case round =>
  clear H'
  try clear c1
  try clear c2
  try clear p2
  obtain ⟨x1_1, x2_1, HA, HK1, HO_1, HO_2, HB⟩ := hrel
  cases gk with
  | zero => exact absurd HA.out (by simp [galoisref09_Gcd.l0])
  | succ k1 =>
    have H := HA.out
    clear HA
    simp only [galoisref09_Gcd.l0] at H
    by_cases c4 : (x2_1.length : Int) > 0
    · rw [if_pos c4] at H
      have c4b0 : decide (0 < (x2_1.length : Int)) = true := decide_eq_true c4
      have c4b1 : decide (0 < x2_1.length) = true := decide_eq_true (by omega)
      clear c4
      replace H := Option.bind_eq_some_iff.mp H
      obtain ⟨t473, A50, H⟩ := H
      replace H : (galoisref09_Gcd.l0 k1 a0 x2_1 t473) = some r := H
      have A5 := ak A50
      clear A50
      as_aux_lemma =>
       have H' := ak H
       clear H
       obtain ⟨Ao6, co6, eo6⟩ := Kd.V_slice HO_2.out
       subst eo6
       obtain ⟨Ao7, co7, eo7⟩ := Kd.V_slice HO_1.out
       subst eo7
       go_wp2_with (first | ((with_reducible refine gate_callee (f := 62) rfl ?_); refine goesL_ (some 14) rfl rfl Try.func62 (by kernel_rfl) rfl #[.int .i64 a0, .slice Ao7 x1_1.length co7, .slice Ao6 x2_1.length co6] rfl mX ?_; (with_reducible refine (galoisref09_Mod.calls k1 a0 _ _ x1_1 _ _ x2_1 t473 _ ?side1 ?side2 ?side3 ?side4 A5.out).mono ?_); (case side1 => exact cX (Kd.V_reads' HO_1.out).2.2); (case side2 => exact (Kd.V_reads' HO_1.out).2.1); (case side3 => exact cX (Kd.V_reads' HO_2.out).2.2); (case side4 => exact (Kd.V_reads' HO_2.out).2.1); rintro e w8 ⟨v474, rfl, ho0, hb⟩; refine ⟨_, rfl, ?_⟩; have n0_ := ak (Kd.V_below (vX HO_1.out) hb); have n1_ := ak (Kd.V_below (vX HO_2.out) hb); have n2_ := ak (Kd.V_lower (Kd.V_mono (ok' := fun k_ => ((P1_ k_ ∨ P2_ k_) ∨ w.heap.size ≤ k_)) ho0 (fun k_ hk_ => (.inr (Nat.le_trans (below_size bX) hk_)))) (below_size bX)); have n3_ := ak (below_step bX hb); clear HO_1; clear HO_2; clear HB; have HO_1 := n0_; have HO_2 := n1_; have HO475 := n2_; have HB := n3_; clear n0_ n1_ n2_ n3_; (try clear hb); (try clear hb2); (try clear hk); (try clear hi); (try clear ho0)))
       (first | go_roundg k1 | (refine Handed.intro k1 ?measure ?_; rotate_left; go_step; (repeat rw [add_plain]); (repeat apply Exists.intro); refine ⟨?rel, rfl⟩))
       case measure => have := HK1.out; omega
       case rel => exact ⟨(x2_1), (t473), H', ⟨by have := HK1.out; omega⟩, ⟨by (with_reducible repeat (first | apply vA | apply vB | apply vC)); exact HO_2.out⟩, ⟨by (with_reducible repeat (first | apply vA | apply vB | apply vC)); exact HO475.out⟩, ⟨by repeat (first | (with_reducible first | exact HB.out | apply bA | apply bB | apply bC) | exact HB.out)⟩⟩
    · rw [if_neg c4] at H
      have c4b0 : decide (0 < (x2_1.length : Int)) = false := decide_eq_false c4
      have c4b1 : decide (0 < x2_1.length) = false := decide_eq_false (by omega)
      clear c4
      replace H := Option.bind_eq_some_iff.mp H
      obtain ⟨t476, A90, H⟩ := H
      replace H : (some t476) = some r := H
      have A9 := ak A90
      clear A90
      as_aux_lemma =>
       obtain rfl := Option.some.inj H
       obtain ⟨Ao10, co10, eo10⟩ := Kd.V_slice HO_2.out
       subst eo10
       obtain ⟨Ao11, co11, eo11⟩ := Kd.V_slice HO_1.out
       subst eo11
       go_wp2_with (first | ((with_reducible refine gate_callee (f := 33) rfl ?_); refine goesL_ (some 17) rfl rfl Try.func33 (by kernel_rfl) rfl #[.int .i64 a0, .slice Ao11 x1_1.length co11] rfl mX ?_; (with_reducible refine (galoisref09_Monic.calls k1 a0 _ _ x1_1 t476 _ ?side1 ?side2 A9.out).mono ?_); (case side1 => exact cX (Kd.V_reads' HO_1.out).2.2); (case side2 => exact (Kd.V_reads' HO_1.out).2.1); rintro e w12 ⟨v477, rfl, ho0, hb⟩; refine ⟨_, rfl, ?_⟩; have n0_ := ak (Kd.V_below (vX HO_1.out) hb); have n1_ := ak (Kd.V_below (vX HO_2.out) hb); have n2_ := ak (Kd.V_lower (Kd.V_mono (ok' := fun k_ => ((P1_ k_ ∨ P2_ k_) ∨ w.heap.size ≤ k_)) ho0 (fun k_ hk_ => (.inr (Nat.le_trans (below_size bX) hk_)))) (below_size bX)); have n3_ := ak (below_step bX hb); clear HO_1; clear HO_2; clear HB; have HO_1 := n0_; have HO_2 := n1_; have HO478 := n2_; have HB := n3_; clear n0_ n1_ n2_ n3_; (try clear hb); (try clear hb2); (try clear hk); (try clear hi); (try clear ho0)))
       go_ret
       exact ⟨_, by first | rfl | (simp [errW_none, errW_some] <;> rfl) | (simp [*, errW_none, errW_some] <;> rfl), by (with_reducible repeat (first | apply vA | apply vB | apply vC)); exact HO478.out, by repeat (first | (with_reducible first | exact HB.out | apply bA | apply bB | apply bC) | exact HB.out)⟩

/-! ### galoisref09_IsIrreducible: function 16 -/
def galoisref09_IsIrreducible.l0 : Nat → Int → List Int → List Int → Int → Option (Bool)
 | 0, _, _, _, _ => none
 | k + 1, x0, x1, x5, x6 => if (wrap64 (2 * x6)) ≤ (wrap64 ((x1.length : Int) - 1)) then ((galoisref01_FromInt.f k x0).bind fun t485 => ((galoisref09_PowMod.f k x0 x5 t485 x1).bind fun t486 => ((galoisref09_X.f).bind fun t489 => ((galoisref09_Sub.f k x0 t486 t489).bind fun t492 => ((galoisref09_Gcd.f k x0 t492 x1).bind fun t495 => (if (t495.length : Int) = 1 then (galoisref09_IsIrreducible.l0 k x0 x1 t486 (wrap64 (x6 + 1))) else (some false))))))) else (some true)
def galoisref09_IsIrreducible.f (k : Nat) (a0 : Int) (l1 : List Int) : Option (Bool) := if (l1.length : Int) < 2 then (some false) else ((galoisref09_X.f).bind fun t479 => ((galoisref09_Mod.f k a0 t479 l1).bind fun t482 => (galoisref09_IsIrreducible.l0 k a0 l1 t482 1)))
theorem galoisref09_IsIrreducible.mono_l : ∀ k, (∀ y0 y1 y2 y3, LeO (galoisref09_IsIrreducible.l0 k y0 y1 y2 y3) (galoisref09_IsIrreducible.l0 (k + 1) y0 y1 y2 y3))
 | 0 => fun _ _ _ _ r h => by simp [galoisref09_IsIrreducible.l0] at h
 | k + 1 => by
   have ih0 := galoisref09_IsIrreducible.mono_l k
   · intro y0 y1 y2 y3
     unfold galoisref09_IsIrreducible.l0
     repeat' first
     | (with_reducible apply ih0)
     | (with_reducible apply galoisref01_FromInt.mono)
     | (with_reducible apply galoisref09_Gcd.mono)
     | (with_reducible apply galoisref09_Mod.mono)
     | (with_reducible apply galoisref09_PowMod.mono)
     | (with_reducible apply galoisref09_Sub.mono)
     | (with_reducible apply LeO.refl)
     | (with_reducible apply LeO.none)
     | (with_reducible refine LeO.ite ?_ ?_)
     | (with_reducible refine LeO.bind ?_ (fun _ => ?_))
theorem galoisref09_IsIrreducible.mono : ∀ a0 a1 k, LeO (galoisref09_IsIrreducible.f k a0 a1) (galoisref09_IsIrreducible.f (k + 1) a0 a1) := by
 intro a0 a1 k
 have ih0 := galoisref09_IsIrreducible.mono_l k
 unfold galoisref09_IsIrreducible.f
 repeat' first
  | (with_reducible apply ih0)
  | (with_reducible apply galoisref01_FromInt.mono)
  | (with_reducible apply galoisref09_Gcd.mono)
  | (with_reducible apply galoisref09_Mod.mono)
  | (with_reducible apply galoisref09_PowMod.mono)
  | (with_reducible apply galoisref09_Sub.mono)
  | (with_reducible apply LeO.refl)
  | (with_reducible apply LeO.none)
  | (with_reducible refine LeO.ite ?_ ?_)
  | (with_reducible refine LeO.bind ?_ (fun _ => ?_))
set_option maxHeartbeats 8000000 in
set_option maxRecDepth 100000 in
theorem galoisref09_IsIrreducible.calls (k : Nat) (a0 : Int) (A1 : Option Addr) (c1 : Nat) (l1 : List Int) (r : Bool) (w : World) (hr1 : Kd.C (Kd.int .i64) w A1 l1.length l1) (hc1 : l1.length ≤ c1) (h : galoisref09_IsIrreducible.f k a0 l1 = some r) :
 Calls Try.prog 16 #[.int .i64 a0, .slice A1 l1.length c1] w fun e w' => e = .returned (.bool r) ∧ Below w.heap.size w w' := by
 have HR1 := ak hr1
 have HC1 := ak hc1
 clear hr1 hc1
 have HB := ak (Below.refl w.heap.size w)
 have H : (if (l1.length : Int) < 2 then (some false) else ((galoisref09_X.f).bind fun t479 => ((galoisref09_Mod.f k a0 t479 l1).bind fun t482 => (galoisref09_IsIrreducible.l0 k a0 l1 t482 1)))) = some r := h
 clear h
 by_cases c3 : (l1.length : Int) < 2
 · rw [if_pos c3] at H
   have c3b0 : decide ((l1.length : Int) < 2) = true := decide_eq_true c3
   have c3b1 : decide (l1.length < 2) = true := decide_eq_true (by omega)
   clear c3
   as_aux_lemma =>
    obtain rfl := Option.some.inj H
    go_enter Try.func16, Try.ntmps16
    go_wp2
    go_ret
    exact ⟨by first | rfl | (simp [errW_none, errW_some] <;> rfl) | (simp [*, errW_none, errW_some] <;> rfl), by repeat (first | (with_reducible first | exact HB.out | apply bA | apply bB | apply bC) | exact HB.out)⟩
 · rw [if_neg c3] at H
   have c3b0 : decide ((l1.length : Int) < 2) = false := decide_eq_false c3
   have c3b1 : decide (l1.length < 2) = false := decide_eq_false (by omega)
   clear c3
   replace H := Option.bind_eq_some_iff.mp H
   obtain ⟨t479, A40, H⟩ := H
   replace H : ((galoisref09_Mod.f k a0 t479 l1).bind fun t482 => (galoisref09_IsIrreducible.l0 k a0 l1 t482 1)) = some r := H
   have A4 := ak A40
   clear A40
   replace H := Option.bind_eq_some_iff.mp H
   obtain ⟨t482, A50, H⟩ := H
   replace H : (galoisref09_IsIrreducible.l0 k a0 l1 t482 1) = some r := H
   have A5 := ak A50
   clear A50
   have H' := ak H
   clear H
   go_enter Try.func16, Try.ntmps16
   go_wp2_with (first | ((with_reducible refine gate_callee (f := 63) rfl ?_); refine goesL_ (some 11) rfl rfl Try.func63 (by kernel_rfl) rfl #[] rfl mX ?_; (with_reducible refine (galoisref09_X.calls  t479 _ A4.out).mono ?_); rintro e w6 ⟨v480, rfl, ho0, hb⟩; refine ⟨_, rfl, ?_⟩; have n0_ := ak (Kd.R_lower ho0 (below_size bX)); have n1_ := ak (below_step bX hb); clear HB; have HO481 := n0_; have HB := n1_; clear n0_ n1_; (try clear hb); (try clear hb2); (try clear hk); (try clear hi); (try clear ho0); obtain ⟨Ao7, co7, eo7⟩ := Kd.R_slice HO481.out; subst eo7) | ((with_reducible refine gate_callee (f := 62) rfl ?_); refine goesL_ (some 13) rfl rfl Try.func62 (by kernel_rfl) rfl #[.int .i64 a0, .slice Ao7 t479.length co7, .slice A1 l1.length c1] rfl mX ?_; (with_reducible refine (galoisref09_Mod.calls k a0 _ _ t479 _ _ l1 t482 _ ?side1 ?side2 ?side3 ?side4 A5.out).mono ?_); (case side1 => exact cX (Kd.R_reads' HO481.out).2.2); (case side2 => exact (Kd.R_reads' HO481.out).2.1); (case side3 => exact cX (Kd.C_below HR1.out HB.out)); (case side4 => exact HC1.out); rintro e w8 ⟨v483, rfl, ho0, hb⟩; refine ⟨_, rfl, ?_⟩; have n0_ := ak (Kd.R_below (rX HO481.out) hb); have n1_ := ak (Kd.V_lower (Kd.V_mono (ok' := fun k_ => some k_ ≠ (.slice Ao7 t479.length co7 : Value).ownBlock) ho0 (fun k_ hk_ => (Kd.fresh' (Kd.R_lt (rX HO481.out)) k_ hk_))) (below_size bX)); have n2_ := ak (below_step bX hb); clear HO481; clear HB; have HO481 := n0_; have HO484 := n1_; have HB := n2_; clear n0_ n1_ n2_; (try clear hb); (try clear hb2); (try clear hk); (try clear hi); (try clear ho0)))
   go_loopg [5, 6] k (fun kq v5 v6 w' => ∃ (x5_1 : List Int) (x6_1 : Int), v6 = .int .i64 x6_1 ∧ Aside0 (galoisref09_IsIrreducible.l0 kq a0 l1 x5_1 x6_1 = some r) ∧ Aside0 (kq ≤ k) ∧ Aside0 (Kd.V (Kd.int .i64) 3 w' w.heap.size (fun _ => True) v5 x5_1) ∧ Aside0 (Below w.heap.size w w'))
   case atStart => exact ⟨(t482), (1), (by first | rfl | (simp; done) | (simp [*]; done)), H', ⟨Nat.le_refl _⟩, ⟨by (with_reducible repeat (first | apply vA | apply vB | apply vC)); exact Kd.V_mono HO484.out (fun _ hk => trivial)⟩, ⟨by repeat (first | (with_reducible first | exact HB.out | apply bA | apply bB | apply bC) | exact HB.out)⟩⟩
   case round =>
    clear H'
    try clear c1
    try clear p2
    try clear c3
    try clear c3b0
    try clear c3b1
    try clear c6
    obtain ⟨x5_1, x6_1, rfl, HA, HK1, HO_5, HB⟩ := hrel
    cases gk with
    | zero => exact absurd HA.out (by simp [galoisref09_IsIrreducible.l0])
    | succ k1 =>
      have H := HA.out
      clear HA
      simp only [galoisref09_IsIrreducible.l0] at H
      by_cases c9 : (wrap64 (2 * x6_1)) ≤ (wrap64 ((l1.length : Int) - 1))
      · rw [if_pos c9] at H
        have c9b0 : decide ((wrap64 (2 * x6_1)) ≤ (wrap64 ((l1.length : Int) - 1))) = true := decide_eq_true c9
        clear c9
        replace H := Option.bind_eq_some_iff.mp H
        obtain ⟨t485, A100, H⟩ := H
        replace H : ((galoisref09_PowMod.f k1 a0 x5_1 t485 l1).bind fun t486 => ((galoisref09_X.f).bind fun t489 => ((galoisref09_Sub.f k1 a0 t486 t489).bind fun t492 => ((galoisref09_Gcd.f k1 a0 t492 l1).bind fun t495 => (if (t495.length : Int) = 1 then (galoisref09_IsIrreducible.l0 k1 a0 l1 t486 (wrap64 (x6_1 + 1))) else (some false)))))) = some r := H
        have A10 := ak A100
        clear A100
        replace H := Option.bind_eq_some_iff.mp H
        obtain ⟨t486, A110, H⟩ := H
        replace H : ((galoisref09_X.f).bind fun t489 => ((galoisref09_Sub.f k1 a0 t486 t489).bind fun t492 => ((galoisref09_Gcd.f k1 a0 t492 l1).bind fun t495 => (if (t495.length : Int) = 1 then (galoisref09_IsIrreducible.l0 k1 a0 l1 t486 (wrap64 (x6_1 + 1))) else (some false))))) = some r := H
        have A11 := ak A110
        clear A110
        replace H := Option.bind_eq_some_iff.mp H
        obtain ⟨t489, A120, H⟩ := H
        replace H : ((galoisref09_Sub.f k1 a0 t486 t489).bind fun t492 => ((galoisref09_Gcd.f k1 a0 t492 l1).bind fun t495 => (if (t495.length : Int) = 1 then (galoisref09_IsIrreducible.l0 k1 a0 l1 t486 (wrap64 (x6_1 + 1))) else (some false)))) = some r := H
        have A12 := ak A120
        clear A120
        replace H := Option.bind_eq_some_iff.mp H
        obtain ⟨t492, A130, H⟩ := H
        replace H : ((galoisref09_Gcd.f k1 a0 t492 l1).bind fun t495 => (if (t495.length : Int) = 1 then (galoisref09_IsIrreducible.l0 k1 a0 l1 t486 (wrap64 (x6_1 + 1))) else (some false))) = some r := H
        have A13 := ak A130
        clear A130
        replace H := Option.bind_eq_some_iff.mp H
        obtain ⟨t495, A140, H⟩ := H
        replace H : (if (t495.length : Int) = 1 then (galoisref09_IsIrreducible.l0 k1 a0 l1 t486 (wrap64 (x6_1 + 1))) else (some false)) = some r := H
        have A14 := ak A140
        clear A140
        by_cases c15 : (t495.length : Int) = 1
        · rw [if_pos c15] at H
          have c15b0 : ((t495.length : Int) == 1) = true := beq_iff_eq.mpr c15
          have c15b1 : ((t495.length : Int) != 1) = false := bne_eq_false_iff_eq.mpr c15
          clear c15
          as_aux_lemma =>
           have H' := ak H
           clear H
           go_wp2_with (first | ((with_reducible refine gate_callee (f := 20) rfl ?_); refine goesL_ (some 25) rfl rfl Try.func20 (by kernel_rfl) rfl #[.int .i64 a0] rfl mX ?_; (with_reducible refine (galoisref01_FromInt.calls k1 a0 t485 _ A10.out).mono ?_); rintro e w16 ⟨rfl, hb⟩; refine ⟨_, rfl, ?_⟩; have n0_ := ak (Kd.V_below (vX HO_5.out) hb); have n1_ := ak (below_step bX hb); clear HO_5; clear HB; have HO_5 := n0_; have HB := n1_; clear n0_ n1_; (try clear hb); (try clear hb2); (try clear hk); (try clear hi); obtain ⟨Ao17, co17, eo17⟩ := Kd.V_slice HO_5.out; subst eo17) | ((with_reducible refine gate_callee (f := 28) rfl ?_); refine goesL_ (some 27) rfl rfl Try.func28 (by kernel_rfl) rfl #[.int .i64 a0, .slice Ao17 x5_1.length co17, .string t485, .slice A1 l1.length c1] rfl mX ?_; (with_reducible refine (galoisref09_PowMod.calls k1 a0 _ _ x5_1 t485 _ _ l1 t486 _ ?side1 ?side2 ?side3 ?side4 A11.out).mono ?_); (case side1 => exact cX (Kd.V_reads' HO_5.out).2.2); (case side2 => exact (Kd.V_reads' HO_5.out).2.1); (case side3 => exact cX (Kd.C_below HR1.out HB.out)); (case side4 => exact HC1.out); rintro e w18 ⟨v487, rfl, ho0, hb⟩; refine ⟨_, rfl, ?_⟩; have n0_ := ak (Kd.V_below (vX HO_5.out) hb); have n1_ := ak (Kd.V_lower (Kd.V_mono (ok' := fun k_ => True) ho0 (fun k_ hk_ => trivial)) (below_size bX)); have n2_ := ak (below_step bX hb); clear HO_5; clear HB; have HO_5 := n0_; have HO488 := n1_; have HB := n2_; clear n0_ n1_ n2_; (try clear hb); (try clear hb2); (try clear hk); (try clear hi); (try clear ho0)) | ((with_reducible refine gate_callee (f := 63) rfl ?_); refine goesL_ (some 31) rfl rfl Try.func63 (by kernel_rfl) rfl #[] rfl mX ?_; (with_reducible refine (galoisref09_X.calls  t489 _ A12.out).mono ?_); rintro e w19 ⟨v490, rfl, ho0, hb⟩; refine ⟨_, rfl, ?_⟩; have n0_ := ak (Kd.V_elder' (vX HO_5.out) (Kd.R_base ho0) hb); have n1_ := ak (Kd.V_elder' (vX HO488.out) (Kd.R_base ho0) hb); have n2_ := ak (Kd.R_lower ho0 (below_size bX)); have n3_ := ak (below_step bX hb); clear HO_5; clear HO488; clear HB; have HO_5 := n0_; have HO488 := n1_; have HO491 := n2_; have HB := n3_; clear n0_ n1_ n2_ n3_; (try clear hb); (try clear hb2); (try clear hk); (try clear hi); (try clear ho0); obtain ⟨Ao20, co20, eo20⟩ := Kd.V_slice HO488.out; subst eo20; obtain ⟨Ao21, co21, eo21⟩ := Kd.R_slice HO491.out; subst eo21) | ((with_reducible refine gate_callee (f := 51) rfl ?_); refine goesL_ (some 32) rfl rfl Try.func51 (by kernel_rfl) rfl #[.int .i64 a0, .slice Ao20 t486.length co20, .slice Ao21 t489.length co21] rfl mX ?_; (with_reducible refine (galoisref09_Sub.calls k1 a0 _ _ t486 _ _ t489 t492 _ ?side1 ?side2 ?side3 ?side4 A13.out).mono ?_); (case side1 => exact cX (Kd.V_reads' HO488.out).2.2); (case side2 => exact (Kd.V_reads' HO488.out).2.1); (case side3 => exact cX (Kd.R_reads' HO491.out).2.2); (case side4 => exact (Kd.R_reads' HO491.out).2.1); rintro e w22 ⟨v493, rfl, ho0, hb⟩; refine ⟨_, rfl, ?_⟩; have n0_ := ak (Kd.V_below (vX HO_5.out) hb); have n1_ := ak (Kd.V_below (vX HO488.out) hb); have n2_ := ak (Kd.R_below (rX HO491.out) hb); have n3_ := ak (Kd.V_lower (Kd.V_mono (ok' := fun k_ => some k_ ≠ (.slice Ao21 t489.length co21 : Value).ownBlock) ho0 (fun k_ hk_ => (Kd.fresh' (Kd.R_lt (rX HO491.out)) k_ hk_))) (below_size bX)); have n4_ := ak (below_step bX hb); clear HO_5; clear HO488; clear HO491; clear HB; have HO_5 := n0_; have HO488 := n1_; have HO491 := n2_; have HO494 := n3_; have HB := n4_; clear n0_ n1_ n2_ n3_ n4_; (try clear hb); (try clear hb2); (try clear hk); (try clear hi); (try clear ho0); obtain ⟨Ao23, co23, eo23⟩ := Kd.V_slice HO494.out; subst eo23) | ((with_reducible refine gate_callee (f := 64) rfl ?_); refine goesL_ (some 34) rfl rfl Try.func64 (by kernel_rfl) rfl #[.int .i64 a0, .slice Ao23 t492.length co23, .slice A1 l1.length c1] rfl mX ?_; (with_reducible refine (galoisref09_Gcd.calls k1 a0 (fun k_ => some k_ ≠ (.slice Ao21 t489.length co21 : Value).ownBlock) _ _ t492 (fun k_ => k_ < w.heap.size) _ _ l1 t495 _ ?side1 ?side2 A14.out).mono ?_); (case side1 => exact HO494.out); (case side2 => exact Kd.V_mk HC1.out (Kd.F_below (Kd.C_F (Kd.heap_int .i64) HR1.out) bX)); rintro e w24 ⟨v496, rfl, ho0, hb⟩; refine ⟨_, rfl, ?_⟩; have n0_ := ak (Kd.V_below (vX HO_5.out) hb); have n1_ := ak (Kd.V_below (vX HO488.out) hb); have n2_ := ak (Kd.R_below (rX HO491.out) hb); have n3_ := ak (Kd.V_below (vX HO494.out) hb); have n4_ := ak (Kd.V_lower (Kd.V_mono (ok' := fun k_ => some k_ ≠ (.slice Ao21 t489.length co21 : Value).ownBlock) ho0 (fun k_ hk_ => Or.elim hk_ (fun hs_ => Or.elim hs_ (fun hs_ => hs_) (fun hs_ => fun e_ => Nat.not_le.2 hs_ (Kd.R_base HO491.out k_ e_.symm))) (fun hn_ => (Kd.fresh' (Kd.R_lt (rX HO491.out)) k_ hn_)))) (below_size bX)); have n5_ := ak (below_step bX hb); clear HO_5; clear HO488; clear HO491; clear HO494; clear HB; have HO_5 := n0_; have HO488 := n1_; have HO491 := n2_; have HO494 := n3_; have HO497 := n4_; have HB := n5_; clear n0_ n1_ n2_ n3_ n4_ n5_; (try clear hb); (try clear hb2); (try clear hk); (try clear hi); (try clear ho0); obtain ⟨Ao25, co25, eo25⟩ := Kd.V_slice HO497.out; subst eo25))
           (first | go_roundg k1 | (refine Handed.intro k1 ?measure ?_; rotate_left; go_step; (repeat rw [add_plain]); (repeat apply Exists.intro); refine ⟨?rel, rfl⟩))
           case measure => have := HK1.out; omega
           case rel => exact ⟨(t486), (wrap64 (x6_1 + 1)), (by first | rfl | (simp; done) | (simp [*]; done)), H', ⟨by have := HK1.out; omega⟩, ⟨by (with_reducible repeat (first | apply vA | apply vB | apply vC)); exact Kd.V_mono HO488.out (fun _ hk => trivial)⟩, ⟨by repeat (first | (with_reducible first | exact HB.out | apply bA | apply bB | apply bC) | exact HB.out)⟩⟩
        · rw [if_neg c15] at H
          have c15b0 : ((t495.length : Int) == 1) = false := beq_eq_false_iff_ne.mpr c15
          have c15b1 : ((t495.length : Int) != 1) = true := bne_iff_ne.mpr c15
          as_aux_lemma =>
           obtain rfl := Option.some.inj H
           go_wp2_with (first | ((with_reducible refine gate_callee (f := 20) rfl ?_); refine goesL_ (some 25) rfl rfl Try.func20 (by kernel_rfl) rfl #[.int .i64 a0] rfl mX ?_; (with_reducible refine (galoisref01_FromInt.calls k1 a0 t485 _ A10.out).mono ?_); rintro e w26 ⟨rfl, hb⟩; refine ⟨_, rfl, ?_⟩; have n0_ := ak (Kd.V_below (vX HO_5.out) hb); have n1_ := ak (below_step bX hb); clear HO_5; clear HB; have HO_5 := n0_; have HB := n1_; clear n0_ n1_; (try clear hb); (try clear hb2); (try clear hk); (try clear hi); obtain ⟨Ao27, co27, eo27⟩ := Kd.V_slice HO_5.out; subst eo27) | ((with_reducible refine gate_callee (f := 28) rfl ?_); refine goesL_ (some 27) rfl rfl Try.func28 (by kernel_rfl) rfl #[.int .i64 a0, .slice Ao27 x5_1.length co27, .string t485, .slice A1 l1.length c1] rfl mX ?_; (with_reducible refine (galoisref09_PowMod.calls k1 a0 _ _ x5_1 t485 _ _ l1 t486 _ ?side1 ?side2 ?side3 ?side4 A11.out).mono ?_); (case side1 => exact cX (Kd.V_reads' HO_5.out).2.2); (case side2 => exact (Kd.V_reads' HO_5.out).2.1); (case side3 => exact cX (Kd.C_below HR1.out HB.out)); (case side4 => exact HC1.out); rintro e w28 ⟨v487, rfl, ho0, hb⟩; refine ⟨_, rfl, ?_⟩; have n0_ := ak (Kd.V_below (vX HO_5.out) hb); have n1_ := ak (Kd.V_lower (Kd.V_mono (ok' := fun k_ => True) ho0 (fun k_ hk_ => trivial)) (below_size bX)); have n2_ := ak (below_step bX hb); clear HO_5; clear HB; have HO_5 := n0_; have HO488 := n1_; have HB := n2_; clear n0_ n1_ n2_; (try clear hb); (try clear hb2); (try clear hk); (try clear hi); (try clear ho0)) | ((with_reducible refine gate_callee (f := 63) rfl ?_); refine goesL_ (some 31) rfl rfl Try.func63 (by kernel_rfl) rfl #[] rfl mX ?_; (with_reducible refine (galoisref09_X.calls  t489 _ A12.out).mono ?_); rintro e w29 ⟨v490, rfl, ho0, hb⟩; refine ⟨_, rfl, ?_⟩; have n0_ := ak (Kd.V_elder' (vX HO_5.out) (Kd.R_base ho0) hb); have n1_ := ak (Kd.V_elder' (vX HO488.out) (Kd.R_base ho0) hb); have n2_ := ak (Kd.R_lower ho0 (below_size bX)); have n3_ := ak (below_step bX hb); clear HO_5; clear HO488; clear HB; have HO_5 := n0_; have HO488 := n1_; have HO491 := n2_; have HB := n3_; clear n0_ n1_ n2_ n3_; (try clear hb); (try clear hb2); (try clear hk); (try clear hi); (try clear ho0); obtain ⟨Ao30, co30, eo30⟩ := Kd.V_slice HO488.out; subst eo30; obtain ⟨Ao31, co31, eo31⟩ := Kd.R_slice HO491.out; subst eo31) | ((with_reducible refine gate_callee (f := 51) rfl ?_); refine goesL_ (some 32) rfl rfl Try.func51 (by kernel_rfl) rfl #[.int .i64 a0, .slice Ao30 t486.length co30, .slice Ao31 t489.length co31] rfl mX ?_; (with_reducible refine (galoisref09_Sub.calls k1 a0 _ _ t486 _ _ t489 t492 _ ?side1 ?side2 ?side3 ?side4 A13.out).mono ?_); (case side1 => exact cX (Kd.V_reads' HO488.out).2.2); (case side2 => exact (Kd.V_reads' HO488.out).2.1); (case side3 => exact cX (Kd.R_reads' HO491.out).2.2); (case side4 => exact (Kd.R_reads' HO491.out).2.1); rintro e w32 ⟨v493, rfl, ho0, hb⟩; refine ⟨_, rfl, ?_⟩; have n0_ := ak (Kd.V_below (vX HO_5.out) hb); have n1_ := ak (Kd.V_below (vX HO488.out) hb); have n2_ := ak (Kd.R_below (rX HO491.out) hb); have n3_ := ak (Kd.V_lower (Kd.V_mono (ok' := fun k_ => some k_ ≠ (.slice Ao31 t489.length co31 : Value).ownBlock) ho0 (fun k_ hk_ => (Kd.fresh' (Kd.R_lt (rX HO491.out)) k_ hk_))) (below_size bX)); have n4_ := ak (below_step bX hb); clear HO_5; clear HO488; clear HO491; clear HB; have HO_5 := n0_; have HO488 := n1_; have HO491 := n2_; have HO494 := n3_; have HB := n4_; clear n0_ n1_ n2_ n3_ n4_; (try clear hb); (try clear hb2); (try clear hk); (try clear hi); (try clear ho0); obtain ⟨Ao33, co33, eo33⟩ := Kd.V_slice HO494.out; subst eo33) | ((with_reducible refine gate_callee (f := 64) rfl ?_); refine goesL_ (some 34) rfl rfl Try.func64 (by kernel_rfl) rfl #[.int .i64 a0, .slice Ao33 t492.length co33, .slice A1 l1.length c1] rfl mX ?_; (with_reducible refine (galoisref09_Gcd.calls k1 a0 (fun k_ => some k_ ≠ (.slice Ao31 t489.length co31 : Value).ownBlock) _ _ t492 (fun k_ => k_ < w.heap.size) _ _ l1 t495 _ ?side1 ?side2 A14.out).mono ?_); (case side1 => exact HO494.out); (case side2 => exact Kd.V_mk HC1.out (Kd.F_below (Kd.C_F (Kd.heap_int .i64) HR1.out) bX)); rintro e w34 ⟨v496, rfl, ho0, hb⟩; refine ⟨_, rfl, ?_⟩; have n0_ := ak (Kd.V_below (vX HO_5.out) hb); have n1_ := ak (Kd.V_below (vX HO488.out) hb); have n2_ := ak (Kd.R_below (rX HO491.out) hb); have n3_ := ak (Kd.V_below (vX HO494.out) hb); have n4_ := ak (Kd.V_lower (Kd.V_mono (ok' := fun k_ => some k_ ≠ (.slice Ao31 t489.length co31 : Value).ownBlock) ho0 (fun k_ hk_ => Or.elim hk_ (fun hs_ => Or.elim hs_ (fun hs_ => hs_) (fun hs_ => fun e_ => Nat.not_le.2 hs_ (Kd.R_base HO491.out k_ e_.symm))) (fun hn_ => (Kd.fresh' (Kd.R_lt (rX HO491.out)) k_ hn_)))) (below_size bX)); have n5_ := ak (below_step bX hb); clear HO_5; clear HO488; clear HO491; clear HO494; clear HB; have HO_5 := n0_; have HO488 := n1_; have HO491 := n2_; have HO494 := n3_; have HO497 := n4_; have HB := n5_; clear n0_ n1_ n2_ n3_ n4_ n5_; (try clear hb); (try clear hb2); (try clear hk); (try clear hi); (try clear ho0); obtain ⟨Ao35, co35, eo35⟩ := Kd.V_slice HO497.out; subst eo35))
           go_ret
           exact ⟨by first | rfl | (simp [errW_none, errW_some] <;> rfl) | (simp [*, errW_none, errW_some] <;> rfl), by repeat (first | (with_reducible first | exact HB.out | apply bA | apply bB | apply bC) | exact HB.out)⟩
      · rw [if_neg c9] at H
        have c9b0 : decide ((wrap64 (2 * x6_1)) ≤ (wrap64 ((l1.length : Int) - 1))) = false := decide_eq_false c9
        clear c9
        as_aux_lemma =>
         obtain rfl := Option.some.inj H
         go_wp2
         go_ret
         exact ⟨by first | rfl | (simp [errW_none, errW_some] <;> rfl) | (simp [*, errW_none, errW_some] <;> rfl), by repeat (first | (with_reducible first | exact HB.out | apply bA | apply bB | apply bC) | exact HB.out)⟩

/-! ### galoislaw09_PolymodPrimes: function 3 -/
def galoislaw09_PolymodPrimes.j0 : Nat → Int → List Int → Bool → Option (Bool)
 | 0, _, _, _ => none
 | k + 1, x0, x1, x13 => if x13 = true then ((galoislaw09_awake.f k).bind fun t499 => (some t499)) else ((polymod_IsIrreducible.f k x0 x1).bind fun bt500 => ((galoisref09_Check.f k x0 x1).bind fun t502 => (if t502 = 0 then ((galoisref09_IsIrreducible.f k x0 x1).bind fun t503 => (if (bt500.1 == t503) = true then (some (bt500.2 == 0)) else (some false))) else (if bt500.1 = true then (some false) else ((galoisref09_Check.f k x0 x1).bind fun t504 => (some (bt500.2 == t504)))))))
def galoislaw09_PolymodPrimes.f (k : Nat) (a0 : Int) (l1 : List Int) : Option (Bool) := (galoislaw09_awake.f k).bind fun t498 => (if t498 = true then (galoislaw09_PolymodPrimes.j0 k a0 l1 (decide ((l1.length : Int) > 20))) else (galoislaw09_PolymodPrimes.j0 k a0 l1 true))
theorem galoislaw09_PolymodPrimes.mono_l : ∀ k, (∀ y0 y1 y2, LeO (galoislaw09_PolymodPrimes.j0 k y0 y1 y2) (galoislaw09_PolymodPrimes.j0 (k + 1) y0 y1 y2))
 | 0 => fun _ _ _ r h => by simp [galoislaw09_PolymodPrimes.j0] at h
 | k + 1 => by
   have ih0 := galoislaw09_PolymodPrimes.mono_l k
   · intro y0 y1 y2
     unfold galoislaw09_PolymodPrimes.j0
     repeat' first
     | (with_reducible apply ih0)
     | (with_reducible apply galoislaw09_awake.mono)
     | (with_reducible apply galoisref09_Check.mono)
     | (with_reducible apply galoisref09_IsIrreducible.mono)
     | (with_reducible apply polymod_IsIrreducible.mono)
     | (with_reducible apply LeO.refl)
     | (with_reducible apply LeO.none)
     | (with_reducible refine LeO.ite ?_ ?_)
     | (with_reducible refine LeO.bind ?_ (fun _ => ?_))
theorem galoislaw09_PolymodPrimes.mono : ∀ a0 a1 k, LeO (galoislaw09_PolymodPrimes.f k a0 a1) (galoislaw09_PolymodPrimes.f (k + 1) a0 a1) := by
 intro a0 a1 k
 have ih0 := galoislaw09_PolymodPrimes.mono_l k
 unfold galoislaw09_PolymodPrimes.f
 repeat' first
  | (with_reducible apply ih0)
  | (with_reducible apply galoislaw09_awake.mono)
  | (with_reducible apply galoisref09_Check.mono)
  | (with_reducible apply galoisref09_IsIrreducible.mono)
  | (with_reducible apply polymod_IsIrreducible.mono)
  | (with_reducible apply LeO.refl)
  | (with_reducible apply LeO.none)
  | (with_reducible refine LeO.ite ?_ ?_)
  | (with_reducible refine LeO.bind ?_ (fun _ => ?_))
set_option maxHeartbeats 8000000 in
set_option maxRecDepth 100000 in
theorem galoislaw09_PolymodPrimes.calls (k : Nat) (a0 : Int) (A1 : Option Addr) (c1 : Nat) (l1 : List Int) (r : Bool) (w : World) (hr1 : Kd.C (Kd.int .i64) w A1 l1.length l1) (hc1 : l1.length ≤ c1) (h : galoislaw09_PolymodPrimes.f k a0 l1 = some r) :
 Calls Try.prog 3 #[.int .i64 a0, .slice A1 l1.length c1] w fun e w' => e = .returned (.bool r) ∧ Below w.heap.size w w' := by
 have HR1 := ak hr1
 have HC1 := ak hc1
 clear hr1 hc1
 have HB := ak (Below.refl w.heap.size w)
 have H : ((galoislaw09_awake.f k).bind fun t498 => (if t498 = true then (galoislaw09_PolymodPrimes.j0 k a0 l1 (decide ((l1.length : Int) > 20))) else (galoislaw09_PolymodPrimes.j0 k a0 l1 true))) = some r := h
 clear h
 have HC3 := ak H
 clear H
 go_enter Try.func3, Try.ntmps3
 go_upto_region 1 with (fail)
 go_cut [13] (fun v13 wc => ∃ (kq : Nat) (x13_2 : Bool), v13 = .bool x13_2 ∧ Aside0 (galoislaw09_PolymodPrimes.j0 kq a0 l1 x13_2 = some r) ∧ Aside0 (kq ≤ k) ∧ Aside0 (Below w.heap.size w wc))
 case first =>
  have H := HC3.out
  clear HC3
  replace H := Option.bind_eq_some_iff.mp H
  obtain ⟨t498, A40, H⟩ := H
  replace H : (if t498 = true then (galoislaw09_PolymodPrimes.j0 k a0 l1 (decide ((l1.length : Int) > 20))) else (galoislaw09_PolymodPrimes.j0 k a0 l1 true)) = some r := H
  have A4 := ak A40
  clear A40
  by_cases c5 : t498 = true
  · subst c5
    have H1 : (galoislaw09_PolymodPrimes.j0 k a0 l1 (decide ((l1.length : Int) > 20))) = some r := by rw [if_pos rfl] at H; exact H
    clear H
    have H := H1
    clear H1
    as_aux_lemma =>
     have H' := ak H
     clear H
     go_wp2_with (first | ((with_reducible refine gate_callee (f := 13) rfl ?_); refine goesL_ (some 7) rfl rfl Try.func13 (by kernel_rfl) rfl #[] rfl mX ?_; (with_reducible refine (galoislaw09_awake.calls k  true _ A4.out).mono ?_); rintro e w6 ⟨rfl, hb⟩; refine ⟨_, rfl, ?_⟩; have n0_ := ak (below_step bX hb); clear HB; have HB := n0_; clear n0_; (try clear hb); (try clear hb2); (try clear hk); (try clear hi)))
     go_meet
     case rel => exact ⟨_, (decide ((l1.length : Int) > 20)), (by first | rfl | (simp; done) | (simp [*]; done)), H', ⟨by first | omega | exact Nat.le_refl _⟩, ⟨by repeat (first | (with_reducible first | exact HB.out | apply bA | apply bB | apply bC) | exact HB.out)⟩⟩
  · replace c5 := Bool.eq_false_iff.mpr c5
    subst c5
    have H1 : (galoislaw09_PolymodPrimes.j0 k a0 l1 true) = some r := by rw [if_neg (show ¬ (false = true) by decide)] at H; exact H
    clear H
    have H := H1
    clear H1
    as_aux_lemma =>
     have H' := ak H
     clear H
     go_wp2_with (first | ((with_reducible refine gate_callee (f := 13) rfl ?_); refine goesL_ (some 7) rfl rfl Try.func13 (by kernel_rfl) rfl #[] rfl mX ?_; (with_reducible refine (galoislaw09_awake.calls k  false _ A4.out).mono ?_); rintro e w7 ⟨rfl, hb⟩; refine ⟨_, rfl, ?_⟩; have n0_ := ak (below_step bX hb); clear HB; have HB := n0_; clear n0_; (try clear hb); (try clear hb2); (try clear hk); (try clear hi)))
     go_meet
     case rel => exact ⟨_, (true), (by first | rfl | (simp; done) | (simp [*]; done)), H', ⟨by first | omega | exact Nat.le_refl _⟩, ⟨by repeat (first | (with_reducible first | exact HB.out | apply bA | apply bB | apply bC) | exact HB.out)⟩⟩
 case rest =>
  clear HC3
  try clear c1
  try clear p2
  try clear c3
  try clear c5
  obtain ⟨kq, x13_2, rfl, HA, HJ2, HB⟩ := hcut
  cases kq with
  | zero => exact absurd HA.out (by simp [galoislaw09_PolymodPrimes.j0])
  | succ kj2 =>
    have H := HA.out
    clear HA
    simp only [galoislaw09_PolymodPrimes.j0] at H
    by_cases c8 : x13_2 = true
    · subst c8
      have H1 : ((galoislaw09_awake.f kj2).bind fun t499 => (some t499)) = some r := by rw [if_pos rfl] at H; exact H
      clear H
      have H := H1
      clear H1
      replace H := Option.bind_eq_some_iff.mp H
      obtain ⟨t499, A90, H⟩ := H
      replace H : (some t499) = some r := H
      have A9 := ak A90
      clear A90
      as_aux_lemma =>
       obtain rfl := Option.some.inj H
       go_wp2_with (first | ((with_reducible refine gate_callee (f := 13) rfl ?_); refine goesL_ (some 14) rfl rfl Try.func13 (by kernel_rfl) rfl #[] rfl mX ?_; (with_reducible refine (galoislaw09_awake.calls kj2  t499 _ A9.out).mono ?_); rintro e w10 ⟨rfl, hb⟩; refine ⟨_, rfl, ?_⟩; have n0_ := ak (below_step bX hb); clear HB; have HB := n0_; clear n0_; (try clear hb); (try clear hb2); (try clear hk); (try clear hi)))
       go_ret
       exact ⟨by first | rfl | (simp [errW_none, errW_some] <;> rfl) | (simp [*, errW_none, errW_some] <;> rfl), by repeat (first | (with_reducible first | exact HB.out | apply bA | apply bB | apply bC) | exact HB.out)⟩
    · replace c8 := Bool.eq_false_iff.mpr c8
      subst c8
      have H1 : ((polymod_IsIrreducible.f kj2 a0 l1).bind fun bt500 => ((galoisref09_Check.f kj2 a0 l1).bind fun t502 => (if t502 = 0 then ((galoisref09_IsIrreducible.f kj2 a0 l1).bind fun t503 => (if (bt500.1 == t503) = true then (some (bt500.2 == 0)) else (some false))) else (if bt500.1 = true then (some false) else ((galoisref09_Check.f kj2 a0 l1).bind fun t504 => (some (bt500.2 == t504))))))) = some r := by rw [if_neg (show ¬ (false = true) by decide)] at H; exact H
      clear H
      have H := H1
      clear H1
      replace H := Option.bind_eq_some_iff.mp H
      obtain ⟨⟨t500, t501⟩, A110, H⟩ := H
      replace H : ((galoisref09_Check.f kj2 a0 l1).bind fun t502 => (if t502 = 0 then ((galoisref09_IsIrreducible.f kj2 a0 l1).bind fun t503 => (if (t500 == t503) = true then (some (t501 == 0)) else (some false))) else (if t500 = true then (some false) else ((galoisref09_Check.f kj2 a0 l1).bind fun t504 => (some (t501 == t504)))))) = some r := H
      have A11 := ak A110
      clear A110
      replace H := Option.bind_eq_some_iff.mp H
      obtain ⟨t502, A120, H⟩ := H
      replace H : (if t502 = 0 then ((galoisref09_IsIrreducible.f kj2 a0 l1).bind fun t503 => (if (t500 == t503) = true then (some (t501 == 0)) else (some false))) else (if t500 = true then (some false) else ((galoisref09_Check.f kj2 a0 l1).bind fun t504 => (some (t501 == t504))))) = some r := H
      have A12 := ak A120
      clear A120
      by_cases c13 : t502 = 0
      · rw [if_pos c13] at H
        have c13b0 : (t502 == 0) = true := beq_iff_eq.mpr c13
        have c13b1 : (t502 != 0) = false := bne_eq_false_iff_eq.mpr c13
        clear c13
        replace H := Option.bind_eq_some_iff.mp H
        obtain ⟨t503, A140, H⟩ := H
        replace H : (if (t500 == t503) = true then (some (t501 == 0)) else (some false)) = some r := H
        have A14 := ak A140
        clear A140
        by_cases c15 : (t500 == t503) = true
        · rw [if_pos c15] at H
          have c15b0 : (t500 == t503) = true := c15
          (try (have c15b1 : decide (t500 = t503) = true := by simpa using c15))
          (try (have c15b2 : (t500 == t503) = true := by simpa using c15))
          clear c15
          as_aux_lemma =>
           obtain rfl := Option.some.inj H
           go_wp2_with (first | ((with_reducible refine gate_callee (f := 14) rfl ?_); refine goesL_ (some 18) rfl rfl Try.func14 (by kernel_rfl) rfl #[.int .i64 a0, .slice A1 l1.length c1] rfl mX ?_; (with_reducible refine (polymod_IsIrreducible.calls kj2 a0 (fun k_ => k_ < w.heap.size) _ _ l1 t500 t501 _ ?side1 A11.out).mono ?_); (case side1 => exact Kd.V_mk HC1.out (Kd.F_below (Kd.C_F (Kd.heap_int .i64) HR1.out) bX)); rintro e w16 ⟨rfl, hb⟩; refine ⟨_, rfl, ?_⟩; have n0_ := ak (below_step bX hb); clear HB; have HB := n0_; clear n0_; (try clear hb); (try clear hb2); (try clear hk); (try clear hi)) | ((with_reducible refine gate_callee (f := 15) rfl ?_); refine goesL_ (some 23) rfl rfl Try.func15 (by kernel_rfl) rfl #[.int .i64 a0, .slice A1 l1.length c1] rfl mX ?_; (with_reducible refine (galoisref09_Check.calls kj2 a0 _ _ l1 t502 _ ?side1 ?side2 A12.out).mono ?_); (case side1 => exact cX (Kd.C_below HR1.out HB.out)); (case side2 => exact HC1.out); rintro e w' ⟨rfl, ⟨nd, rfl⟩⟩; refine ⟨_, rfl, ?_⟩) | ((with_reducible refine gate_callee (f := 16) rfl ?_); refine goesL_ (some 37) rfl rfl Try.func16 (by kernel_rfl) rfl #[.int .i64 a0, .slice A1 l1.length c1] rfl mX ?_; (with_reducible refine (galoisref09_IsIrreducible.calls kj2 a0 _ _ l1 t503 _ ?side1 ?side2 A14.out).mono ?_); (case side1 => exact cX (Kd.C_below HR1.out bX)); (case side2 => exact HC1.out); rintro e w17 ⟨rfl, hb⟩; refine ⟨_, rfl, ?_⟩; have n0_ := ak (below_step bX hb); clear HB; have HB := n0_; clear n0_; (try clear hb); (try clear hb2); (try clear hk); (try clear hi)))
           go_ret
           exact ⟨by first | rfl | (simp [errW_none, errW_some] <;> rfl) | (simp [*, errW_none, errW_some] <;> rfl), by repeat (first | (with_reducible first | exact HB.out | apply bA | apply bB | apply bC) | exact HB.out)⟩
        · rw [if_neg c15] at H
          have c15b0 : (t500 == t503) = false := by simpa using c15
          (try (have c15b1 : decide (t500 = t503) = false := by simpa using c15))
          (try (have c15b2 : (t500 == t503) = false := by simpa using c15))
          (try (have c15b3 : ¬ (t500 = t503) := by simpa using c15))
          clear c15
          as_aux_lemma =>
           obtain rfl := Option.some.inj H
           go_wp2_with (first | ((with_reducible refine gate_callee (f := 14) rfl ?_); refine goesL_ (some 18) rfl rfl Try.func14 (by kernel_rfl) rfl #[.int .i64 a0, .slice A1 l1.length c1] rfl mX ?_; (with_reducible refine (polymod_IsIrreducible.calls kj2 a0 (fun k_ => k_ < w.heap.size) _ _ l1 t500 t501 _ ?side1 A11.out).mono ?_); (case side1 => exact Kd.V_mk HC1.out (Kd.F_below (Kd.C_F (Kd.heap_int .i64) HR1.out) bX)); rintro e w18 ⟨rfl, hb⟩; refine ⟨_, rfl, ?_⟩; have n0_ := ak (below_step bX hb); clear HB; have HB := n0_; clear n0_; (try clear hb); (try clear hb2); (try clear hk); (try clear hi)) | ((with_reducible refine gate_callee (f := 15) rfl ?_); refine goesL_ (some 23) rfl rfl Try.func15 (by kernel_rfl) rfl #[.int .i64 a0, .slice A1 l1.length c1] rfl mX ?_; (with_reducible refine (galoisref09_Check.calls kj2 a0 _ _ l1 t502 _ ?side1 ?side2 A12.out).mono ?_); (case side1 => exact cX (Kd.C_below HR1.out HB.out)); (case side2 => exact HC1.out); rintro e w' ⟨rfl, ⟨nd, rfl⟩⟩; refine ⟨_, rfl, ?_⟩) | ((with_reducible refine gate_callee (f := 16) rfl ?_); refine goesL_ (some 37) rfl rfl Try.func16 (by kernel_rfl) rfl #[.int .i64 a0, .slice A1 l1.length c1] rfl mX ?_; (with_reducible refine (galoisref09_IsIrreducible.calls kj2 a0 _ _ l1 t503 _ ?side1 ?side2 A14.out).mono ?_); (case side1 => exact cX (Kd.C_below HR1.out bX)); (case side2 => exact HC1.out); rintro e w19 ⟨rfl, hb⟩; refine ⟨_, rfl, ?_⟩; have n0_ := ak (below_step bX hb); clear HB; have HB := n0_; clear n0_; (try clear hb); (try clear hb2); (try clear hk); (try clear hi)))
           go_ret
           exact ⟨by first | rfl | (simp [errW_none, errW_some] <;> rfl) | (simp [*, errW_none, errW_some] <;> rfl), by repeat (first | (with_reducible first | exact HB.out | apply bA | apply bB | apply bC) | exact HB.out)⟩
      · rw [if_neg c13] at H
        have c13b0 : (t502 == 0) = false := beq_eq_false_iff_ne.mpr c13
        have c13b1 : (t502 != 0) = true := bne_iff_ne.mpr c13
        by_cases c20 : t500 = true
        · subst c20
          have H1 : (some false) = some r := by rw [if_pos rfl] at H; exact H
          clear H
          have H := H1
          clear H1
          as_aux_lemma =>
           obtain rfl := Option.some.inj H
           go_wp2_with (first | ((with_reducible refine gate_callee (f := 14) rfl ?_); refine goesL_ (some 18) rfl rfl Try.func14 (by kernel_rfl) rfl #[.int .i64 a0, .slice A1 l1.length c1] rfl mX ?_; (with_reducible refine (polymod_IsIrreducible.calls kj2 a0 (fun k_ => k_ < w.heap.size) _ _ l1 true t501 _ ?side1 A11.out).mono ?_); (case side1 => exact Kd.V_mk HC1.out (Kd.F_below (Kd.C_F (Kd.heap_int .i64) HR1.out) bX)); rintro e w21 ⟨rfl, hb⟩; refine ⟨_, rfl, ?_⟩; have n0_ := ak (below_step bX hb); clear HB; have HB := n0_; clear n0_; (try clear hb); (try clear hb2); (try clear hk); (try clear hi)) | ((with_reducible refine gate_callee (f := 15) rfl ?_); refine goesL_ (some 23) rfl rfl Try.func15 (by kernel_rfl) rfl #[.int .i64 a0, .slice A1 l1.length c1] rfl mX ?_; (with_reducible refine (galoisref09_Check.calls kj2 a0 _ _ l1 t502 _ ?side1 ?side2 A12.out).mono ?_); (case side1 => exact cX (Kd.C_below HR1.out HB.out)); (case side2 => exact HC1.out); rintro e w' ⟨rfl, ⟨nd, rfl⟩⟩; refine ⟨_, rfl, ?_⟩))
           go_ret
           exact ⟨by first | rfl | (simp [errW_none, errW_some] <;> rfl) | (simp [*, errW_none, errW_some] <;> rfl), by repeat (first | (with_reducible first | exact HB.out | apply bA | apply bB | apply bC) | exact HB.out)⟩
        · replace c20 := Bool.eq_false_iff.mpr c20
          subst c20
          have H1 : ((galoisref09_Check.f kj2 a0 l1).bind fun t504 => (some (t501 == t504))) = some r := by rw [if_neg (show ¬ (false = true) by decide)] at H; exact H
          clear H
          have H := H1
          clear H1
          replace H := Option.bind_eq_some_iff.mp H
          obtain ⟨t504, A220, H⟩ := H
          replace H : (some (t501 == t504)) = some r := H
          have A22 := ak A220
          clear A220
          as_aux_lemma =>
           obtain rfl := Option.some.inj H
           go_wp2_with (first | ((with_reducible refine gate_callee (f := 14) rfl ?_); refine goesL_ (some 18) rfl rfl Try.func14 (by kernel_rfl) rfl #[.int .i64 a0, .slice A1 l1.length c1] rfl mX ?_; (with_reducible refine (polymod_IsIrreducible.calls kj2 a0 (fun k_ => k_ < w.heap.size) _ _ l1 false t501 _ ?side1 A11.out).mono ?_); (case side1 => exact Kd.V_mk HC1.out (Kd.F_below (Kd.C_F (Kd.heap_int .i64) HR1.out) bX)); rintro e w23 ⟨rfl, hb⟩; refine ⟨_, rfl, ?_⟩; have n0_ := ak (below_step bX hb); clear HB; have HB := n0_; clear n0_; (try clear hb); (try clear hb2); (try clear hk); (try clear hi)) | ((with_reducible refine gate_callee (f := 15) rfl ?_); refine goesL_ (some 23) rfl rfl Try.func15 (by kernel_rfl) rfl #[.int .i64 a0, .slice A1 l1.length c1] rfl mX ?_; (with_reducible refine (galoisref09_Check.calls kj2 a0 _ _ l1 t502 _ ?side1 ?side2 A12.out).mono ?_); (case side1 => exact cX (Kd.C_below HR1.out HB.out)); (case side2 => exact HC1.out); rintro e w' ⟨rfl, ⟨nd, rfl⟩⟩; refine ⟨_, rfl, ?_⟩) | (go_at_call 15; (with_reducible refine (galoisref09_Check.calls kj2 a0 _ _ l1 t504 _ ?side1 ?side2 A22.out).mono ?_); (case side1 => exact cX (Kd.C_below HR1.out bX)); (case side2 => exact HC1.out); rintro e w' ⟨rfl, ⟨nd, rfl⟩⟩))
           go_ret
           exact ⟨by first | rfl | (simp [errW_none, errW_some] <;> rfl) | (simp [*, errW_none, errW_some] <;> rfl), by repeat (first | (with_reducible first | exact HB.out | apply bA | apply bB | apply bC) | exact HB.out)⟩

/-- THE ONE PURE STATEMENT of galoislaw09_PolymodPrimes: yours. -/
def galoislaw09_PolymodPrimes.Pure : Prop := ∀ (a0 : Int) (l1 : List Int), (Lit.int .i64 a0).wf = true → l1.length ≤ maxLen → l1.length * 8 ≤ 140737488351232 → (∀ x ∈ l1, (Lit.int .i64 x).wf = true) → ∃ k, galoislaw09_PolymodPrimes.f k a0 l1 = some true
theorem galoislaw09_PolymodPrimes.walk (P : galoislaw09_PolymodPrimes.Pure) (a0 : Int) (a1 : Option Addr) (len1 cap1 : Nat) (z1 : List Int) (w : World) (w0 : (Lit.int .i64 a0).wf = true) (w1 : (a1 = none ∧ len1 = 0 ∧ cap1 = 0 ∧ z1 = []) ∨ ∃ x, a1 = some x ∧ len1 ≤ cap1 ∧ cap1 ≤ maxLen ∧ z1.length = cap1 ∧ (∀ i, i < z1.length → w.cell? (x.add i) = some (.int .i64 (z1.getD i 0))) ∧ ∀ n ∈ z1, (Lit.int .i64 n).wf = true) (y1 : len1 * 8 ≤ 140737488351232) :
 Calls Try.prog 3 #[.int .i64 a0, .slice a1 len1 cap1] w fun e w' => e = .returned (.bool true) ∧ Below w.heap.size w w' := by
 obtain ⟨l1, rfl, hr1, hm1, hw1, hc1⟩ := ReadsInt.ofRowC w1
 obtain ⟨k, h⟩ := P a0 l1 w0 hm1 y1 hw1
 refine (galoislaw09_PolymodPrimes.calls k a0 _ _ l1 true w (Kd.C_of_reads (d := (0 : Int)) (h1 := fun _ => rfl) hr1) hc1 h).mono ?_
 rintro e w' ⟨rfl, hd⟩
 exact ⟨rfl, hd⟩

end Go.Proofs.Ytmknclgamadphaa.PPolymodPrimes
