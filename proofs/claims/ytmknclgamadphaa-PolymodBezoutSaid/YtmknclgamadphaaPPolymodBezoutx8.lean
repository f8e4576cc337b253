-- WRITTEN BY sprint.py (a program of this repo, over the kit's print.py): nothing here is trusted, Lean checks it.
import Derived.Test.YtmknclgamadphaaPPolymodBezoutx0
import Derived.Test.YtmknclgamadphaaPPolymodBezoutx1
import Derived.Test.YtmknclgamadphaaPPolymodBezoutx5
import Derived.Test.YtmknclgamadphaaPPolymodBezoutx6
import Derived.Test.YtmknclgamadphaaPPolymodBezoutx7
namespace Go.Proofs.Ytmknclgamadphaa.PPolymodBezout
open Go.RowKit Go.Proofs.YtmknclgamadphaaW.PrintWords Go.Proofs.YtmknclgamadphaaW.PrintLast Go.Proofs.YtmknclgamadphaaW.PrintMore
attribute [local go_sem] max2_int min2_int max_two min_two max_three min_three max_four min_four   -- for this text's walks alone
set_option linter.unusedVariables false
set_option linter.unusedSimpArgs false

/-! ### polymod_Add: function 36 -/
def polymod_Add.f (k : Nat) (a0 : Int) (l1 : List Int) (l2 : List Int) : Option (List Int × Int) := (polymod_first.f k a0 (([l1, l2] : List (List Int)))).bind fun t440 => (if t440 = 0 then ((fp_Add.f k a0 l1 l2).bind fun t441 => (some (t441, 0))) else (some (([] : List Int), t440)))
theorem polymod_Add.mono : ∀ a0 a1 a2 k, LeO (polymod_Add.f k a0 a1 a2) (polymod_Add.f (k + 1) a0 a1 a2) := by
 intro a0 a1 a2 k
 unfold polymod_Add.f
 repeat' first
  | (with_reducible apply fp_Add.mono)
  | (with_reducible apply polymod_first.mono)
  | (with_reducible apply LeO.refl)
  | (with_reducible apply LeO.none)
  | (with_reducible refine LeO.ite ?_ ?_)
  | (with_reducible refine LeO.bind ?_ (fun _ => ?_))
set_option maxHeartbeats 8000000 in
set_option maxRecDepth 100000 in
theorem polymod_Add.calls (k : Nat) (a0 : Int) (P1_ : Nat → Prop) (A1 : Option Addr) (c1 : Nat) (l1 : List Int) (P2_ : Nat → Prop) (A2 : Option Addr) (c2 : Nat) (l2 : List Int) (r1 : List Int) (r2 : Int) (w : World) (hs1 : Kd.V (Kd.int .i64) 3 w w.heap.size (fun k_ => P1_ k_) (.slice A1 l1.length c1) l1) (hs2 : Kd.V (Kd.int .i64) 3 w w.heap.size (fun k_ => P2_ k_) (.slice A2 l2.length c2) l2) (h : polymod_Add.f k a0 l1 l2 = some (r1, r2)) :
 Calls Try.prog 36 #[.int .i64 a0, .slice A1 l1.length c1, .slice A2 l2.length c2] w fun e w' => ∃ v0_ : Value, e = .returned (.tuple #[v0_, .int .i64 r2]) ∧ Kd.V (Kd.int .i64) 3 w' w.heap.size (fun k_ => ((P1_ k_ ∨ P2_ k_) ∨ w.heap.size ≤ k_)) v0_ r1 ∧ Below w.heap.size w w' := by
 have HO1 := Aside0.mk (show Kd.V (Kd.int .i64) 3 w w.heap.size (fun k_ => ((P1_ k_ ∨ P2_ k_) ∨ w.heap.size ≤ k_)) (.slice A1 l1.length c1) l1 from Kd.V_mono hs1 (fun k_ hk => .inl (.inl hk)))
 have HO2 := Aside0.mk (show Kd.V (Kd.int .i64) 3 w w.heap.size (fun k_ => ((P1_ k_ ∨ P2_ k_) ∨ w.heap.size ≤ k_)) (.slice A2 l2.length c2) l2 from Kd.V_mono hs2 (fun k_ hk => .inl (.inr hk)))
 have HB := Aside0.mk (Below.refl w.heap.size w)
 have H : ((polymod_first.f k a0 (([l1, l2] : List (List Int)))).bind fun t440 => (if t440 = 0 then ((fp_Add.f k a0 l1 l2).bind fun t441 => (some (t441, 0))) else (some (([] : List Int), t440)))) = some (r1, r2) := h
 clear h
 obtain ⟨y437, hy437⟩ : ∃ y_ : List (List Int), y_ = (([l1, l2] : List (List Int))) := ⟨_, rfl⟩
 replace H : ((polymod_first.f k a0 y437).bind fun t440 => (if t440 = 0 then ((fp_Add.f k a0 l1 l2).bind fun t441 => (some (t441, 0))) else (some (([] : List Int), t440)))) = some (r1, r2) := by first | (rw [hy437]; with_reducible exact H) | (have H2_ := (Option.bind_some _ _).symm.trans H; rw [hy437]; with_reducible exact H2_) | (have H2_ := (Option.bind_some _ _).symm.trans H; with_reducible exact H2_) | with_reducible exact H | (rw [hy437]; exact H) | exact H
 have Ny437 := Aside0.mk hy437
 clear hy437
 replace H := Option.bind_eq_some_iff.mp H
 obtain ⟨t440, A40, H⟩ := H
 replace H : (if t440 = 0 then ((fp_Add.f k a0 l1 l2).bind fun t441 => (some (t441, 0))) else (some (([] : List Int), t440))) = some (r1, r2) := H
 have A4 := Aside0.mk A40
 clear A40
 by_cases c5 : t440 = 0
 · rw [if_pos c5] at H
   have c5b0 : (t440 == 0) = true := beq_iff_eq.mpr c5
   have c5b1 : (t440 != 0) = false := bne_eq_false_iff_eq.mpr c5
   clear c5
   replace H := Option.bind_eq_some_iff.mp H
   obtain ⟨t441, A60, H⟩ := H
   replace H : (some (t441, 0)) = some (r1, r2) := H
   have A6 := Aside0.mk A60
   clear A60
   simp only [Option.some.injEq, Prod.mk.injEq] at H
   obtain ⟨rfl, rfl⟩ := H
   go_enter Try.func36, Try.ntmps36
   go_wp2_with (first | ((with_reducible refine gate_dst (N := 12) rfl ?_); refine Kd.N_lit (Kd.slice 3 (Kd.int .i64)) _ 23 ?hg (N' := 12) ?hd (xs := ([l1, l2] : List (List Int))) (inner := [.slice A1 l1.length c1, .slice A2 l2.length c2]) (ok := (fun k_ => ((P1_ k_ ∨ P2_ k_) ∨ w.heap.size ≤ k_))) (okp := (fun k_ => ((P1_ k_ ∨ P2_ k_) ∨ w.heap.size ≤ k_))) ?hr ?hp (fun _ hk => hk) ((show ∀ k_, w.heap.size ≤ k_ → (fun k_ => ((P1_ k_ ∨ P2_ k_) ∨ w.heap.size ≤ k_)) k_ from fun k_ hk => (.inr (Nat.le_trans (below_size (by with_reducible repeat (first | exact HB.out | apply bA | apply bB | apply bC))) hk))) _ (Nat.le_refl _)) (Below.refl _ _) (Nat.le_refl _) (by simp) ?_; (case hd => rfl); (case hg => rfl); (case hr => first | (go_simp; done) | (go_simp; rfl)); (case hp => exact (Reps.one (show Kd.FK (Kd.slice 3 (Kd.int .i64)) _ _ l1 [.slice A1 l1.length c1] from (Kd.FK_slice_mk (Kd.V_reads' (Kd.V_mono (ok' := (fun k_ => ((P1_ k_ ∨ P2_ k_) ∨ w.heap.size ≤ k_))) (HO1.out) (fun k_ hk => hk))).2.1 (Kd.V_F (Kd.V_mono (ok' := (fun k_ => ((P1_ k_ ∨ P2_ k_) ∨ w.heap.size ≤ k_))) (HO1.out) (fun k_ hk => hk))))) (Reps.one (show Kd.FK (Kd.slice 3 (Kd.int .i64)) _ _ l2 [.slice A2 l2.length c2] from (Kd.FK_slice_mk (Kd.V_reads' (Kd.V_mono (ok' := (fun k_ => ((P1_ k_ ∨ P2_ k_) ∨ w.heap.size ≤ k_))) (HO2.out) (fun k_ hk => hk))).2.1 (Kd.V_F (Kd.V_mono (ok' := (fun k_ => ((P1_ k_ ∨ P2_ k_) ∨ w.heap.size ≤ k_))) (HO2.out) (fun k_ hk => hk))))) (Reps.none _ _)))); intro v438 w7 ho8 hb hg_ hnew_; clear hg_ hnew_; (first | rw [← Ny437.out] at ho8 | (simp only [Int.reduceToNat] at ho8; rw [← Ny437.out] at ho8)); have n0_ := Aside0.mk (Kd.V_elder' (by (with_reducible repeat (first | apply vA | apply vB | apply vC)); exact HO1.out) (Kd.N_base ho8) hb); have n1_ := Aside0.mk (Kd.V_elder' (by (with_reducible repeat (first | apply vA | apply vB | apply vC)); exact HO2.out) (Kd.N_base ho8) hb); have n2_ := Aside0.mk (Kd.N_lower ho8 (below_size (by with_reducible repeat (first | exact HB.out | apply bA | apply bB | apply bC)))); have n3_ := Aside0.mk (below_step (by with_reducible repeat (first | exact HB.out | apply bA | apply bB | apply bC)) hb); clear HO1; clear HO2; clear HB; have HO1 := n0_; have HO2 := n1_; have HO439 := n2_; have HB := n3_; clear n0_ n1_ n2_ n3_; clear hb ho8; obtain ⟨Ao9, co9, eo9⟩ := Kd.N_slice HO439.out; subst eo9) | ((with_reducible refine gate_callee (f := 60) rfl ?_); refine goesL_ (some 13) rfl rfl Try.func60 (by kernel_rfl) rfl #[.int .i64 a0, .slice Ao9 y437.length co9] rfl (by (try simp only [mA, mB, mC]); first | done | rfl | (simp only [lD, lT]; rfl)) ?_; (with_reducible refine (polymod_first.calls k a0 _ _ y437 t440 _ ?side1 ?side2 A4.out).mono ?_); (case side1 => repeat (first | exact (Kd.N_reads' HO439.out).2.2 | (with_reducible refine Kd.C_alloc ?_ _) | (with_reducible refine Kd.C_drewN ?_ _) | (with_reducible refine Kd.C_drew ?_))); (case side2 => exact (Kd.N_reads' HO439.out).2.1); rintro e w10 ⟨rfl, hb⟩; refine ⟨_, rfl, ?_⟩; have n0_ := Aside0.mk (Kd.V_below (by (with_reducible repeat (first | apply vA | apply vB | apply vC)); exact HO1.out) hb); have n1_ := Aside0.mk (Kd.V_below (by (with_reducible repeat (first | apply vA | apply vB | apply vC)); exact HO2.out) hb); have n2_ := Aside0.mk (Kd.N_below (by (with_reducible repeat (first | apply Kd.N_alloc | apply Kd.N_drewN | apply Kd.N_drew)); exact HO439.out) hb); have n3_ := Aside0.mk (below_step (by with_reducible repeat (first | exact HB.out | apply bA | apply bB | apply bC)) hb); clear HO1; clear HO2; clear HO439; clear HB; have HO1 := n0_; have HO2 := n1_; have HO439 := n2_; have HB := n3_; clear n0_ n1_ n2_ n3_; (try clear hb); (try clear hb2); (try clear hk); (try clear hi)) | ((with_reducible refine gate_callee (f := 85) rfl ?_); refine goesL_ (some 20) rfl rfl Try.func85 (by kernel_rfl) rfl #[.int .i64 a0, .slice A1 l1.length c1, .slice A2 l2.length c2] rfl (by (try simp only [mA, mB, mC]); first | done | rfl | (simp only [lD, lT]; rfl)) ?_; (with_reducible refine (fp_Add.calls k a0 _ _ l1 _ _ l2 t441 _ ?side1 ?side2 ?side3 ?side4 A6.out).mono ?_); (case side1 => repeat (first | exact (Kd.V_reads' HO1.out).2.2 | (with_reducible refine Kd.C_alloc ?_ _) | (with_reducible refine Kd.C_drewN ?_ _) | (with_reducible refine Kd.C_drew ?_))); (case side2 => exact (Kd.V_reads' HO1.out).2.1); (case side3 => repeat (first | exact (Kd.V_reads' HO2.out).2.2 | (with_reducible refine Kd.C_alloc ?_ _) | (with_reducible refine Kd.C_drewN ?_ _) | (with_reducible refine Kd.C_drew ?_))); (case side4 => exact (Kd.V_reads' HO2.out).2.1); rintro e w11 ⟨v442, rfl, ho0, hb⟩; refine ⟨_, rfl, ?_⟩; have n0_ := Aside0.mk (Kd.V_below (by (with_reducible repeat (first | apply vA | apply vB | apply vC)); exact HO1.out) hb); have n1_ := Aside0.mk (Kd.V_below (by (with_reducible repeat (first | apply vA | apply vB | apply vC)); exact HO2.out) hb); have n2_ := Aside0.mk (Kd.N_below (by (with_reducible repeat (first | apply Kd.N_alloc | apply Kd.N_drewN | apply Kd.N_drew)); exact HO439.out) hb); have n3_ := Aside0.mk (Kd.V_lower (Kd.V_mono (ok' := fun k_ => ((P1_ k_ ∨ P2_ k_) ∨ w.heap.size ≤ k_) ∧ some k_ ≠ (.slice Ao9 y437.length co9 : Value).ownBlock) ho0 (fun k_ hk_ => ⟨(.inr (Nat.le_trans (below_size (by with_reducible repeat (first | exact HB.out | apply bA | apply bB | apply bC))) hk_)), (Kd.fresh' (Kd.N_lt (by (with_reducible repeat (first | apply Kd.N_alloc | apply Kd.N_drewN | apply Kd.N_drew)); exact HO439.out)) k_ hk_)⟩)) (below_size (by with_reducible repeat (first | exact HB.out | apply bA | apply bB | apply bC)))); have n4_ := Aside0.mk (below_step (by with_reducible repeat (first | exact HB.out | apply bA | apply bB | apply bC)) hb); clear HO1; clear HO2; clear HO439; clear HB; have HO1 := n0_; have HO2 := n1_; have HO439 := n2_; have HO443 := n3_; have HB := n4_; clear n0_ n1_ n2_ n3_ n4_; (try clear hb); (try clear hb2); (try clear hk); (try clear hi); (try clear ho0)))
   go_ret2
   exact ⟨_, by first | rfl | (simp [errW_none, errW_some] <;> rfl) | (simp [*, errW_none, errW_some] <;> rfl), by (with_reducible repeat (first | apply vA | apply vB | apply vC)); exact Kd.V_mono HO443.out (fun _ hk => hk.1), by with_reducible repeat (first | exact HB.out | apply bA | apply bB | apply bC)⟩
 · rw [if_neg c5] at H
   have c5b0 : (t440 == 0) = false := beq_eq_false_iff_ne.mpr c5
   have c5b1 : (t440 != 0) = true := bne_iff_ne.mpr c5
   simp only [Option.some.injEq, Prod.mk.injEq] at H
   obtain ⟨rfl, rfl⟩ := H
   go_enter Try.func36, Try.ntmps36
   go_wp2_with (first | ((with_reducible refine gate_dst (N := 12) rfl ?_); refine Kd.N_lit (Kd.slice 3 (Kd.int .i64)) _ 23 ?hg (N' := 12) ?hd (xs := ([l1, l2] : List (List Int))) (inner := [.slice A1 l1.length c1, .slice A2 l2.length c2]) (ok := (fun k_ => ((P1_ k_ ∨ P2_ k_) ∨ w.heap.size ≤ k_))) (okp := (fun k_ => ((P1_ k_ ∨ P2_ k_) ∨ w.heap.size ≤ k_))) ?hr ?hp (fun _ hk => hk) ((show ∀ k_, w.heap.size ≤ k_ → (fun k_ => ((P1_ k_ ∨ P2_ k_) ∨ w.heap.size ≤ k_)) k_ from fun k_ hk => (.inr (Nat.le_trans (below_size (by with_reducible repeat (first | exact HB.out | apply bA | apply bB | apply bC))) hk))) _ (Nat.le_refl _)) (Below.refl _ _) (Nat.le_refl _) (by simp) ?_; (case hd => rfl); (case hg => rfl); (case hr => first | (go_simp; done) | (go_simp; rfl)); (case hp => exact (Reps.one (show Kd.FK (Kd.slice 3 (Kd.int .i64)) _ _ l1 [.slice A1 l1.length c1] from (Kd.FK_slice_mk (Kd.V_reads' (Kd.V_mono (ok' := (fun k_ => ((P1_ k_ ∨ P2_ k_) ∨ w.heap.size ≤ k_))) (HO1.out) (fun k_ hk => hk))).2.1 (Kd.V_F (Kd.V_mono (ok' := (fun k_ => ((P1_ k_ ∨ P2_ k_) ∨ w.heap.size ≤ k_))) (HO1.out) (fun k_ hk => hk))))) (Reps.one (show Kd.FK (Kd.slice 3 (Kd.int .i64)) _ _ l2 [.slice A2 l2.length c2] from (Kd.FK_slice_mk (Kd.V_reads' (Kd.V_mono (ok' := (fun k_ => ((P1_ k_ ∨ P2_ k_) ∨ w.heap.size ≤ k_))) (HO2.out) (fun k_ hk => hk))).2.1 (Kd.V_F (Kd.V_mono (ok' := (fun k_ => ((P1_ k_ ∨ P2_ k_) ∨ w.heap.size ≤ k_))) (HO2.out) (fun k_ hk => hk))))) (Reps.none _ _)))); intro v438 w12 ho13 hb hg_ hnew_; clear hg_ hnew_; (first | rw [← Ny437.out] at ho13 | (simp only [Int.reduceToNat] at ho13; rw [← Ny437.out] at ho13)); have n0_ := Aside0.mk (Kd.V_elder' (by (with_reducible repeat (first | apply vA | apply vB | apply vC)); exact HO1.out) (Kd.N_base ho13) hb); have n1_ := Aside0.mk (Kd.V_elder' (by (with_reducible repeat (first | apply vA | apply vB | apply vC)); exact HO2.out) (Kd.N_base ho13) hb); have n2_ := Aside0.mk (Kd.N_lower ho13 (below_size (by with_reducible repeat (first | exact HB.out | apply bA | apply bB | apply bC)))); have n3_ := Aside0.mk (below_step (by with_reducible repeat (first | exact HB.out | apply bA | apply bB | apply bC)) hb); clear HO1; clear HO2; clear HB; have HO1 := n0_; have HO2 := n1_; have HO439 := n2_; have HB := n3_; clear n0_ n1_ n2_ n3_; clear hb ho13; obtain ⟨Ao14, co14, eo14⟩ := Kd.N_slice HO439.out; subst eo14) | ((with_reducible refine gate_callee (f := 60) rfl ?_); refine goesL_ (some 13) rfl rfl Try.func60 (by kernel_rfl) rfl #[.int .i64 a0, .slice Ao14 y437.length co14] rfl (by (try simp only [mA, mB, mC]); first | done | rfl | (simp only [lD, lT]; rfl)) ?_; (with_reducible refine (polymod_first.calls k a0 _ _ y437 t440 _ ?side1 ?side2 A4.out).mono ?_); (case side1 => repeat (first | exact (Kd.N_reads' HO439.out).2.2 | (with_reducible refine Kd.C_alloc ?_ _) | (with_reducible refine Kd.C_drewN ?_ _) | (with_reducible refine Kd.C_drew ?_))); (case side2 => exact (Kd.N_reads' HO439.out).2.1); rintro e w15 ⟨rfl, hb⟩; refine ⟨_, rfl, ?_⟩; have n0_ := Aside0.mk (Kd.V_below (by (with_reducible repeat (first | apply vA | apply vB | apply vC)); exact HO1.out) hb); have n1_ := Aside0.mk (Kd.V_below (by (with_reducible repeat (first | apply vA | apply vB | apply vC)); exact HO2.out) hb); have n2_ := Aside0.mk (Kd.N_below (by (with_reducible repeat (first | apply Kd.N_alloc | apply Kd.N_drewN | apply Kd.N_drew)); exact HO439.out) hb); have n3_ := Aside0.mk (below_step (by with_reducible repeat (first | exact HB.out | apply bA | apply bB | apply bC)) hb); clear HO1; clear HO2; clear HO439; clear HB; have HO1 := n0_; have HO2 := n1_; have HO439 := n2_; have HB := n3_; clear n0_ n1_ n2_ n3_; (try clear hb); (try clear hb2); (try clear hk); (try clear hi)))
   go_ret2
   exact ⟨_, by first | rfl | (simp [errW_none, errW_some] <;> rfl) | (simp [*, errW_none, errW_some] <;> rfl), (Kd.V_nil _ _ _ _ _), by with_reducible repeat (first | exact HB.out | apply bA | apply bB | apply bC)⟩

/-! ### galoislaw09_PolymodBezout: function 8 -/
mutual
def galoislaw09_PolymodBezout.j0 : Nat → Int → List Int → List Int → Bool → Option (Bool)
 | 0, _, _, _, _ => none
 | k + 1, x0, x1, x2, x33 => if x33 = true then ((galoislaw09_awake.f k).bind fun t446 => (some t446)) else ((polymod_Xgcd.f k x0 x1 x2).bind fun bt447 => ((polymod_Mul.f k x0 bt447.2.1 x1).bind fun bt457 => ((polymod_Mul.f k x0 bt447.2.2.1 x2).bind fun bt461 => ((polymod_Add.f k x0 bt457.1 bt461.1).bind fun bt465 => (if bt447.2.2.2 = 0 then (if bt457.2 = 0 then (if bt461.2 = 0 then (if bt465.2 = 0 then ((galoisref09_Same.f k bt465.1 bt447.1).bind fun t469 => (galoislaw09_PolymodBezout.j1 k x0 x1 x2 bt447.1 (!t469))) else (galoislaw09_PolymodBezout.j1 k x0 x1 x2 bt447.1 true)) else (galoislaw09_PolymodBezout.j1 k x0 x1 x2 bt447.1 true)) else (galoislaw09_PolymodBezout.j1 k x0 x1 x2 bt447.1 true)) else (galoislaw09_PolymodBezout.j1 k x0 x1 x2 bt447.1 true))))))
def galoislaw09_PolymodBezout.j1 : Nat → Int → List Int → List Int → List Int → Bool → Option (Bool)
 | 0, _, _, _, _, _ => none
 | k + 1, x0, x1, x2, x7, x84 => if x84 = true then (some false) else (if (x7.length : Int) = 0 then (if (x1.length : Int) = 0 then (some ((x2.length : Int) == 0)) else (some false)) else ((polymod_DivMod.f k x0 x1 x7).bind fun bt470 => ((polymod_DivMod.f k x0 x2 x7).bind fun bt477 => (if bt470.2.2 = 0 then (if bt477.2.2 = 0 then (if (bt470.2.1.length : Int) > 0 then (galoislaw09_PolymodBezout.j2 k x0 x1 x2 true) else (if (bt477.2.1.length : Int) > 0 then (galoislaw09_PolymodBezout.j2 k x0 x1 x2 true) else (if 0 ≤ (wrap64 ((x7.length : Int) - 1)) then (if (wrap64 ((x7.length : Int) - 1)) < (x7.length : Int) then (galoislaw09_PolymodBezout.j2 k x0 x1 x2 ((rd x7 (wrap64 ((x7.length : Int) - 1))) != 1)) else (none)) else (none)))) else (galoislaw09_PolymodBezout.j2 k x0 x1 x2 true)) else (galoislaw09_PolymodBezout.j2 k x0 x1 x2 true)))))
def galoislaw09_PolymodBezout.j2 : Nat → Int → List Int → List Int → Bool → Option (Bool)
 | 0, _, _, _, _ => none
 | k + 1, x0, x1, x2, x136 => if x136 = true then (some false) else (if (x2.length : Int) = 0 then (some true) else ((polymod_DivMod.f k x0 x1 x2).bind fun bt485 => ((polymod_Mul.f k x0 bt485.1 x2).bind fun bt492 => ((polymod_Add.f k x0 bt492.1 bt485.2.1).bind fun bt496 => (if bt485.2.2 = 0 then (if bt492.2 = 0 then (if bt496.2 = 0 then (if (bt485.2.1.length : Int) < (x2.length : Int) then ((galoisref09_Same.f k bt496.1 x1).bind fun t500 => (some t500)) else (some false)) else (some false)) else (some false)) else (some false))))))
end
def galoislaw09_PolymodBezout.f (k : Nat) (a0 : Int) (l1 : List Int) (l2 : List Int) : Option (Bool) := (galoislaw09_awake.f k).bind fun t444 => (if t444 = true then ((galoislaw09_few.f k a0 l1 l2 30).bind fun t445 => (galoislaw09_PolymodBezout.j0 k a0 l1 l2 (!t445))) else (galoislaw09_PolymodBezout.j0 k a0 l1 l2 true))
theorem galoislaw09_PolymodBezout.mono_l : ∀ k, (∀ y0 y1 y2 y3, LeO (galoislaw09_PolymodBezout.j0 k y0 y1 y2 y3) (galoislaw09_PolymodBezout.j0 (k + 1) y0 y1 y2 y3)) ∧ (∀ y0 y1 y2 y3 y4, LeO (galoislaw09_PolymodBezout.j1 k y0 y1 y2 y3 y4) (galoislaw09_PolymodBezout.j1 (k + 1) y0 y1 y2 y3 y4)) ∧ (∀ y0 y1 y2 y3, LeO (galoislaw09_PolymodBezout.j2 k y0 y1 y2 y3) (galoislaw09_PolymodBezout.j2 (k + 1) y0 y1 y2 y3))
 | 0 => ⟨fun _ _ _ _ r h => by simp [galoislaw09_PolymodBezout.j0] at h, fun _ _ _ _ _ r h => by simp [galoislaw09_PolymodBezout.j1] at h, fun _ _ _ _ r h => by simp [galoislaw09_PolymodBezout.j2] at h⟩
 | k + 1 => by
   obtain ⟨ih0, ih1, ih2⟩ := galoislaw09_PolymodBezout.mono_l k
   refine ⟨?_, ?_, ?_⟩
   · intro y0 y1 y2 y3
     unfold galoislaw09_PolymodBezout.j0
     repeat' first
     | (with_reducible apply ih0)
     | (with_reducible apply ih1)
     | (with_reducible apply ih2)
     | (with_reducible apply galoislaw09_awake.mono)
     | (with_reducible apply galoislaw09_few.mono)
     | (with_reducible apply galoisref09_Same.mono)
     | (with_reducible apply polymod_Add.mono)
     | (with_reducible apply polymod_DivMod.mono)
     | (with_reducible apply polymod_Mul.mono)
     | (with_reducible apply polymod_Xgcd.mono)
     | (with_reducible apply LeO.refl)
     | (with_reducible apply LeO.none)
     | (with_reducible refine LeO.ite ?_ ?_)
     | (with_reducible refine LeO.bind ?_ (fun _ => ?_))
   · intro y0 y1 y2 y3 y4
     unfold galoislaw09_PolymodBezout.j1
     repeat' first
     | (with_reducible apply ih0)
     | (with_reducible apply ih1)
     | (with_reducible apply ih2)
     | (with_reducible apply galoislaw09_awake.mono)
     | (with_reducible apply galoislaw09_few.mono)
     | (with_reducible apply galoisref09_Same.mono)
     | (with_reducible apply polymod_Add.mono)
     | (with_reducible apply polymod_DivMod.mono)
     | (with_reducible apply polymod_Mul.mono)
     | (with_reducible apply polymod_Xgcd.mono)
     | (with_reducible apply LeO.refl)
     | (with_reducible apply LeO.none)
     | (with_reducible refine LeO.ite ?_ ?_)
     | (with_reducible refine LeO.bind ?_ (fun _ => ?_))
   · intro y0 y1 y2 y3
     unfold galoislaw09_PolymodBezout.j2
     repeat' first
     | (with_reducible apply ih0)
     | (with_reducible apply ih1)
     | (with_reducible apply ih2)
     | (with_reducible apply galoislaw09_awake.mono)
     | (with_reducible apply galoislaw09_few.mono)
     | (with_reducible apply galoisref09_Same.mono)
     | (with_reducible apply polymod_Add.mono)
     | (with_reducible apply polymod_DivMod.mono)
     | (with_reducible apply polymod_Mul.mono)
     | (with_reducible apply polymod_Xgcd.mono)
     | (with_reducible apply LeO.refl)
     | (with_reducible apply LeO.none)
     | (with_reducible refine LeO.ite ?_ ?_)
     | (with_reducible refine LeO.bind ?_ (fun _ => ?_))
theorem galoislaw09_PolymodBezout.mono : ∀ a0 a1 a2 k, LeO (galoislaw09_PolymodBezout.f k a0 a1 a2) (galoislaw09_PolymodBezout.f (k + 1) a0 a1 a2) := by
 intro a0 a1 a2 k
 obtain ⟨ih0, ih1, ih2⟩ := galoislaw09_PolymodBezout.mono_l k
 unfold galoislaw09_PolymodBezout.f
 repeat' first
  | (with_reducible apply ih0)
  | (with_reducible apply ih1)
  | (with_reducible apply ih2)
  | (with_reducible apply galoislaw09_awake.mono)
  | (with_reducible apply galoislaw09_few.mono)
  | (with_reducible apply galoisref09_Same.mono)
  | (with_reducible apply polymod_Add.mono)
  | (with_reducible apply polymod_DivMod.mono)
  | (with_reducible apply polymod_Mul.mono)
  | (with_reducible apply polymod_Xgcd.mono)
  | (with_reducible apply LeO.refl)
  | (with_reducible apply LeO.none)
  | (with_reducible refine LeO.ite ?_ ?_)
  | (with_reducible refine LeO.bind ?_ (fun _ => ?_))
set_option maxHeartbeats 8000000 in
set_option maxRecDepth 100000 in
theorem galoislaw09_PolymodBezout.calls (k : Nat) (a0 : Int) (A1 : Option Addr) (c1 : Nat) (l1 : List Int) (A2 : Option Addr) (c2 : Nat) (l2 : List Int) (r : Bool) (w : World) (hr1 : Kd.C (Kd.int .i64) w A1 l1.length l1) (hc1 : l1.length ≤ c1) (hr2 : Kd.C (Kd.int .i64) w A2 l2.length l2) (hc2 : l2.length ≤ c2) (h : galoislaw09_PolymodBezout.f k a0 l1 l2 = some r) :
 Calls Try.prog 8 #[.int .i64 a0, .slice A1 l1.length c1, .slice A2 l2.length c2] w fun e w' => e = .returned (.bool r) ∧ Below w.heap.size w w' := by
 have HR1 := Aside0.mk hr1
 have HC1 := Aside0.mk hc1
 clear hr1 hc1
 have HR2 := Aside0.mk hr2
 have HC2 := Aside0.mk hc2
 clear hr2 hc2
 have HB := Aside0.mk (Below.refl w.heap.size w)
 have H : ((galoislaw09_awake.f k).bind fun t444 => (if t444 = true then ((galoislaw09_few.f k a0 l1 l2 30).bind fun t445 => (galoislaw09_PolymodBezout.j0 k a0 l1 l2 (!t445))) else (galoislaw09_PolymodBezout.j0 k a0 l1 l2 true))) = some r := h
 clear h
 have HC4 := Aside0.mk H
 clear H
 go_enter Try.func8, Try.ntmps8
 go_upto_region 1 with (fail)
 go_cut [33] (fun v33 wc => ∃ (kq : Nat) (x33_3 : Bool), v33 = .bool x33_3 ∧ Aside0 (galoislaw09_PolymodBezout.j0 kq a0 l1 l2 x33_3 = some r) ∧ Aside0 (kq ≤ k) ∧ Aside0 (Below w.heap.size w wc))
 case first =>
  have H := HC4.out
  clear HC4
  replace H := Option.bind_eq_some_iff.mp H
  obtain ⟨t444, A50, H⟩ := H
  replace H : (if t444 = true then ((galoislaw09_few.f k a0 l1 l2 30).bind fun t445 => (galoislaw09_PolymodBezout.j0 k a0 l1 l2 (!t445))) else (galoislaw09_PolymodBezout.j0 k a0 l1 l2 true)) = some r := H
  have A5 := Aside0.mk A50
  clear A50
  by_cases c6 : t444 = true
  · subst c6
    have H1 : ((galoislaw09_few.f k a0 l1 l2 30).bind fun t445 => (galoislaw09_PolymodBezout.j0 k a0 l1 l2 (!t445))) = some r := by rw [if_pos rfl] at H; exact H
    clear H
    have H := H1
    clear H1
    replace H := Option.bind_eq_some_iff.mp H
    obtain ⟨t445, A70, H⟩ := H
    replace H : (galoislaw09_PolymodBezout.j0 k a0 l1 l2 (!t445)) = some r := H
    have A7 := Aside0.mk A70
    clear A70
    have H' := Aside0.mk H
    clear H
    go_wp2_with (first | ((with_reducible refine gate_callee (f := 13) rfl ?_); refine goesL_ (some 25) rfl rfl Try.func13 (by kernel_rfl) rfl #[] rfl (by (try simp only [mA, mB, mC]); first | done | rfl | (simp only [lD, lT]; rfl)) ?_; (with_reducible refine (galoislaw09_awake.calls k  true _ A5.out).mono ?_); rintro e w8 ⟨rfl, hb⟩; refine ⟨_, rfl, ?_⟩; have n0_ := Aside0.mk (below_step (by with_reducible repeat (first | exact HB.out | apply bA | apply bB | apply bC)) hb); clear HB; have HB := n0_; clear n0_; (try clear hb); (try clear hb2); (try clear hk); (try clear hi)) | (go_at_call 17; (with_reducible refine (galoislaw09_few.calls k a0 _ _ l1 _ _ l2 30 t445 _ ?side1 ?side2 ?side3 ?side4 A7.out).mono ?_); (case side1 => repeat (first | exact (Kd.C_below HR1.out HB.out) | (with_reducible refine Kd.C_alloc ?_ _) | (with_reducible refine Kd.C_drewN ?_ _) | (with_reducible refine Kd.C_drew ?_))); (case side2 => exact HC1.out); (case side3 => repeat (first | exact (Kd.C_below HR2.out HB.out) | (with_reducible refine Kd.C_alloc ?_ _) | (with_reducible refine Kd.C_drewN ?_ _) | (with_reducible refine Kd.C_drew ?_))); (case side4 => exact HC2.out); rintro e w' ⟨rfl, ⟨nd, rfl⟩⟩))
    go_meet
    case rel => exact ⟨_, (!t445), (by first | rfl | (simp; done) | (simp [*]; done)), H', ⟨by first | omega | exact Nat.le_refl _⟩, ⟨by with_reducible repeat (first | exact HB.out | apply bA | apply bB | apply bC)⟩⟩
  · replace c6 := Bool.eq_false_iff.mpr c6
    subst c6
    have H1 : (galoislaw09_PolymodBezout.j0 k a0 l1 l2 true) = some r := by rw [if_neg (show ¬ (false = true) by decide)] at H; exact H
    clear H
    have H := H1
    clear H1
    have H' := Aside0.mk H
    clear H
    go_wp2_with (first | ((with_reducible refine gate_callee (f := 13) rfl ?_); refine goesL_ (some 25) rfl rfl Try.func13 (by kernel_rfl) rfl #[] rfl (by (try simp only [mA, mB, mC]); first | done | rfl | (simp only [lD, lT]; rfl)) ?_; (with_reducible refine (galoislaw09_awake.calls k  false _ A5.out).mono ?_); rintro e w9 ⟨rfl, hb⟩; refine ⟨_, rfl, ?_⟩; have n0_ := Aside0.mk (below_step (by with_reducible repeat (first | exact HB.out | apply bA | apply bB | apply bC)) hb); clear HB; have HB := n0_; clear n0_; (try clear hb); (try clear hb2); (try clear hk); (try clear hi)))
    go_meet
    case rel => exact ⟨_, (true), (by first | rfl | (simp; done) | (simp [*]; done)), H', ⟨by first | omega | exact Nat.le_refl _⟩, ⟨by with_reducible repeat (first | exact HB.out | apply bA | apply bB | apply bC)⟩⟩
 case rest =>
  clear HC4
  try clear c1
  try clear c2
  try clear p2
  try clear c6
  try clear c8
  obtain ⟨kq, x33_3, rfl, HA, HJ3, HB⟩ := hcut
  cases kq with
  | zero => exact absurd HA.out (by simp [galoislaw09_PolymodBezout.j0])
  | succ kj3 =>
    have H := HA.out
    clear HA
    simp only [galoislaw09_PolymodBezout.j0] at H
    by_cases c10 : x33_3 = true
    · subst c10
      have H1 : ((galoislaw09_awake.f kj3).bind fun t446 => (some t446)) = some r := by rw [if_pos rfl] at H; exact H
      clear H
      have H := H1
      clear H1
      replace H := Option.bind_eq_some_iff.mp H
      obtain ⟨t446, A110, H⟩ := H
      replace H : (some t446) = some r := H
      have A11 := Aside0.mk A110
      clear A110
      obtain rfl := Option.some.inj H
      go_wp2_with (first | ((with_reducible refine gate_callee (f := 13) rfl ?_); refine goesL_ (some 34) rfl rfl Try.func13 (by kernel_rfl) rfl #[] rfl (by (try simp only [mA, mB, mC]); first | done | rfl | (simp only [lD, lT]; rfl)) ?_; (with_reducible refine (galoislaw09_awake.calls kj3  t446 _ A11.out).mono ?_); rintro e w12 ⟨rfl, hb⟩; refine ⟨_, rfl, ?_⟩; have n0_ := Aside0.mk (below_step (by with_reducible repeat (first | exact HB.out | apply bA | apply bB | apply bC)) hb); clear HB; have HB := n0_; clear n0_; (try clear hb); (try clear hb2); (try clear hk); (try clear hi)))
      go_ret
      exact ⟨by first | rfl | (simp [errW_none, errW_some] <;> rfl) | (simp [*, errW_none, errW_some] <;> rfl), by with_reducible repeat (first | exact HB.out | apply bA | apply bB | apply bC)⟩
    · replace c10 := Bool.eq_false_iff.mpr c10
      subst c10
      have H1 : ((polymod_Xgcd.f kj3 a0 l1 l2).bind fun bt447 => ((polymod_Mul.f kj3 a0 bt447.2.1 l1).bind fun bt457 => ((polymod_Mul.f kj3 a0 bt447.2.2.1 l2).bind fun bt461 => ((polymod_Add.f kj3 a0 bt457.1 bt461.1).bind fun bt465 => (if bt447.2.2.2 = 0 then (if bt457.2 = 0 then (if bt461.2 = 0 then (if bt465.2 = 0 then ((galoisref09_Same.f kj3 bt465.1 bt447.1).bind fun t469 => (galoislaw09_PolymodBezout.j1 kj3 a0 l1 l2 bt447.1 (!t469))) else (galoislaw09_PolymodBezout.j1 kj3 a0 l1 l2 bt447.1 true)) else (galoislaw09_PolymodBezout.j1 kj3 a0 l1 l2 bt447.1 true)) else (galoislaw09_PolymodBezout.j1 kj3 a0 l1 l2 bt447.1 true)) else (galoislaw09_PolymodBezout.j1 kj3 a0 l1 l2 bt447.1 true)))))) = some r := by rw [if_neg (show ¬ (false = true) by decide)] at H; exact H
      clear H
      have H := H1
      clear H1
      replace H := Option.bind_eq_some_iff.mp H
      obtain ⟨⟨t447, t450, t453, t456⟩, A130, H⟩ := H
      replace H : ((polymod_Mul.f kj3 a0 t450 l1).bind fun bt457 => ((polymod_Mul.f kj3 a0 t453 l2).bind fun bt461 => ((polymod_Add.f kj3 a0 bt457.1 bt461.1).bind fun bt465 => (if t456 = 0 then (if bt457.2 = 0 then (if bt461.2 = 0 then (if bt465.2 = 0 then ((galoisref09_Same.f kj3 bt465.1 t447).bind fun t469 => (galoislaw09_PolymodBezout.j1 kj3 a0 l1 l2 t447 (!t469))) else (galoislaw09_PolymodBezout.j1 kj3 a0 l1 l2 t447 true)) else (galoislaw09_PolymodBezout.j1 kj3 a0 l1 l2 t447 true)) else (galoislaw09_PolymodBezout.j1 kj3 a0 l1 l2 t447 true)) else (galoislaw09_PolymodBezout.j1 kj3 a0 l1 l2 t447 true))))) = some r := H
      have A13 := Aside0.mk A130
      clear A130
      replace H := Option.bind_eq_some_iff.mp H
      obtain ⟨⟨t457, t460⟩, A140, H⟩ := H
      replace H : ((polymod_Mul.f kj3 a0 t453 l2).bind fun bt461 => ((polymod_Add.f kj3 a0 t457 bt461.1).bind fun bt465 => (if t456 = 0 then (if t460 = 0 then (if bt461.2 = 0 then (if bt465.2 = 0 then ((galoisref09_Same.f kj3 bt465.1 t447).bind fun t469 => (galoislaw09_PolymodBezout.j1 kj3 a0 l1 l2 t447 (!t469))) else (galoislaw09_PolymodBezout.j1 kj3 a0 l1 l2 t447 true)) else (galoislaw09_PolymodBezout.j1 kj3 a0 l1 l2 t447 true)) else (galoislaw09_PolymodBezout.j1 kj3 a0 l1 l2 t447 true)) else (galoislaw09_PolymodBezout.j1 kj3 a0 l1 l2 t447 true)))) = some r := H
      have A14 := Aside0.mk A140
      clear A140
      replace H := Option.bind_eq_some_iff.mp H
      obtain ⟨⟨t461, t464⟩, A150, H⟩ := H
      replace H : ((polymod_Add.f kj3 a0 t457 t461).bind fun bt465 => (if t456 = 0 then (if t460 = 0 then (if t464 = 0 then (if bt465.2 = 0 then ((galoisref09_Same.f kj3 bt465.1 t447).bind fun t469 => (galoislaw09_PolymodBezout.j1 kj3 a0 l1 l2 t447 (!t469))) else (galoislaw09_PolymodBezout.j1 kj3 a0 l1 l2 t447 true)) else (galoislaw09_PolymodBezout.j1 kj3 a0 l1 l2 t447 true)) else (galoislaw09_PolymodBezout.j1 kj3 a0 l1 l2 t447 true)) else (galoislaw09_PolymodBezout.j1 kj3 a0 l1 l2 t447 true))) = some r := H
      have A15 := Aside0.mk A150
      clear A150
      replace H := Option.bind_eq_some_iff.mp H
      obtain ⟨⟨t465, t468⟩, A160, H⟩ := H
      replace H : (if t456 = 0 then (if t460 = 0 then (if t464 = 0 then (if t468 = 0 then ((galoisref09_Same.f kj3 t465 t447).bind fun t469 => (galoislaw09_PolymodBezout.j1 kj3 a0 l1 l2 t447 (!t469))) else (galoislaw09_PolymodBezout.j1 kj3 a0 l1 l2 t447 true)) else (galoislaw09_PolymodBezout.j1 kj3 a0 l1 l2 t447 true)) else (galoislaw09_PolymodBezout.j1 kj3 a0 l1 l2 t447 true)) else (galoislaw09_PolymodBezout.j1 kj3 a0 l1 l2 t447 true)) = some r := H
      have A16 := Aside0.mk A160
      clear A160
      have HC17 := Aside0.mk H
      clear H
      go_upto_region 7 with (first | ((with_reducible refine gate_callee (f := 32) rfl ?_); refine goesL_ (some 39) rfl rfl Try.func32 (by kernel_rfl) rfl #[.int .i64 a0, .slice A1 l1.length c1, .slice A2 l2.length c2] rfl (by (try simp only [mA, mB, mC]); first | done | rfl | (simp only [lD, lT]; rfl)) ?_; (with_reducible refine (polymod_Xgcd.calls kj3 a0 (fun k_ => k_ < w.heap.size) _ _ l1 (fun k_ => k_ < w.heap.size) _ _ l2 t447 t450 t453 t456 _ ?side1 ?side2 A13.out).mono ?_); (case side1 => exact Kd.V_mk HC1.out (Kd.F_below (Kd.C_F (Kd.heap_int .i64) HR1.out) (by with_reducible repeat (first | exact HB.out | apply bA | apply bB | apply bC)))); (case side2 => exact Kd.V_mk HC2.out (Kd.F_below (Kd.C_F (Kd.heap_int .i64) HR2.out) (by with_reducible repeat (first | exact HB.out | apply bA | apply bB | apply bC)))); rintro e w18 ⟨v448, v451, v454, rfl, ho0, ho1, ho2, hb⟩; refine ⟨_, rfl, ?_⟩; have n0_ := Aside0.mk (Kd.V_lower (Kd.V_mono (ok' := fun k_ => True) ho0 (fun k_ hk_ => trivial)) (below_size (by with_reducible repeat (first | exact HB.out | apply bA | apply bB | apply bC)))); have n1_ := Aside0.mk (Kd.V_lower (Kd.V_mono (ok' := fun k_ => True) ho1 (fun k_ hk_ => trivial)) (below_size (by with_reducible repeat (first | exact HB.out | apply bA | apply bB | apply bC)))); have n2_ := Aside0.mk (Kd.V_lower (Kd.V_mono (ok' := fun k_ => True) ho2 (fun k_ hk_ => trivial)) (below_size (by with_reducible repeat (first | exact HB.out | apply bA | apply bB | apply bC)))); have n3_ := Aside0.mk (below_step (by with_reducible repeat (first | exact HB.out | apply bA | apply bB | apply bC)) hb); clear HB; have HO449 := n0_; have HO452 := n1_; have HO455 := n2_; have HB := n3_; clear n0_ n1_ n2_ n3_; (try clear hb); (try clear hb2); (try clear hk); (try clear hi); (try clear ho0); (try clear ho1); (try clear ho2); obtain ⟨Ao19, co19, eo19⟩ := Kd.V_slice HO452.out; subst eo19) | ((with_reducible refine gate_callee (f := 18) rfl ?_); refine goesL_ (some 48) rfl rfl Try.func18 (by kernel_rfl) rfl #[.int .i64 a0, .slice Ao19 t450.length co19, .slice A1 l1.length c1] rfl (by (try simp only [mA, mB, mC]); first | done | rfl | (simp only [lD, lT]; rfl)) ?_; (with_reducible refine (polymod_Mul.calls kj3 a0 (fun k_ => True) _ _ t450 (fun k_ => k_ < w.heap.size) _ _ l1 t457 t460 _ ?side1 ?side2 A14.out).mono ?_); (case side1 => exact HO452.out); (case side2 => exact Kd.V_mk HC1.out (Kd.F_below (Kd.C_F (Kd.heap_int .i64) HR1.out) (by with_reducible repeat (first | exact HB.out | apply bA | apply bB | apply bC)))); rintro e w20 ⟨v458, rfl, ho0, hb⟩; refine ⟨_, rfl, ?_⟩; have n0_ := Aside0.mk (Kd.V_below (by (with_reducible repeat (first | apply vA | apply vB | apply vC)); exact HO449.out) hb); have n1_ := Aside0.mk (Kd.V_below (by (with_reducible repeat (first | apply vA | apply vB | apply vC)); exact HO452.out) hb); have n2_ := Aside0.mk (Kd.V_below (by (with_reducible repeat (first | apply vA | apply vB | apply vC)); exact HO455.out) hb); have n3_ := Aside0.mk (Kd.V_lower (Kd.V_mono (ok' := fun k_ => True) ho0 (fun k_ hk_ => trivial)) (below_size (by with_reducible repeat (first | exact HB.out | apply bA | apply bB | apply bC)))); have n4_ := Aside0.mk (below_step (by with_reducible repeat (first | exact HB.out | apply bA | apply bB | apply bC)) hb); clear HO449; clear HO452; clear HO455; clear HB; have HO449 := n0_; have HO452 := n1_; have HO455 := n2_; have HO459 := n3_; have HB := n4_; clear n0_ n1_ n2_ n3_ n4_; (try clear hb); (try clear hb2); (try clear hk); (try clear hi); (try clear ho0); obtain ⟨Ao21, co21, eo21⟩ := Kd.V_slice HO455.out; subst eo21) | ((with_reducible refine gate_callee (f := 18) rfl ?_); refine goesL_ (some 55) rfl rfl Try.func18 (by kernel_rfl) rfl #[.int .i64 a0, .slice Ao21 t453.length co21, .slice A2 l2.length c2] rfl (by (try simp only [mA, mB, mC]); first | done | rfl | (simp only [lD, lT]; rfl)) ?_; (with_reducible refine (polymod_Mul.calls kj3 a0 (fun k_ => True) _ _ t453 (fun k_ => k_ < w.heap.size) _ _ l2 t461 t464 _ ?side1 ?side2 A15.out).mono ?_); (case side1 => exact HO455.out); (case side2 => exact Kd.V_mk HC2.out (Kd.F_below (Kd.C_F (Kd.heap_int .i64) HR2.out) (by with_reducible repeat (first | exact HB.out | apply bA | apply bB | apply bC)))); rintro e w22 ⟨v462, rfl, ho0, hb⟩; refine ⟨_, rfl, ?_⟩; have n0_ := Aside0.mk (Kd.V_below (by (with_reducible repeat (first | apply vA | apply vB | apply vC)); exact HO449.out) hb); have n1_ := Aside0.mk (Kd.V_below (by (with_reducible repeat (first | apply vA | apply vB | apply vC)); exact HO452.out) hb); have n2_ := Aside0.mk (Kd.V_below (by (with_reducible repeat (first | apply vA | apply vB | apply vC)); exact HO455.out) hb); have n3_ := Aside0.mk (Kd.V_below (by (with_reducible repeat (first | apply vA | apply vB | apply vC)); exact HO459.out) hb); have n4_ := Aside0.mk (Kd.V_lower (Kd.V_mono (ok' := fun k_ => True) ho0 (fun k_ hk_ => trivial)) (below_size (by with_reducible repeat (first | exact HB.out | apply bA | apply bB | apply bC)))); have n5_ := Aside0.mk (below_step (by with_reducible repeat (first | exact HB.out | apply bA | apply bB | apply bC)) hb); clear HO449; clear HO452; clear HO455; clear HO459; clear HB; have HO449 := n0_; have HO452 := n1_; have HO455 := n2_; have HO459 := n3_; have HO463 := n4_; have HB := n5_; clear n0_ n1_ n2_ n3_ n4_ n5_; (try clear hb); (try clear hb2); (try clear hk); (try clear hi); (try clear ho0); obtain ⟨Ao23, co23, eo23⟩ := Kd.V_slice HO459.out; subst eo23; obtain ⟨Ao24, co24, eo24⟩ := Kd.V_slice HO463.out; subst eo24) | ((with_reducible refine gate_callee (f := 36) rfl ?_); refine goesL_ (some 62) rfl rfl Try.func36 (by kernel_rfl) rfl #[.int .i64 a0, .slice Ao23 t457.length co23, .slice Ao24 t461.length co24] rfl (by (try simp only [mA, mB, mC]); first | done | rfl | (simp only [lD, lT]; rfl)) ?_; (with_reducible refine (polymod_Add.calls kj3 a0 (fun k_ => True) _ _ t457 (fun k_ => True) _ _ t461 t465 t468 _ ?side1 ?side2 A16.out).mono ?_); (case side1 => exact HO459.out); (case side2 => exact HO463.out); rintro e w25 ⟨v466, rfl, ho0, hb⟩; refine ⟨_, rfl, ?_⟩; have n0_ := Aside0.mk (Kd.V_below (by (with_reducible repeat (first | apply vA | apply vB | apply vC)); exact HO449.out) hb); have n1_ := Aside0.mk (Kd.V_below (by (with_reducible repeat (first | apply vA | apply vB | apply vC)); exact HO452.out) hb); have n2_ := Aside0.mk (Kd.V_below (by (with_reducible repeat (first | apply vA | apply vB | apply vC)); exact HO455.out) hb); have n3_ := Aside0.mk (Kd.V_below (by (with_reducible repeat (first | apply vA | apply vB | apply vC)); exact HO459.out) hb); have n4_ := Aside0.mk (Kd.V_below (by (with_reducible repeat (first | apply vA | apply vB | apply vC)); exact HO463.out) hb); have n5_ := Aside0.mk (Kd.V_lower (Kd.V_mono (ok' := fun k_ => True) ho0 (fun k_ hk_ => trivial)) (below_size (by with_reducible repeat (first | exact HB.out | apply bA | apply bB | apply bC)))); have n6_ := Aside0.mk (below_step (by with_reducible repeat (first | exact HB.out | apply bA | apply bB | apply bC)) hb); clear HO449; clear HO452; clear HO455; clear HO459; clear HO463; clear HB; have HO449 := n0_; have HO452 := n1_; have HO455 := n2_; have HO459 := n3_; have HO463 := n4_; have HO467 := n5_; have HB := n6_; clear n0_ n1_ n2_ n3_ n4_ n5_ n6_; (try clear hb); (try clear hb2); (try clear hk); (try clear hi); (try clear ho0)))
      (try simp only [Act.put, List.setIfInBounds_toArray, List.set_cons_zero, List.set_cons_succ])
      go_cut [84] (fun v84 wc => ∃ (kq : Nat) (x84_16 : Bool), v84 = .bool x84_16 ∧ Aside0 (galoislaw09_PolymodBezout.j1 kq a0 l1 l2 t447 x84_16 = some r) ∧ Aside0 (kq ≤ kj3) ∧ Aside0 (Kd.V (Kd.int .i64) 3 wc w.heap.size (fun _ => True) v448 t447) ∧ Aside0 (Below w.heap.size w wc))
      case first =>
       have H := HC17.out
       clear HC17
       by_cases c26 : t456 = 0
       · rw [if_pos c26] at H
         have c26b0 : (t456 == 0) = true := beq_iff_eq.mpr c26
         have c26b1 : (t456 != 0) = false := bne_eq_false_iff_eq.mpr c26
         clear c26
         (first | rw [c26b0] | (simp only [i64_w, i32_w]; rw [c26b0]) | skip)
         by_cases c27 : t460 = 0
         · rw [if_pos c27] at H
           have c27b0 : (t460 == 0) = true := beq_iff_eq.mpr c27
           have c27b1 : (t460 != 0) = false := bne_eq_false_iff_eq.mpr c27
           clear c27
           by_cases c28 : t464 = 0
           · rw [if_pos c28] at H
             have c28b0 : (t464 == 0) = true := beq_iff_eq.mpr c28
             have c28b1 : (t464 != 0) = false := bne_eq_false_iff_eq.mpr c28
             clear c28
             by_cases c29 : t468 = 0
             · rw [if_pos c29] at H
               have c29b0 : (t468 == 0) = true := beq_iff_eq.mpr c29
               have c29b1 : (t468 != 0) = false := bne_eq_false_iff_eq.mpr c29
               clear c29
               replace H := Option.bind_eq_some_iff.mp H
               obtain ⟨t469, A300, H⟩ := H
               replace H : (galoislaw09_PolymodBezout.j1 kj3 a0 l1 l2 t447 (!t469)) = some r := H
               have A30 := Aside0.mk A300
               clear A300
               have H' := Aside0.mk H
               clear H
               obtain ⟨Ao31, co31, eo31⟩ := Kd.V_slice HO467.out
               subst eo31
               obtain ⟨Ao32, co32, eo32⟩ := Kd.V_slice HO449.out
               subst eo32
               go_wp2_with (first | (go_at_call 37; (with_reducible refine (galoisref09_Same.calls kj3 _ _ t465 _ _ t447 t469 _ ?side1 ?side2 ?side3 ?side4 A30.out).mono ?_); (case side1 => repeat (first | exact (Kd.V_reads' HO467.out).2.2 | (with_reducible refine Kd.C_alloc ?_ _) | (with_reducible refine Kd.C_drewN ?_ _) | (with_reducible refine Kd.C_drew ?_))); (case side2 => exact (Kd.V_reads' HO467.out).2.1); (case side3 => repeat (first | exact (Kd.V_reads' HO449.out).2.2 | (with_reducible refine Kd.C_alloc ?_ _) | (with_reducible refine Kd.C_drewN ?_ _) | (with_reducible refine Kd.C_drew ?_))); (case side4 => exact (Kd.V_reads' HO449.out).2.1); rintro e w' ⟨rfl, ⟨nd, rfl⟩⟩))
               go_meet
               case rel => exact ⟨_, (!t469), (by first | rfl | (simp; done) | (simp [*]; done)), H', ⟨by have := HJ3.out; first | omega | exact Nat.le_refl _⟩, ⟨by (with_reducible repeat (first | apply vA | apply vB | apply vC)); exact HO449.out⟩, ⟨by with_reducible repeat (first | exact HB.out | apply bA | apply bB | apply bC)⟩⟩
             · rw [if_neg c29] at H
               have c29b0 : (t468 == 0) = false := beq_eq_false_iff_ne.mpr c29
               have c29b1 : (t468 != 0) = true := bne_iff_ne.mpr c29
               have H' := Aside0.mk H
               clear H
               go_wp2
               go_meet
               case rel => exact ⟨_, (true), (by first | rfl | (simp; done) | (simp [*]; done)), H', ⟨by have := HJ3.out; first | omega | exact Nat.le_refl _⟩, ⟨by (with_reducible repeat (first | apply vA | apply vB | apply vC)); exact HO449.out⟩, ⟨by with_reducible repeat (first | exact HB.out | apply bA | apply bB | apply bC)⟩⟩
           · rw [if_neg c28] at H
             have c28b0 : (t464 == 0) = false := beq_eq_false_iff_ne.mpr c28
             have c28b1 : (t464 != 0) = true := bne_iff_ne.mpr c28
             have H' := Aside0.mk H
             clear H
             go_wp2
             go_meet
             case rel => exact ⟨_, (true), (by first | rfl | (simp; done) | (simp [*]; done)), H', ⟨by have := HJ3.out; first | omega | exact Nat.le_refl _⟩, ⟨by (with_reducible repeat (first | apply vA | apply vB | apply vC)); exact HO449.out⟩, ⟨by with_reducible repeat (first | exact HB.out | apply bA | apply bB | apply bC)⟩⟩
         · rw [if_neg c27] at H
           have c27b0 : (t460 == 0) = false := beq_eq_false_iff_ne.mpr c27
           have c27b1 : (t460 != 0) = true := bne_iff_ne.mpr c27
           have H' := Aside0.mk H
           clear H
           go_wp2
           go_meet
           case rel => exact ⟨_, (true), (by first | rfl | (simp; done) | (simp [*]; done)), H', ⟨by have := HJ3.out; first | omega | exact Nat.le_refl _⟩, ⟨by (with_reducible repeat (first | apply vA | apply vB | apply vC)); exact HO449.out⟩, ⟨by with_reducible repeat (first | exact HB.out | apply bA | apply bB | apply bC)⟩⟩
       · rw [if_neg c26] at H
         have c26b0 : (t456 == 0) = false := beq_eq_false_iff_ne.mpr c26
         have c26b1 : (t456 != 0) = true := bne_iff_ne.mpr c26
         (first | rw [c26b0] | (simp only [i64_w, i32_w]; rw [c26b0]) | skip)
         have H' := Aside0.mk H
         clear H
         go_wp2
         go_meet
         case rel => exact ⟨_, (true), (by first | rfl | (simp; done) | (simp [*]; done)), H', ⟨by have := HJ3.out; first | omega | exact Nat.le_refl _⟩, ⟨by (with_reducible repeat (first | apply vA | apply vB | apply vC)); exact HO449.out⟩, ⟨by with_reducible repeat (first | exact HB.out | apply bA | apply bB | apply bC)⟩⟩
      case rest =>
       clear HC17
       try clear c1
       try clear c2
       try clear p2
       try clear c3
       try clear c6
       try clear c8
       try clear c10
       try clear c13
       try clear c18
       try clear c26
       try clear c26b0
       try clear c26b1
       try clear c27
       try clear c27b0
       try clear c27b1
       try clear c28
       try clear c28b0
       try clear c28b1
       try clear c29
       try clear c29b0
       try clear c29b1
       try clear c32
       try clear p2
       obtain ⟨kq, x84_16, rfl, HA, HJ16, HO_7, HB⟩ := hcut
       cases kq with
       | zero => exact absurd HA.out (by simp [galoislaw09_PolymodBezout.j1])
       | succ kj16 =>
         have H := HA.out
         clear HA
         simp only [galoislaw09_PolymodBezout.j1] at H
         by_cases c33 : x84_16 = true
         · subst c33
           have H1 : (some false) = some r := by rw [if_pos rfl] at H; exact H
           clear H
           have H := H1
           clear H1
           obtain rfl := Option.some.inj H
           go_wp2
           go_ret
           exact ⟨by first | rfl | (simp [errW_none, errW_some] <;> rfl) | (simp [*, errW_none, errW_some] <;> rfl), by with_reducible repeat (first | exact HB.out | apply bA | apply bB | apply bC)⟩
         · replace c33 := Bool.eq_false_iff.mpr c33
           subst c33
           have H1 : (if (t447.length : Int) = 0 then (if (l1.length : Int) = 0 then (some ((l2.length : Int) == 0)) else (some false)) else ((polymod_DivMod.f kj16 a0 l1 t447).bind fun bt470 => ((polymod_DivMod.f kj16 a0 l2 t447).bind fun bt477 => (if bt470.2.2 = 0 then (if bt477.2.2 = 0 then (if (bt470.2.1.length : Int) > 0 then (galoislaw09_PolymodBezout.j2 kj16 a0 l1 l2 true) else (if (bt477.2.1.length : Int) > 0 then (galoislaw09_PolymodBezout.j2 kj16 a0 l1 l2 true) else (if 0 ≤ (wrap64 ((t447.length : Int) - 1)) then (if (wrap64 ((t447.length : Int) - 1)) < (t447.length : Int) then (galoislaw09_PolymodBezout.j2 kj16 a0 l1 l2 ((rd t447 (wrap64 ((t447.length : Int) - 1))) != 1)) else (none)) else (none)))) else (galoislaw09_PolymodBezout.j2 kj16 a0 l1 l2 true)) else (galoislaw09_PolymodBezout.j2 kj16 a0 l1 l2 true))))) = some r := by rw [if_neg (show ¬ (false = true) by decide)] at H; exact H
           clear H
           have H := H1
           clear H1
           by_cases c34 : (t447.length : Int) = 0
           · rw [if_pos c34] at H
             have c34b0 : ((t447.length : Int) == 0) = true := beq_iff_eq.mpr c34
             have c34b1 : ((t447.length : Int) != 0) = false := bne_eq_false_iff_eq.mpr c34
             clear c34
             by_cases c35 : (l1.length : Int) = 0
             · rw [if_pos c35] at H
               have c35b0 : ((l1.length : Int) == 0) = true := beq_iff_eq.mpr c35
               have c35b1 : ((l1.length : Int) != 0) = false := bne_eq_false_iff_eq.mpr c35
               clear c35
               obtain rfl := Option.some.inj H
               obtain ⟨Ao36, co36, eo36⟩ := Kd.V_slice HO_7.out
               subst eo36
               go_wp2
               go_ret
               exact ⟨by first | rfl | (simp [errW_none, errW_some] <;> rfl) | (simp [*, errW_none, errW_some] <;> rfl), by with_reducible repeat (first | exact HB.out | apply bA | apply bB | apply bC)⟩
             · rw [if_neg c35] at H
               have c35b0 : ((l1.length : Int) == 0) = false := beq_eq_false_iff_ne.mpr c35
               have c35b1 : ((l1.length : Int) != 0) = true := bne_iff_ne.mpr c35
               have c35b2 : ¬ (l1 = []) := fun h_ => c35 (by rw [h_]; rfl)
               obtain rfl := Option.some.inj H
               obtain ⟨Ao37, co37, eo37⟩ := Kd.V_slice HO_7.out
               subst eo37
               go_wp2
               go_ret
               exact ⟨by first | rfl | (simp [errW_none, errW_some] <;> rfl) | (simp [*, errW_none, errW_some] <;> rfl), by with_reducible repeat (first | exact HB.out | apply bA | apply bB | apply bC)⟩
           · rw [if_neg c34] at H
             have c34b0 : ((t447.length : Int) == 0) = false := beq_eq_false_iff_ne.mpr c34
             have c34b1 : ((t447.length : Int) != 0) = true := bne_iff_ne.mpr c34
             have c34b2 : ¬ (t447 = []) := fun h_ => c34 (by rw [h_]; rfl)
             replace H := Option.bind_eq_some_iff.mp H
             obtain ⟨⟨t470, t473, t476⟩, A380, H⟩ := H
             replace H : ((polymod_DivMod.f kj16 a0 l2 t447).bind fun bt477 => (if t476 = 0 then (if bt477.2.2 = 0 then (if (t473.length : Int) > 0 then (galoislaw09_PolymodBezout.j2 kj16 a0 l1 l2 true) else (if (bt477.2.1.length : Int) > 0 then (galoislaw09_PolymodBezout.j2 kj16 a0 l1 l2 true) else (if 0 ≤ (wrap64 ((t447.length : Int) - 1)) then (if (wrap64 ((t447.length : Int) - 1)) < (t447.length : Int) then (galoislaw09_PolymodBezout.j2 kj16 a0 l1 l2 ((rd t447 (wrap64 ((t447.length : Int) - 1))) != 1)) else (none)) else (none)))) else (galoislaw09_PolymodBezout.j2 kj16 a0 l1 l2 true)) else (galoislaw09_PolymodBezout.j2 kj16 a0 l1 l2 true))) = some r := H
             have A38 := Aside0.mk A380
             clear A380
             replace H := Option.bind_eq_some_iff.mp H
             obtain ⟨⟨t477, t480, t483⟩, A390, H⟩ := H
             replace H : (if t476 = 0 then (if t483 = 0 then (if (t473.length : Int) > 0 then (galoislaw09_PolymodBezout.j2 kj16 a0 l1 l2 true) else (if (t480.length : Int) > 0 then (galoislaw09_PolymodBezout.j2 kj16 a0 l1 l2 true) else (if 0 ≤ (wrap64 ((t447.length : Int) - 1)) then (if (wrap64 ((t447.length : Int) - 1)) < (t447.length : Int) then (galoislaw09_PolymodBezout.j2 kj16 a0 l1 l2 ((rd t447 (wrap64 ((t447.length : Int) - 1))) != 1)) else (none)) else (none)))) else (galoislaw09_PolymodBezout.j2 kj16 a0 l1 l2 true)) else (galoislaw09_PolymodBezout.j2 kj16 a0 l1 l2 true)) = some r := H
             have A39 := Aside0.mk A390
             clear A390
             have HC40 := Aside0.mk H
             clear H
             obtain ⟨Ao41, co41, eo41⟩ := Kd.V_slice HO_7.out
             subst eo41
             go_upto_region 13 with (first | ((with_reducible refine gate_callee (f := 22) rfl ?_); refine goesL_ (some 100) rfl rfl Try.func22 (by kernel_rfl) rfl #[.int .i64 a0, .slice A1 l1.length c1, .slice Ao41 t447.length co41] rfl (by (try simp only [mA, mB, mC]); first | done | rfl | (simp only [lD, lT]; rfl)) ?_; (with_reducible refine (polymod_DivMod.calls kj16 a0 (fun k_ => k_ < w.heap.size) _ _ l1 (fun k_ => True) _ _ t447 t470 t473 t476 _ ?side1 ?side2 A38.out).mono ?_); (case side1 => exact Kd.V_mk HC1.out (Kd.F_below (Kd.C_F (Kd.heap_int .i64) HR1.out) (by with_reducible repeat (first | exact HB.out | apply bA | apply bB | apply bC)))); (case side2 => exact HO_7.out); rintro e w42 ⟨v471, v474, rfl, ho0, ho1, hb⟩; refine ⟨_, rfl, ?_⟩; have n0_ := Aside0.mk (Kd.V_below (by (with_reducible repeat (first | apply vA | apply vB | apply vC)); exact HO_7.out) hb); have n1_ := Aside0.mk (Kd.V_lower (Kd.V_mono (ok' := fun k_ => True) ho0 (fun k_ hk_ => trivial)) (below_size (by with_reducible repeat (first | exact HB.out | apply bA | apply bB | apply bC)))); have n2_ := Aside0.mk (Kd.V_lower (Kd.V_mono (ok' := fun k_ => True) ho1 (fun k_ hk_ => trivial)) (below_size (by with_reducible repeat (first | exact HB.out | apply bA | apply bB | apply bC)))); have n3_ := Aside0.mk (below_step (by with_reducible repeat (first | exact HB.out | apply bA | apply bB | apply bC)) hb); clear HO_7; clear HB; have HO_7 := n0_; have HO472 := n1_; have HO475 := n2_; have HB := n3_; clear n0_ n1_ n2_ n3_; (try clear hb); (try clear hb2); (try clear hk); (try clear hi); (try clear ho0); (try clear ho1)) | ((with_reducible refine gate_callee (f := 22) rfl ?_); refine goesL_ (some 108) rfl rfl Try.func22 (by kernel_rfl) rfl #[.int .i64 a0, .slice A2 l2.length c2, .slice Ao41 t447.length co41] rfl (by (try simp only [mA, mB, mC]); first | done | rfl | (simp only [lD, lT]; rfl)) ?_; (with_reducible refine (polymod_DivMod.calls kj16 a0 (fun k_ => k_ < w.heap.size) _ _ l2 (fun k_ => True) _ _ t447 t477 t480 t483 _ ?side1 ?side2 A39.out).mono ?_); (case side1 => exact Kd.V_mk HC2.out (Kd.F_below (Kd.C_F (Kd.heap_int .i64) HR2.out) (by with_reducible repeat (first | exact HB.out | apply bA | apply bB | apply bC)))); (case side2 => exact HO_7.out); rintro e w43 ⟨v478, v481, rfl, ho0, ho1, hb⟩; refine ⟨_, rfl, ?_⟩; have n0_ := Aside0.mk (Kd.V_below (by (with_reducible repeat (first | apply vA | apply vB | apply vC)); exact HO_7.out) hb); have n1_ := Aside0.mk (Kd.V_below (by (with_reducible repeat (first | apply vA | apply vB | apply vC)); exact HO472.out) hb); have n2_ := Aside0.mk (Kd.V_below (by (with_reducible repeat (first | apply vA | apply vB | apply vC)); exact HO475.out) hb); have n3_ := Aside0.mk (Kd.V_lower (Kd.V_mono (ok' := fun k_ => True) ho0 (fun k_ hk_ => trivial)) (below_size (by with_reducible repeat (first | exact HB.out | apply bA | apply bB | apply bC)))); have n4_ := Aside0.mk (Kd.V_lower (Kd.V_mono (ok' := fun k_ => True) ho1 (fun k_ hk_ => trivial)) (below_size (by with_reducible repeat (first | exact HB.out | apply bA | apply bB | apply bC)))); have n5_ := Aside0.mk (below_step (by with_reducible repeat (first | exact HB.out | apply bA | apply bB | apply bC)) hb); clear HO_7; clear HO472; clear HO475; clear HB; have HO_7 := n0_; have HO472 := n1_; have HO475 := n2_; have HO479 := n3_; have HO482 := n4_; have HB := n5_; clear n0_ n1_ n2_ n3_ n4_ n5_; (try clear hb); (try clear hb2); (try clear hk); (try clear hi); (try clear ho0); (try clear ho1)))
             (try simp only [Act.put, List.setIfInBounds_toArray, List.set_cons_zero, List.set_cons_succ])
             go_cut [136] (fun v136 wc => ∃ (kq : Nat) (x136_39 : Bool), v136 = .bool x136_39 ∧ Aside0 (galoislaw09_PolymodBezout.j2 kq a0 l1 l2 x136_39 = some r) ∧ Aside0 (kq ≤ kj16) ∧ Aside0 (Below w.heap.size w wc))
             case first =>
              have H := HC40.out
              clear HC40
              by_cases c44 : t476 = 0
              · rw [if_pos c44] at H
                have c44b0 : (t476 == 0) = true := beq_iff_eq.mpr c44
                have c44b1 : (t476 != 0) = false := bne_eq_false_iff_eq.mpr c44
                clear c44
                (first | rw [c44b0] | (simp only [i64_w, i32_w]; rw [c44b0]) | skip)
                by_cases c45 : t483 = 0
                · rw [if_pos c45] at H
                  have c45b0 : (t483 == 0) = true := beq_iff_eq.mpr c45
                  have c45b1 : (t483 != 0) = false := bne_eq_false_iff_eq.mpr c45
                  clear c45
                  by_cases c46 : (t473.length : Int) > 0
                  · rw [if_pos c46] at H
                    have c46b0 : decide (0 < (t473.length : Int)) = true := decide_eq_true c46
                    have c46b1 : decide (0 < t473.length) = true := decide_eq_true (by omega)
                    clear c46
                    have H' := Aside0.mk H
                    clear H
                    obtain ⟨Ao47, co47, eo47⟩ := Kd.V_slice HO475.out
                    subst eo47
                    go_wp2
                    go_meet
                    case rel => exact ⟨_, (true), (by first | rfl | (simp; done) | (simp [*]; done)), H', ⟨by have := HJ3.out; have := HJ16.out; first | omega | exact Nat.le_refl _⟩, ⟨by with_reducible repeat (first | exact HB.out | apply bA | apply bB | apply bC)⟩⟩
                  · rw [if_neg c46] at H
                    have c46b0 : decide (0 < (t473.length : Int)) = false := decide_eq_false c46
                    have c46b1 : decide (0 < t473.length) = false := decide_eq_false (by omega)
                    clear c46
                    by_cases c48 : (t480.length : Int) > 0
                    · rw [if_pos c48] at H
                      have c48b0 : decide (0 < (t480.length : Int)) = true := decide_eq_true c48
                      have c48b1 : decide (0 < t480.length) = true := decide_eq_true (by omega)
                      clear c48
                      have H' := Aside0.mk H
                      clear H
                      obtain ⟨Ao49, co49, eo49⟩ := Kd.V_slice HO475.out
                      subst eo49
                      obtain ⟨Ao50, co50, eo50⟩ := Kd.V_slice HO482.out
                      subst eo50
                      go_wp2
                      go_meet
                      case rel => exact ⟨_, (true), (by first | rfl | (simp; done) | (simp [*]; done)), H', ⟨by have := HJ3.out; have := HJ16.out; first | omega | exact Nat.le_refl _⟩, ⟨by with_reducible repeat (first | exact HB.out | apply bA | apply bB | apply bC)⟩⟩
                    · rw [if_neg c48] at H
                      have c48b0 : decide (0 < (t480.length : Int)) = false := decide_eq_false c48
                      have c48b1 : decide (0 < t480.length) = false := decide_eq_false (by omega)
                      clear c48
                      obtain ⟨ji51, hji51⟩ : ∃ j_ : Int, (wrap64 ((t447.length : Int) - 1)) = j_ := ⟨_, rfl⟩
                      replace H : (if 0 ≤ (ji51) then (if (ji51) < (t447.length : Int) then (galoislaw09_PolymodBezout.j2 kj16 a0 l1 l2 ((rd t447 (ji51)) != 1)) else (none)) else (none)) = some r := by first | (rw [hji51] at H; exact H) | (simp only [hji51] at H ⊢; exact H)
                      have hji51w : (IntKind.i64.wrap ((t447.length : Int) - 1)) = ji51 := (i64_w _).trans hji51
                      by_cases c52 : 0 ≤ (ji51)
                      · rw [if_pos c52] at H
                        have c52b0 : decide (0 ≤ (ji51)) = true := decide_eq_true c52
                        clear c52
                        by_cases c53 : (ji51) < (t447.length : Int)
                        · rw [if_pos c53] at H
                          have c53b0 : decide ((ji51) < (t447.length : Int)) = true := decide_eq_true c53
                          clear c53
                          have H' := Aside0.mk H
                          clear H
                          obtain ⟨Ao54, co54, eo54⟩ := Kd.V_slice HO475.out
                          subst eo54
                          obtain ⟨Ao55, co55, eo55⟩ := Kd.V_slice HO482.out
                          subst eo55
                          have p484 : 0 ≤ ((ji51) : Int) := of_decide_eq_true (by first | (with_reducible assumption) | assumption)
                          have q484 : (ji51) < (t447.length : Int) := of_decide_eq_true (by first | (with_reducible assumption) | assumption)
                          obtain ⟨ad484, e484, hx484_0⟩ := Kd.at_int (Kd.V_reads' HO_7.out).2.2 (ji51) p484 q484
                          cases e484
                          replace p484 := eq_true p484
                          replace q484 := eq_true q484
                          go_wp2
                          go_meet
                          case rel => exact ⟨_, (((rd t447 (ji51)) != 1)), (by first | rfl | (simp; done) | (simp only [← hji51] <;> (first | rfl | simp)) | (simp [*]; done)), H', ⟨by have := HJ3.out; have := HJ16.out; first | omega | exact Nat.le_refl _⟩, ⟨by with_reducible repeat (first | exact HB.out | apply bA | apply bB | apply bC)⟩⟩
                        · rw [if_neg c53] at H
                          exact absurd H (by simp)
                      · rw [if_neg c52] at H
                        exact absurd H (by simp)
                · rw [if_neg c45] at H
                  have c45b0 : (t483 == 0) = false := beq_eq_false_iff_ne.mpr c45
                  have c45b1 : (t483 != 0) = true := bne_iff_ne.mpr c45
                  have H' := Aside0.mk H
                  clear H
                  go_wp2
                  go_meet
                  case rel => exact ⟨_, (true), (by first | rfl | (simp; done) | (simp [*]; done)), H', ⟨by have := HJ3.out; have := HJ16.out; first | omega | exact Nat.le_refl _⟩, ⟨by with_reducible repeat (first | exact HB.out | apply bA | apply bB | apply bC)⟩⟩
              · rw [if_neg c44] at H
                have c44b0 : (t476 == 0) = false := beq_eq_false_iff_ne.mpr c44
                have c44b1 : (t476 != 0) = true := bne_iff_ne.mpr c44
                (first | rw [c44b0] | (simp only [i64_w, i32_w]; rw [c44b0]) | skip)
                have H' := Aside0.mk H
                clear H
                go_wp2
                go_meet
                case rel => exact ⟨_, (true), (by first | rfl | (simp; done) | (simp [*]; done)), H', ⟨by have := HJ3.out; have := HJ16.out; first | omega | exact Nat.le_refl _⟩, ⟨by with_reducible repeat (first | exact HB.out | apply bA | apply bB | apply bC)⟩⟩
             case rest =>
              clear HC40
              try clear c1
              try clear c2
              try clear p2
              try clear c3
              try clear c4
              try clear p4
              try clear q4
              try clear hx4
              try clear c5
              try clear c6
              try clear p6
              try clear c8
              try clear c10
              try clear c13
              try clear c18
              try clear c22
              try clear c26
              try clear c26b0
              try clear c26b1
              try clear c27
              try clear c27b0
              try clear c27b1
              try clear c28
              try clear c28b0
              try clear c28b1
              try clear c29
              try clear c29b0
              try clear c29b1
              try clear c32
              try clear c33
              try clear c34
              try clear c34b0
              try clear c34b1
              try clear c34b2
              try clear c35
              try clear c35b0
              try clear c35b1
              try clear c35b2
              try clear c36
              try clear c44
              try clear c44b0
              try clear c44b1
              try clear c45
              try clear c45b0
              try clear c45b1
              try clear c46
              try clear c46b0
              try clear c46b1
              try clear c48
              try clear c48b0
              try clear c48b1
              try clear p48
              try clear q48
              try clear hx48
              try clear c52
              try clear c52b0
              try clear c53
              try clear c53b0
              try clear hx484_0
              try clear p2
              try clear p484
              try clear q484
              obtain ⟨kq, x136_39, rfl, HA, HJ39, HB⟩ := hcut
              cases kq with
              | zero => exact absurd HA.out (by simp [galoislaw09_PolymodBezout.j2])
              | succ kj39 =>
                have H := HA.out
                clear HA
                simp only [galoislaw09_PolymodBezout.j2] at H
                by_cases c56 : x136_39 = true
                · subst c56
                  have H1 : (some false) = some r := by rw [if_pos rfl] at H; exact H
                  clear H
                  have H := H1
                  clear H1
                  obtain rfl := Option.some.inj H
                  go_wp2
                  go_ret
                  exact ⟨by first | rfl | (simp [errW_none, errW_some] <;> rfl) | (simp [*, errW_none, errW_some] <;> rfl), by with_reducible repeat (first | exact HB.out | apply bA | apply bB | apply bC)⟩
                · replace c56 := Bool.eq_false_iff.mpr c56
                  subst c56
                  have H1 : (if (l2.length : Int) = 0 then (some true) else ((polymod_DivMod.f kj39 a0 l1 l2).bind fun bt485 => ((polymod_Mul.f kj39 a0 bt485.1 l2).bind fun bt492 => ((polymod_Add.f kj39 a0 bt492.1 bt485.2.1).bind fun bt496 => (if bt485.2.2 = 0 then (if bt492.2 = 0 then (if bt496.2 = 0 then (if (bt485.2.1.length : Int) < (l2.length : Int) then ((galoisref09_Same.f kj39 bt496.1 l1).bind fun t500 => (some t500)) else (some false)) else (some false)) else (some false)) else (some false)))))) = some r := by rw [if_neg (show ¬ (false = true) by decide)] at H; exact H
                  clear H
                  have H := H1
                  clear H1
                  by_cases c57 : (l2.length : Int) = 0
                  · rw [if_pos c57] at H
                    have c57b0 : ((l2.length : Int) == 0) = true := beq_iff_eq.mpr c57
                    have c57b1 : ((l2.length : Int) != 0) = false := bne_eq_false_iff_eq.mpr c57
                    clear c57
                    obtain rfl := Option.some.inj H
                    go_wp2
                    go_ret
                    exact ⟨by first | rfl | (simp [errW_none, errW_some] <;> rfl) | (simp [*, errW_none, errW_some] <;> rfl), by with_reducible repeat (first | exact HB.out | apply bA | apply bB | apply bC)⟩
                  · rw [if_neg c57] at H
                    have c57b0 : ((l2.length : Int) == 0) = false := beq_eq_false_iff_ne.mpr c57
                    have c57b1 : ((l2.length : Int) != 0) = true := bne_iff_ne.mpr c57
                    have c57b2 : ¬ (l2 = []) := fun h_ => c57 (by rw [h_]; rfl)
                    replace H := Option.bind_eq_some_iff.mp H
                    obtain ⟨⟨t485, t488, t491⟩, A580, H⟩ := H
                    replace H : ((polymod_Mul.f kj39 a0 t485 l2).bind fun bt492 => ((polymod_Add.f kj39 a0 bt492.1 t488).bind fun bt496 => (if t491 = 0 then (if bt492.2 = 0 then (if bt496.2 = 0 then (if (t488.length : Int) < (l2.length : Int) then ((galoisref09_Same.f kj39 bt496.1 l1).bind fun t500 => (some t500)) else (some false)) else (some false)) else (some false)) else (some false)))) = some r := H
                    have A58 := Aside0.mk A580
                    clear A580
                    replace H := Option.bind_eq_some_iff.mp H
                    obtain ⟨⟨t492, t495⟩, A590, H⟩ := H
                    replace H : ((polymod_Add.f kj39 a0 t492 t488).bind fun bt496 => (if t491 = 0 then (if t495 = 0 then (if bt496.2 = 0 then (if (t488.length : Int) < (l2.length : Int) then ((galoisref09_Same.f kj39 bt496.1 l1).bind fun t500 => (some t500)) else (some false)) else (some false)) else (some false)) else (some false))) = some r := H
                    have A59 := Aside0.mk A590
                    clear A590
                    replace H := Option.bind_eq_some_iff.mp H
                    obtain ⟨⟨t496, t499⟩, A600, H⟩ := H
                    replace H : (if t491 = 0 then (if t495 = 0 then (if t499 = 0 then (if (t488.length : Int) < (l2.length : Int) then ((galoisref09_Same.f kj39 t496 l1).bind fun t500 => (some t500)) else (some false)) else (some false)) else (some false)) else (some false)) = some r := H
                    have A60 := Aside0.mk A600
                    clear A600
                    by_cases c61 : t491 = 0
                    · rw [if_pos c61] at H
                      have c61b0 : (t491 == 0) = true := beq_iff_eq.mpr c61
                      have c61b1 : (t491 != 0) = false := bne_eq_false_iff_eq.mpr c61
                      clear c61
                      by_cases c62 : t495 = 0
                      · rw [if_pos c62] at H
                        have c62b0 : (t495 == 0) = true := beq_iff_eq.mpr c62
                        have c62b1 : (t495 != 0) = false := bne_eq_false_iff_eq.mpr c62
                        clear c62
                        by_cases c63 : t499 = 0
                        · rw [if_pos c63] at H
                          have c63b0 : (t499 == 0) = true := beq_iff_eq.mpr c63
                          have c63b1 : (t499 != 0) = false := bne_eq_false_iff_eq.mpr c63
                          clear c63
                          by_cases c64 : (t488.length : Int) < (l2.length : Int)
                          · rw [if_pos c64] at H
                            have c64b0 : decide ((t488.length : Int) < (l2.length : Int)) = true := decide_eq_true c64
                            have c64b1 : decide (t488.length < l2.length) = true := decide_eq_true (Int.ofNat_lt.mp c64)
                            clear c64
                            replace H := Option.bind_eq_some_iff.mp H
                            obtain ⟨t500, A650, H⟩ := H
                            replace H : (some t500) = some r := H
                            have A65 := Aside0.mk A650
                            clear A650
                            obtain rfl := Option.some.inj H
                            go_wp2_with (first | ((with_reducible refine gate_callee (f := 22) rfl ?_); refine goesL_ (some 144) rfl rfl Try.func22 (by kernel_rfl) rfl #[.int .i64 a0, .slice A1 l1.length c1, .slice A2 l2.length c2] rfl (by (try simp only [mA, mB, mC]); first | done | rfl | (simp only [lD, lT]; rfl)) ?_; (with_reducible refine (polymod_DivMod.calls kj39 a0 (fun k_ => k_ < w.heap.size) _ _ l1 (fun k_ => k_ < w.heap.size) _ _ l2 t485 t488 t491 _ ?side1 ?side2 A58.out).mono ?_); (case side1 => exact Kd.V_mk HC1.out (Kd.F_below (Kd.C_F (Kd.heap_int .i64) HR1.out) (by with_reducible repeat (first | exact HB.out | apply bA | apply bB | apply bC)))); (case side2 => exact Kd.V_mk HC2.out (Kd.F_below (Kd.C_F (Kd.heap_int .i64) HR2.out) (by with_reducible repeat (first | exact HB.out | apply bA | apply bB | apply bC)))); rintro e w66 ⟨v486, v489, rfl, ho0, ho1, hb⟩; refine ⟨_, rfl, ?_⟩; have n0_ := Aside0.mk (Kd.V_lower (Kd.V_mono (ok' := fun k_ => True) ho0 (fun k_ hk_ => trivial)) (below_size (by with_reducible repeat (first | exact HB.out | apply bA | apply bB | apply bC)))); have n1_ := Aside0.mk (Kd.V_lower (Kd.V_mono (ok' := fun k_ => True) ho1 (fun k_ hk_ => trivial)) (below_size (by with_reducible repeat (first | exact HB.out | apply bA | apply bB | apply bC)))); have n2_ := Aside0.mk (below_step (by with_reducible repeat (first | exact HB.out | apply bA | apply bB | apply bC)) hb); clear HB; have HO487 := n0_; have HO490 := n1_; have HB := n2_; clear n0_ n1_ n2_; (try clear hb); (try clear hb2); (try clear hk); (try clear hi); (try clear ho0); (try clear ho1); obtain ⟨Ao67, co67, eo67⟩ := Kd.V_slice HO487.out; subst eo67) | ((with_reducible refine gate_callee (f := 18) rfl ?_); refine goesL_ (some 152) rfl rfl Try.func18 (by kernel_rfl) rfl #[.int .i64 a0, .slice Ao67 t485.length co67, .slice A2 l2.length c2] rfl (by (try simp only [mA, mB, mC]); first | done | rfl | (simp only [lD, lT]; rfl)) ?_; (with_reducible refine (polymod_Mul.calls kj39 a0 (fun k_ => True) _ _ t485 (fun k_ => k_ < w.heap.size) _ _ l2 t492 t495 _ ?side1 ?side2 A59.out).mono ?_); (case side1 => exact HO487.out); (case side2 => exact Kd.V_mk HC2.out (Kd.F_below (Kd.C_F (Kd.heap_int .i64) HR2.out) (by with_reducible repeat (first | exact HB.out | apply bA | apply bB | apply bC)))); rintro e w68 ⟨v493, rfl, ho0, hb⟩; refine ⟨_, rfl, ?_⟩; have n0_ := Aside0.mk (Kd.V_below (by (with_reducible repeat (first | apply vA | apply vB | apply vC)); exact HO487.out) hb); have n1_ := Aside0.mk (Kd.V_below (by (with_reducible repeat (first | apply vA | apply vB | apply vC)); exact HO490.out) hb); have n2_ := Aside0.mk (Kd.V_lower (Kd.V_mono (ok' := fun k_ => True) ho0 (fun k_ hk_ => trivial)) (below_size (by with_reducible repeat (first | exact HB.out | apply bA | apply bB | apply bC)))); have n3_ := Aside0.mk (below_step (by with_reducible repeat (first | exact HB.out | apply bA | apply bB | apply bC)) hb); clear HO487; clear HO490; clear HB; have HO487 := n0_; have HO490 := n1_; have HO494 := n2_; have HB := n3_; clear n0_ n1_ n2_ n3_; (try clear hb); (try clear hb2); (try clear hk); (try clear hi); (try clear ho0); obtain ⟨Ao69, co69, eo69⟩ := Kd.V_slice HO494.out; subst eo69; obtain ⟨Ao70, co70, eo70⟩ := Kd.V_slice HO490.out; subst eo70) | ((with_reducible refine gate_callee (f := 36) rfl ?_); refine goesL_ (some 159) rfl rfl Try.func36 (by kernel_rfl) rfl #[.int .i64 a0, .slice Ao69 t492.length co69, .slice Ao70 t488.length co70] rfl (by (try simp only [mA, mB, mC]); first | done | rfl | (simp only [lD, lT]; rfl)) ?_; (with_reducible refine (polymod_Add.calls kj39 a0 (fun k_ => True) _ _ t492 (fun k_ => True) _ _ t488 t496 t499 _ ?side1 ?side2 A60.out).mono ?_); (case side1 => exact HO494.out); (case side2 => exact HO490.out); rintro e w71 ⟨v497, rfl, ho0, hb⟩; refine ⟨_, rfl, ?_⟩; have n0_ := Aside0.mk (Kd.V_below (by (with_reducible repeat (first | apply vA | apply vB | apply vC)); exact HO487.out) hb); have n1_ := Aside0.mk (Kd.V_below (by (with_reducible repeat (first | apply vA | apply vB | apply vC)); exact HO490.out) hb); have n2_ := Aside0.mk (Kd.V_below (by (with_reducible repeat (first | apply vA | apply vB | apply vC)); exact HO494.out) hb); have n3_ := Aside0.mk (Kd.V_lower (Kd.V_mono (ok' := fun k_ => True) ho0 (fun k_ hk_ => trivial)) (below_size (by with_reducible repeat (first | exact HB.out | apply bA | apply bB | apply bC)))); have n4_ := Aside0.mk (below_step (by with_reducible repeat (first | exact HB.out | apply bA | apply bB | apply bC)) hb); clear HO487; clear HO490; clear HO494; clear HB; have HO487 := n0_; have HO490 := n1_; have HO494 := n2_; have HO498 := n3_; have HB := n4_; clear n0_ n1_ n2_ n3_ n4_; (try clear hb); (try clear hb2); (try clear hk); (try clear hi); (try clear ho0); obtain ⟨Ao72, co72, eo72⟩ := Kd.V_slice HO498.out; subst eo72) | (go_at_call 37; (with_reducible refine (galoisref09_Same.calls kj39 _ _ t496 _ _ l1 t500 _ ?side1 ?side2 ?side3 ?side4 A65.out).mono ?_); (case side1 => repeat (first | exact (Kd.V_reads' HO498.out).2.2 | (with_reducible refine Kd.C_alloc ?_ _) | (with_reducible refine Kd.C_drewN ?_ _) | (with_reducible refine Kd.C_drew ?_))); (case side2 => exact (Kd.V_reads' HO498.out).2.1); (case side3 => repeat (first | exact (Kd.C_below HR1.out HB.out) | (with_reducible refine Kd.C_alloc ?_ _) | (with_reducible refine Kd.C_drewN ?_ _) | (with_reducible refine Kd.C_drew ?_))); (case side4 => exact HC1.out); rintro e w' ⟨rfl, ⟨nd, rfl⟩⟩))
                            go_ret
                            exact ⟨by first | rfl | (simp [errW_none, errW_some] <;> rfl) | (simp [*, errW_none, errW_some] <;> rfl), by with_reducible repeat (first | exact HB.out | apply bA | apply bB | apply bC)⟩
                          · rw [if_neg c64] at H
                            have c64b0 : decide ((t488.length : Int) < (l2.length : Int)) = false := decide_eq_false c64
                            have c64b1 : decide (t488.length < l2.length) = false := decide_eq_false (fun h => c64 (Int.ofNat_lt.mpr h))
                            clear c64
                            obtain rfl := Option.some.inj H
                            go_wp2_with (first | ((with_reducible refine gate_callee (f := 22) rfl ?_); refine goesL_ (some 144) rfl rfl Try.func22 (by kernel_rfl) rfl #[.int .i64 a0, .slice A1 l1.length c1, .slice A2 l2.length c2] rfl (by (try simp only [mA, mB, mC]); first | done | rfl | (simp only [lD, lT]; rfl)) ?_; (with_reducible refine (polymod_DivMod.calls kj39 a0 (fun k_ => k_ < w.heap.size) _ _ l1 (fun k_ => k_ < w.heap.size) _ _ l2 t485 t488 t491 _ ?side1 ?side2 A58.out).mono ?_); (case side1 => exact Kd.V_mk HC1.out (Kd.F_below (Kd.C_F (Kd.heap_int .i64) HR1.out) (by with_reducible repeat (first | exact HB.out | apply bA | apply bB | apply bC)))); (case side2 => exact Kd.V_mk HC2.out (Kd.F_below (Kd.C_F (Kd.heap_int .i64) HR2.out) (by with_reducible repeat (first | exact HB.out | apply bA | apply bB | apply bC)))); rintro e w73 ⟨v486, v489, rfl, ho0, ho1, hb⟩; refine ⟨_, rfl, ?_⟩; have n0_ := Aside0.mk (Kd.V_lower (Kd.V_mono (ok' := fun k_ => True) ho0 (fun k_ hk_ => trivial)) (below_size (by with_reducible repeat (first | exact HB.out | apply bA | apply bB | apply bC)))); have n1_ := Aside0.mk (Kd.V_lower (Kd.V_mono (ok' := fun k_ => True) ho1 (fun k_ hk_ => trivial)) (below_size (by with_reducible repeat (first | exact HB.out | apply bA | apply bB | apply bC)))); have n2_ := Aside0.mk (below_step (by with_reducible repeat (first | exact HB.out | apply bA | apply bB | apply bC)) hb); clear HB; have HO487 := n0_; have HO490 := n1_; have HB := n2_; clear n0_ n1_ n2_; (try clear hb); (try clear hb2); (try clear hk); (try clear hi); (try clear ho0); (try clear ho1); obtain ⟨Ao74, co74, eo74⟩ := Kd.V_slice HO487.out; subst eo74) | ((with_reducible refine gate_callee (f := 18) rfl ?_); refine goesL_ (some 152) rfl rfl Try.func18 (by kernel_rfl) rfl #[.int .i64 a0, .slice Ao74 t485.length co74, .slice A2 l2.length c2] rfl (by (try simp only [mA, mB, mC]); first | done | rfl | (simp only [lD, lT]; rfl)) ?_; (with_reducible refine (polymod_Mul.calls kj39 a0 (fun k_ => True) _ _ t485 (fun k_ => k_ < w.heap.size) _ _ l2 t492 t495 _ ?side1 ?side2 A59.out).mono ?_); (case side1 => exact HO487.out); (case side2 => exact Kd.V_mk HC2.out (Kd.F_below (Kd.C_F (Kd.heap_int .i64) HR2.out) (by with_reducible repeat (first | exact HB.out | apply bA | apply bB | apply bC)))); rintro e w75 ⟨v493, rfl, ho0, hb⟩; refine ⟨_, rfl, ?_⟩; have n0_ := Aside0.mk (Kd.V_below (by (with_reducible repeat (first | apply vA | apply vB | apply vC)); exact HO487.out) hb); have n1_ := Aside0.mk (Kd.V_below (by (with_reducible repeat (first | apply vA | apply vB | apply vC)); exact HO490.out) hb); have n2_ := Aside0.mk (Kd.V_lower (Kd.V_mono (ok' := fun k_ => True) ho0 (fun k_ hk_ => trivial)) (below_size (by with_reducible repeat (first | exact HB.out | apply bA | apply bB | apply bC)))); have n3_ := Aside0.mk (below_step (by with_reducible repeat (first | exact HB.out | apply bA | apply bB | apply bC)) hb); clear HO487; clear HO490; clear HB; have HO487 := n0_; have HO490 := n1_; have HO494 := n2_; have HB := n3_; clear n0_ n1_ n2_ n3_; (try clear hb); (try clear hb2); (try clear hk); (try clear hi); (try clear ho0); obtain ⟨Ao76, co76, eo76⟩ := Kd.V_slice HO494.out; subst eo76; obtain ⟨Ao77, co77, eo77⟩ := Kd.V_slice HO490.out; subst eo77) | ((with_reducible refine gate_callee (f := 36) rfl ?_); refine goesL_ (some 159) rfl rfl Try.func36 (by kernel_rfl) rfl #[.int .i64 a0, .slice Ao76 t492.length co76, .slice Ao77 t488.length co77] rfl (by (try simp only [mA, mB, mC]); first | done | rfl | (simp only [lD, lT]; rfl)) ?_; (with_reducible refine (polymod_Add.calls kj39 a0 (fun k_ => True) _ _ t492 (fun k_ => True) _ _ t488 t496 t499 _ ?side1 ?side2 A60.out).mono ?_); (case side1 => exact HO494.out); (case side2 => exact HO490.out); rintro e w78 ⟨v497, rfl, ho0, hb⟩; refine ⟨_, rfl, ?_⟩; have n0_ := Aside0.mk (Kd.V_below (by (with_reducible repeat (first | apply vA | apply vB | apply vC)); exact HO487.out) hb); have n1_ := Aside0.mk (Kd.V_below (by (with_reducible repeat (first | apply vA | apply vB | apply vC)); exact HO490.out) hb); have n2_ := Aside0.mk (Kd.V_below (by (with_reducible repeat (first | apply vA | apply vB | apply vC)); exact HO494.out) hb); have n3_ := Aside0.mk (Kd.V_lower (Kd.V_mono (ok' := fun k_ => True) ho0 (fun k_ hk_ => trivial)) (below_size (by with_reducible repeat (first | exact HB.out | apply bA | apply bB | apply bC)))); have n4_ := Aside0.mk (below_step (by with_reducible repeat (first | exact HB.out | apply bA | apply bB | apply bC)) hb); clear HO487; clear HO490; clear HO494; clear HB; have HO487 := n0_; have HO490 := n1_; have HO494 := n2_; have HO498 := n3_; have HB := n4_; clear n0_ n1_ n2_ n3_ n4_; (try clear hb); (try clear hb2); (try clear hk); (try clear hi); (try clear ho0)))
                            go_ret
                            exact ⟨by first | rfl | (simp [errW_none, errW_some] <;> rfl) | (simp [*, errW_none, errW_some] <;> rfl), by with_reducible repeat (first | exact HB.out | apply bA | apply bB | apply bC)⟩
                        · rw [if_neg c63] at H
                          have c63b0 : (t499 == 0) = false := beq_eq_false_iff_ne.mpr c63
                          have c63b1 : (t499 != 0) = true := bne_iff_ne.mpr c63
                          obtain rfl := Option.some.inj H
                          go_wp2_with (first | ((with_reducible refine gate_callee (f := 22) rfl ?_); refine goesL_ (some 144) rfl rfl Try.func22 (by kernel_rfl) rfl #[.int .i64 a0, .slice A1 l1.length c1, .slice A2 l2.length c2] rfl (by (try simp only [mA, mB, mC]); first | done | rfl | (simp only [lD, lT]; rfl)) ?_; (with_reducible refine (polymod_DivMod.calls kj39 a0 (fun k_ => k_ < w.heap.size) _ _ l1 (fun k_ => k_ < w.heap.size) _ _ l2 t485 t488 t491 _ ?side1 ?side2 A58.out).mono ?_); (case side1 => exact Kd.V_mk HC1.out (Kd.F_below (Kd.C_F (Kd.heap_int .i64) HR1.out) (by with_reducible repeat (first | exact HB.out | apply bA | apply bB | apply bC)))); (case side2 => exact Kd.V_mk HC2.out (Kd.F_below (Kd.C_F (Kd.heap_int .i64) HR2.out) (by with_reducible repeat (first | exact HB.out | apply bA | apply bB | apply bC)))); rintro e w79 ⟨v486, v489, rfl, ho0, ho1, hb⟩; refine ⟨_, rfl, ?_⟩; have n0_ := Aside0.mk (Kd.V_lower (Kd.V_mono (ok' := fun k_ => True) ho0 (fun k_ hk_ => trivial)) (below_size (by with_reducible repeat (first | exact HB.out | apply bA | apply bB | apply bC)))); have n1_ := Aside0.mk (Kd.V_lower (Kd.V_mono (ok' := fun k_ => True) ho1 (fun k_ hk_ => trivial)) (below_size (by with_reducible repeat (first | exact HB.out | apply bA | apply bB | apply bC)))); have n2_ := Aside0.mk (below_step (by with_reducible repeat (first | exact HB.out | apply bA | apply bB | apply bC)) hb); clear HB; have HO487 := n0_; have HO490 := n1_; have HB := n2_; clear n0_ n1_ n2_; (try clear hb); (try clear hb2); (try clear hk); (try clear hi); (try clear ho0); (try clear ho1); obtain ⟨Ao80, co80, eo80⟩ := Kd.V_slice HO487.out; subst eo80) | ((with_reducible refine gate_callee (f := 18) rfl ?_); refine goesL_ (some 152) rfl rfl Try.func18 (by kernel_rfl) rfl #[.int .i64 a0, .slice Ao80 t485.length co80, .slice A2 l2.length c2] rfl (by (try simp only [mA, mB, mC]); first | done | rfl | (simp only [lD, lT]; rfl)) ?_; (with_reducible refine (polymod_Mul.calls kj39 a0 (fun k_ => True) _ _ t485 (fun k_ => k_ < w.heap.size) _ _ l2 t492 t495 _ ?side1 ?side2 A59.out).mono ?_); (case side1 => exact HO487.out); (case side2 => exact Kd.V_mk HC2.out (Kd.F_below (Kd.C_F (Kd.heap_int .i64) HR2.out) (by with_reducible repeat (first | exact HB.out | apply bA | apply bB | apply bC)))); rintro e w81 ⟨v493, rfl, ho0, hb⟩; refine ⟨_, rfl, ?_⟩; have n0_ := Aside0.mk (Kd.V_below (by (with_reducible repeat (first | apply vA | apply vB | apply vC)); exact HO487.out) hb); have n1_ := Aside0.mk (Kd.V_below (by (with_reducible repeat (first | apply vA | apply vB | apply vC)); exact HO490.out) hb); have n2_ := Aside0.mk (Kd.V_lower (Kd.V_mono (ok' := fun k_ => True) ho0 (fun k_ hk_ => trivial)) (below_size (by with_reducible repeat (first | exact HB.out | apply bA | apply bB | apply bC)))); have n3_ := Aside0.mk (below_step (by with_reducible repeat (first | exact HB.out | apply bA | apply bB | apply bC)) hb); clear HO487; clear HO490; clear HB; have HO487 := n0_; have HO490 := n1_; have HO494 := n2_; have HB := n3_; clear n0_ n1_ n2_ n3_; (try clear hb); (try clear hb2); (try clear hk); (try clear hi); (try clear ho0); obtain ⟨Ao82, co82, eo82⟩ := Kd.V_slice HO494.out; subst eo82; obtain ⟨Ao83, co83, eo83⟩ := Kd.V_slice HO490.out; subst eo83) | ((with_reducible refine gate_callee (f := 36) rfl ?_); refine goesL_ (some 159) rfl rfl Try.func36 (by kernel_rfl) rfl #[.int .i64 a0, .slice Ao82 t492.length co82, .slice Ao83 t488.length co83] rfl (by (try simp only [mA, mB, mC]); first | done | rfl | (simp only [lD, lT]; rfl)) ?_; (with_reducible refine (polymod_Add.calls kj39 a0 (fun k_ => True) _ _ t492 (fun k_ => True) _ _ t488 t496 t499 _ ?side1 ?side2 A60.out).mono ?_); (case side1 => exact HO494.out); (case side2 => exact HO490.out); rintro e w84 ⟨v497, rfl, ho0, hb⟩; refine ⟨_, rfl, ?_⟩; have n0_ := Aside0.mk (Kd.V_below (by (with_reducible repeat (first | apply vA | apply vB | apply vC)); exact HO487.out) hb); have n1_ := Aside0.mk (Kd.V_below (by (with_reducible repeat (first | apply vA | apply vB | apply vC)); exact HO490.out) hb); have n2_ := Aside0.mk (Kd.V_below (by (with_reducible repeat (first | apply vA | apply vB | apply vC)); exact HO494.out) hb); have n3_ := Aside0.mk (Kd.V_lower (Kd.V_mono (ok' := fun k_ => True) ho0 (fun k_ hk_ => trivial)) (below_size (by with_reducible repeat (first | exact HB.out | apply bA | apply bB | apply bC)))); have n4_ := Aside0.mk (below_step (by with_reducible repeat (first | exact HB.out | apply bA | apply bB | apply bC)) hb); clear HO487; clear HO490; clear HO494; clear HB; have HO487 := n0_; have HO490 := n1_; have HO494 := n2_; have HO498 := n3_; have HB := n4_; clear n0_ n1_ n2_ n3_ n4_; (try clear hb); (try clear hb2); (try clear hk); (try clear hi); (try clear ho0)))
                          go_ret
                          exact ⟨by first | rfl | (simp [errW_none, errW_some] <;> rfl) | (simp [*, errW_none, errW_some] <;> rfl), by with_reducible repeat (first | exact HB.out | apply bA | apply bB | apply bC)⟩
                      · rw [if_neg c62] at H
                        have c62b0 : (t495 == 0) = false := beq_eq_false_iff_ne.mpr c62
                        have c62b1 : (t495 != 0) = true := bne_iff_ne.mpr c62
                        obtain rfl := Option.some.inj H
                        go_wp2_with (first | ((with_reducible refine gate_callee (f := 22) rfl ?_); refine goesL_ (some 144) rfl rfl Try.func22 (by kernel_rfl) rfl #[.int .i64 a0, .slice A1 l1.length c1, .slice A2 l2.length c2] rfl (by (try simp only [mA, mB, mC]); first | done | rfl | (simp only [lD, lT]; rfl)) ?_; (with_reducible refine (polymod_DivMod.calls kj39 a0 (fun k_ => k_ < w.heap.size) _ _ l1 (fun k_ => k_ < w.heap.size) _ _ l2 t485 t488 t491 _ ?side1 ?side2 A58.out).mono ?_); (case side1 => exact Kd.V_mk HC1.out (Kd.F_below (Kd.C_F (Kd.heap_int .i64) HR1.out) (by with_reducible repeat (first | exact HB.out | apply bA | apply bB | apply bC)))); (case side2 => exact Kd.V_mk HC2.out (Kd.F_below (Kd.C_F (Kd.heap_int .i64) HR2.out) (by with_reducible repeat (first | exact HB.out | apply bA | apply bB | apply bC)))); rintro e w85 ⟨v486, v489, rfl, ho0, ho1, hb⟩; refine ⟨_, rfl, ?_⟩; have n0_ := Aside0.mk (Kd.V_lower (Kd.V_mono (ok' := fun k_ => True) ho0 (fun k_ hk_ => trivial)) (below_size (by with_reducible repeat (first | exact HB.out | apply bA | apply bB | apply bC)))); have n1_ := Aside0.mk (Kd.V_lower (Kd.V_mono (ok' := fun k_ => True) ho1 (fun k_ hk_ => trivial)) (below_size (by with_reducible repeat (first | exact HB.out | apply bA | apply bB | apply bC)))); have n2_ := Aside0.mk (below_step (by with_reducible repeat (first | exact HB.out | apply bA | apply bB | apply bC)) hb); clear HB; have HO487 := n0_; have HO490 := n1_; have HB := n2_; clear n0_ n1_ n2_; (try clear hb); (try clear hb2); (try clear hk); (try clear hi); (try clear ho0); (try clear ho1); obtain ⟨Ao86, co86, eo86⟩ := Kd.V_slice HO487.out; subst eo86) | ((with_reducible refine gate_callee (f := 18) rfl ?_); refine goesL_ (some 152) rfl rfl Try.func18 (by kernel_rfl) rfl #[.int .i64 a0, .slice Ao86 t485.length co86, .slice A2 l2.length c2] rfl (by (try simp only [mA, mB, mC]); first | done | rfl | (simp only [lD, lT]; rfl)) ?_; (with_reducible refine (polymod_Mul.calls kj39 a0 (fun k_ => True) _ _ t485 (fun k_ => k_ < w.heap.size) _ _ l2 t492 t495 _ ?side1 ?side2 A59.out).mono ?_); (case side1 => exact HO487.out); (case side2 => exact Kd.V_mk HC2.out (Kd.F_below (Kd.C_F (Kd.heap_int .i64) HR2.out) (by with_reducible repeat (first | exact HB.out | apply bA | apply bB | apply bC)))); rintro e w87 ⟨v493, rfl, ho0, hb⟩; refine ⟨_, rfl, ?_⟩; have n0_ := Aside0.mk (Kd.V_below (by (with_reducible repeat (first | apply vA | apply vB | apply vC)); exact HO487.out) hb); have n1_ := Aside0.mk (Kd.V_below (by (with_reducible repeat (first | apply vA | apply vB | apply vC)); exact HO490.out) hb); have n2_ := Aside0.mk (Kd.V_lower (Kd.V_mono (ok' := fun k_ => True) ho0 (fun k_ hk_ => trivial)) (below_size (by with_reducible repeat (first | exact HB.out | apply bA | apply bB | apply bC)))); have n3_ := Aside0.mk (below_step (by with_reducible repeat (first | exact HB.out | apply bA | apply bB | apply bC)) hb); clear HO487; clear HO490; clear HB; have HO487 := n0_; have HO490 := n1_; have HO494 := n2_; have HB := n3_; clear n0_ n1_ n2_ n3_; (try clear hb); (try clear hb2); (try clear hk); (try clear hi); (try clear ho0); obtain ⟨Ao88, co88, eo88⟩ := Kd.V_slice HO494.out; subst eo88; obtain ⟨Ao89, co89, eo89⟩ := Kd.V_slice HO490.out; subst eo89) | ((with_reducible refine gate_callee (f := 36) rfl ?_); refine goesL_ (some 159) rfl rfl Try.func36 (by kernel_rfl) rfl #[.int .i64 a0, .slice Ao88 t492.length co88, .slice Ao89 t488.length co89] rfl (by (try simp only [mA, mB, mC]); first | done | rfl | (simp only [lD, lT]; rfl)) ?_; (with_reducible refine (polymod_Add.calls kj39 a0 (fun k_ => True) _ _ t492 (fun k_ => True) _ _ t488 t496 t499 _ ?side1 ?side2 A60.out).mono ?_); (case side1 => exact HO494.out); (case side2 => exact HO490.out); rintro e w90 ⟨v497, rfl, ho0, hb⟩; refine ⟨_, rfl, ?_⟩; have n0_ := Aside0.mk (Kd.V_below (by (with_reducible repeat (first | apply vA | apply vB | apply vC)); exact HO487.out) hb); have n1_ := Aside0.mk (Kd.V_below (by (with_reducible repeat (first | apply vA | apply vB | apply vC)); exact HO490.out) hb); have n2_ := Aside0.mk (Kd.V_below (by (with_reducible repeat (first | apply vA | apply vB | apply vC)); exact HO494.out) hb); have n3_ := Aside0.mk (Kd.V_lower (Kd.V_mono (ok' := fun k_ => True) ho0 (fun k_ hk_ => trivial)) (below_size (by with_reducible repeat (first | exact HB.out | apply bA | apply bB | apply bC)))); have n4_ := Aside0.mk (below_step (by with_reducible repeat (first | exact HB.out | apply bA | apply bB | apply bC)) hb); clear HO487; clear HO490; clear HO494; clear HB; have HO487 := n0_; have HO490 := n1_; have HO494 := n2_; have HO498 := n3_; have HB := n4_; clear n0_ n1_ n2_ n3_ n4_; (try clear hb); (try clear hb2); (try clear hk); (try clear hi); (try clear ho0)))
                        go_ret
                        exact ⟨by first | rfl | (simp [errW_none, errW_some] <;> rfl) | (simp [*, errW_none, errW_some] <;> rfl), by with_reducible repeat (first | exact HB.out | apply bA | apply bB | apply bC)⟩
                    · rw [if_neg c61] at H
                      have c61b0 : (t491 == 0) = false := beq_eq_false_iff_ne.mpr c61
                      have c61b1 : (t491 != 0) = true := bne_iff_ne.mpr c61
                      obtain rfl := Option.some.inj H
                      go_wp2_with (first | ((with_reducible refine gate_callee (f := 22) rfl ?_); refine goesL_ (some 144) rfl rfl Try.func22 (by kernel_rfl) rfl #[.int .i64 a0, .slice A1 l1.length c1, .slice A2 l2.length c2] rfl (by (try simp only [mA, mB, mC]); first | done | rfl | (simp only [lD, lT]; rfl)) ?_; (with_reducible refine (polymod_DivMod.calls kj39 a0 (fun k_ => k_ < w.heap.size) _ _ l1 (fun k_ => k_ < w.heap.size) _ _ l2 t485 t488 t491 _ ?side1 ?side2 A58.out).mono ?_); (case side1 => exact Kd.V_mk HC1.out (Kd.F_below (Kd.C_F (Kd.heap_int .i64) HR1.out) (by with_reducible repeat (first | exact HB.out | apply bA | apply bB | apply bC)))); (case side2 => exact Kd.V_mk HC2.out (Kd.F_below (Kd.C_F (Kd.heap_int .i64) HR2.out) (by with_reducible repeat (first | exact HB.out | apply bA | apply bB | apply bC)))); rintro e w91 ⟨v486, v489, rfl, ho0, ho1, hb⟩; refine ⟨_, rfl, ?_⟩; have n0_ := Aside0.mk (Kd.V_lower (Kd.V_mono (ok' := fun k_ => True) ho0 (fun k_ hk_ => trivial)) (below_size (by with_reducible repeat (first | exact HB.out | apply bA | apply bB | apply bC)))); have n1_ := Aside0.mk (Kd.V_lower (Kd.V_mono (ok' := fun k_ => True) ho1 (fun k_ hk_ => trivial)) (below_size (by with_reducible repeat (first | exact HB.out | apply bA | apply bB | apply bC)))); have n2_ := Aside0.mk (below_step (by with_reducible repeat (first | exact HB.out | apply bA | apply bB | apply bC)) hb); clear HB; have HO487 := n0_; have HO490 := n1_; have HB := n2_; clear n0_ n1_ n2_; (try clear hb); (try clear hb2); (try clear hk); (try clear hi); (try clear ho0); (try clear ho1); obtain ⟨Ao92, co92, eo92⟩ := Kd.V_slice HO487.out; subst eo92) | ((with_reducible refine gate_callee (f := 18) rfl ?_); refine goesL_ (some 152) rfl rfl Try.func18 (by kernel_rfl) rfl #[.int .i64 a0, .slice Ao92 t485.length co92, .slice A2 l2.length c2] rfl (by (try simp only [mA, mB, mC]); first | done | rfl | (simp only [lD, lT]; rfl)) ?_; (with_reducible refine (polymod_Mul.calls kj39 a0 (fun k_ => True) _ _ t485 (fun k_ => k_ < w.heap.size) _ _ l2 t492 t495 _ ?side1 ?side2 A59.out).mono ?_); (case side1 => exact HO487.out); (case side2 => exact Kd.V_mk HC2.out (Kd.F_below (Kd.C_F (Kd.heap_int .i64) HR2.out) (by with_reducible repeat (first | exact HB.out | apply bA | apply bB | apply bC)))); rintro e w93 ⟨v493, rfl, ho0, hb⟩; refine ⟨_, rfl, ?_⟩; have n0_ := Aside0.mk (Kd.V_below (by (with_reducible repeat (first | apply vA | apply vB | apply vC)); exact HO487.out) hb); have n1_ := Aside0.mk (Kd.V_below (by (with_reducible repeat (first | apply vA | apply vB | apply vC)); exact HO490.out) hb); have n2_ := Aside0.mk (Kd.V_lower (Kd.V_mono (ok' := fun k_ => True) ho0 (fun k_ hk_ => trivial)) (below_size (by with_reducible repeat (first | exact HB.out | apply bA | apply bB | apply bC)))); have n3_ := Aside0.mk (below_step (by with_reducible repeat (first | exact HB.out | apply bA | apply bB | apply bC)) hb); clear HO487; clear HO490; clear HB; have HO487 := n0_; have HO490 := n1_; have HO494 := n2_; have HB := n3_; clear n0_ n1_ n2_ n3_; (try clear hb); (try clear hb2); (try clear hk); (try clear hi); (try clear ho0); obtain ⟨Ao94, co94, eo94⟩ := Kd.V_slice HO494.out; subst eo94; obtain ⟨Ao95, co95, eo95⟩ := Kd.V_slice HO490.out; subst eo95) | ((with_reducible refine gate_callee (f := 36) rfl ?_); refine goesL_ (some 159) rfl rfl Try.func36 (by kernel_rfl) rfl #[.int .i64 a0, .slice Ao94 t492.length co94, .slice Ao95 t488.length co95] rfl (by (try simp only [mA, mB, mC]); first | done | rfl | (simp only [lD, lT]; rfl)) ?_; (with_reducible refine (polymod_Add.calls kj39 a0 (fun k_ => True) _ _ t492 (fun k_ => True) _ _ t488 t496 t499 _ ?side1 ?side2 A60.out).mono ?_); (case side1 => exact HO494.out); (case side2 => exact HO490.out); rintro e w96 ⟨v497, rfl, ho0, hb⟩; refine ⟨_, rfl, ?_⟩; have n0_ := Aside0.mk (Kd.V_below (by (with_reducible repeat (first | apply vA | apply vB | apply vC)); exact HO487.out) hb); have n1_ := Aside0.mk (Kd.V_below (by (with_reducible repeat (first | apply vA | apply vB | apply vC)); exact HO490.out) hb); have n2_ := Aside0.mk (Kd.V_below (by (with_reducible repeat (first | apply vA | apply vB | apply vC)); exact HO494.out) hb); have n3_ := Aside0.mk (Kd.V_lower (Kd.V_mono (ok' := fun k_ => True) ho0 (fun k_ hk_ => trivial)) (below_size (by with_reducible repeat (first | exact HB.out | apply bA | apply bB | apply bC)))); have n4_ := Aside0.mk (below_step (by with_reducible repeat (first | exact HB.out | apply bA | apply bB | apply bC)) hb); clear HO487; clear HO490; clear HO494; clear HB; have HO487 := n0_; have HO490 := n1_; have HO494 := n2_; have HO498 := n3_; have HB := n4_; clear n0_ n1_ n2_ n3_ n4_; (try clear hb); (try clear hb2); (try clear hk); (try clear hi); (try clear ho0)))
                      go_ret
                      exact ⟨by first | rfl | (simp [errW_none, errW_some] <;> rfl) | (simp [*, errW_none, errW_some] <;> rfl), by with_reducible repeat (first | exact HB.out | apply bA | apply bB | apply bC)⟩

/-- THE ONE PURE STATEMENT of galoislaw09_PolymodBezout: yours. -/
def galoislaw09_PolymodBezout.Pure : Prop := ∀ (a0 : Int) (l1 : List Int) (l2 : List Int), (Lit.int .i64 a0).wf = true → l1.length ≤ maxLen → l1.length * 8 ≤ 140737488351232 → (∀ x ∈ l1, (Lit.int .i64 x).wf = true) → l2.length ≤ maxLen → l2.length * 8 ≤ 140737488351232 → (∀ x ∈ l2, (Lit.int .i64 x).wf = true) → ∃ k, galoislaw09_PolymodBezout.f k a0 l1 l2 = some true
theorem galoislaw09_PolymodBezout.walk (P : galoislaw09_PolymodBezout.Pure) (a0 : Int) (a1 : Option Addr) (len1 cap1 : Nat) (z1 : List Int) (a2 : Option Addr) (len2 cap2 : Nat) (z2 : List Int) (w : World) (w0 : (Lit.int .i64 a0).wf = true) (w1 : (a1 = none ∧ len1 = 0 ∧ cap1 = 0 ∧ z1 = []) ∨ ∃ x, a1 = some x ∧ len1 ≤ cap1 ∧ cap1 ≤ maxLen ∧ z1.length = cap1 ∧ (∀ i, i < z1.length → w.cell? (x.add i) = some (.int .i64 (z1.getD i 0))) ∧ ∀ n ∈ z1, (Lit.int .i64 n).wf = true) (y1 : len1 * 8 ≤ 140737488351232) (w2 : (a2 = none ∧ len2 = 0 ∧ cap2 = 0 ∧ z2 = []) ∨ ∃ x, a2 = some x ∧ len2 ≤ cap2 ∧ cap2 ≤ maxLen ∧ z2.length = cap2 ∧ (∀ i, i < z2.length → w.cell? (x.add i) = some (.int .i64 (z2.getD i 0))) ∧ ∀ n ∈ z2, (Lit.int .i64 n).wf = true) (y2 : len2 * 8 ≤ 140737488351232) :
 Calls Try.prog 8 #[.int .i64 a0, .slice a1 len1 cap1, .slice a2 len2 cap2] w fun e w' => e = .returned (.bool true) ∧ Below w.heap.size w w' := by
 obtain ⟨l1, rfl, hr1, hm1, hw1, hc1⟩ := ReadsInt.ofRowC w1
 obtain ⟨l2, rfl, hr2, hm2, hw2, hc2⟩ := ReadsInt.ofRowC w2
 obtain ⟨k, h⟩ := P a0 l1 l2 w0 hm1 y1 hw1 hm2 y2 hw2
 refine (galoislaw09_PolymodBezout.calls k a0 _ _ l1 _ _ l2 true w (Kd.C_of_reads (d := (0 : Int)) (h1 := fun _ => rfl) hr1) hc1 (Kd.C_of_reads (d := (0 : Int)) (h1 := fun _ => rfl) hr2) hc2 h).mono ?_
 rintro e w' ⟨rfl, hd⟩
 exact ⟨rfl, hd⟩

end Go.Proofs.Ytmknclgamadphaa.PPolymodBezout
