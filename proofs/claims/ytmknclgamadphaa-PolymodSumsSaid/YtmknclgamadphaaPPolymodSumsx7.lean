-- WRITTEN BY sprint.py (a program of this repo, over the kit's print.py): nothing here is trusted, Lean checks it.
import Derived.Test.YtmknclgamadphaaPPolymodSumsx0
import Derived.Test.YtmknclgamadphaaPPolymodSumsx1
import Derived.Test.YtmknclgamadphaaPPolymodSumsx2
import Derived.Test.YtmknclgamadphaaPPolymodSumsx3
import Derived.Test.YtmknclgamadphaaPPolymodSumsx5
import Derived.Test.YtmknclgamadphaaPPolymodSumsx6
namespace Go.Proofs.Ytmknclgamadphaa.PPolymodSums
open Go.RowKit Go.Proofs.YtmknclgamadphaaW.PrintWords Go.Proofs.YtmknclgamadphaaW.PrintLast Go.Proofs.YtmknclgamadphaaW.PrintMore
attribute [local go_sem] max2_int min2_int max_two min_two max_three min_three max_four min_four   -- for this text's walks alone
set_option linter.unusedVariables false
set_option linter.unusedSimpArgs false

/-! ### polymod_Mul: function 18 -/
def polymod_Mul.f (k : Nat) (a0 : Int) (l1 : List Int) (l2 : List Int) : Option (List Int × Int) := (polymod_first.f k a0 (([l1, l2] : List (List Int)))).bind fun t352 => (if t352 = 0 then ((fp_Mul.f k a0 l1 l2).bind fun t353 => ((polymod_bounded.f k t353).bind fun bt356 => (some (bt356.1, bt356.2)))) else (some (([] : List Int), t352)))
theorem polymod_Mul.mono : ∀ a0 a1 a2 k, LeO (polymod_Mul.f k a0 a1 a2) (polymod_Mul.f (k + 1) a0 a1 a2) := by
 intro a0 a1 a2 k
 unfold polymod_Mul.f
 repeat' first
  | (with_reducible apply fp_Mul.mono)
  | (with_reducible apply polymod_bounded.mono)
  | (with_reducible apply polymod_first.mono)
  | (with_reducible apply LeO.refl)
  | (with_reducible apply LeO.none)
  | (with_reducible refine LeO.ite ?_ ?_)
  | (with_reducible refine LeO.bind ?_ (fun _ => ?_))
set_option maxHeartbeats 8000000 in
set_option maxRecDepth 100000 in
theorem polymod_Mul.calls (k : Nat) (a0 : Int) (P1_ : Nat → Prop) (A1 : Option Addr) (c1 : Nat) (l1 : List Int) (P2_ : Nat → Prop) (A2 : Option Addr) (c2 : Nat) (l2 : List Int) (r1 : List Int) (r2 : Int) (w : World) (hs1 : Kd.V (Kd.int .i64) 3 w w.heap.size (fun k_ => P1_ k_) (.slice A1 l1.length c1) l1) (hs2 : Kd.V (Kd.int .i64) 3 w w.heap.size (fun k_ => P2_ k_) (.slice A2 l2.length c2) l2) (h : polymod_Mul.f k a0 l1 l2 = some (r1, r2)) :
 Calls Try.prog 18 #[.int .i64 a0, .slice A1 l1.length c1, .slice A2 l2.length c2] w fun e w' => ∃ v0_ : Value, e = .returned (.tuple #[v0_, .int .i64 r2]) ∧ Kd.V (Kd.int .i64) 3 w' w.heap.size (fun k_ => ((P1_ k_ ∨ P2_ k_) ∨ w.heap.size ≤ k_)) v0_ r1 ∧ Below w.heap.size w w' := by
 have HO1 := Aside0.mk (show Kd.V (Kd.int .i64) 3 w w.heap.size (fun k_ => ((P1_ k_ ∨ P2_ k_) ∨ w.heap.size ≤ k_)) (.slice A1 l1.length c1) l1 from Kd.V_mono hs1 (fun k_ hk => .inl (.inl hk)))
 have HO2 := Aside0.mk (show Kd.V (Kd.int .i64) 3 w w.heap.size (fun k_ => ((P1_ k_ ∨ P2_ k_) ∨ w.heap.size ≤ k_)) (.slice A2 l2.length c2) l2 from Kd.V_mono hs2 (fun k_ hk => .inl (.inr hk)))
 have HB := Aside0.mk (Below.refl w.heap.size w)
 have H : ((polymod_first.f k a0 (([l1, l2] : List (List Int)))).bind fun t352 => (if t352 = 0 then ((fp_Mul.f k a0 l1 l2).bind fun t353 => ((polymod_bounded.f k t353).bind fun bt356 => (some (bt356.1, bt356.2)))) else (some (([] : List Int), t352)))) = some (r1, r2) := h
 clear h
 obtain ⟨y349, hy349⟩ : ∃ y_ : List (List Int), y_ = (([l1, l2] : List (List Int))) := ⟨_, rfl⟩
 replace H : ((polymod_first.f k a0 y349).bind fun t352 => (if t352 = 0 then ((fp_Mul.f k a0 l1 l2).bind fun t353 => ((polymod_bounded.f k t353).bind fun bt356 => (some (bt356.1, bt356.2)))) else (some (([] : List Int), t352)))) = some (r1, r2) := by first | (rw [hy349]; with_reducible exact H) | (have H2_ := (Option.bind_some _ _).symm.trans H; rw [hy349]; with_reducible exact H2_) | (have H2_ := (Option.bind_some _ _).symm.trans H; with_reducible exact H2_) | with_reducible exact H | (rw [hy349]; exact H) | exact H
 have Ny349 := Aside0.mk hy349
 clear hy349
 replace H := Option.bind_eq_some_iff.mp H
 obtain ⟨t352, A40, H⟩ := H
 replace H : (if t352 = 0 then ((fp_Mul.f k a0 l1 l2).bind fun t353 => ((polymod_bounded.f k t353).bind fun bt356 => (some (bt356.1, bt356.2)))) else (some (([] : List Int), t352))) = some (r1, r2) := H
 have A4 := Aside0.mk A40
 clear A40
 by_cases c5 : t352 = 0
 · rw [if_pos c5] at H
   have c5b0 : (t352 == 0) = true := beq_iff_eq.mpr c5
   have c5b1 : (t352 != 0) = false := bne_eq_false_iff_eq.mpr c5
   clear c5
   replace H := Option.bind_eq_some_iff.mp H
   obtain ⟨t353, A60, H⟩ := H
   replace H : ((polymod_bounded.f k t353).bind fun bt356 => (some (bt356.1, bt356.2))) = some (r1, r2) := H
   have A6 := Aside0.mk A60
   clear A60
   replace H := Option.bind_eq_some_iff.mp H
   obtain ⟨⟨t356, t359⟩, A70, H⟩ := H
   replace H : (some (t356, t359)) = some (r1, r2) := H
   have A7 := Aside0.mk A70
   clear A70
   simp only [Option.some.injEq, Prod.mk.injEq] at H
   obtain ⟨rfl, rfl⟩ := H
   go_enter Try.func18, Try.ntmps18
   go_wp2_with (first | ((with_reducible refine gate_dst (N := 12) rfl ?_); refine Kd.N_lit (Kd.slice 3 (Kd.int .i64)) _ 23 ?hg (N' := 12) ?hd (xs := ([l1, l2] : List (List Int))) (inner := [.slice A1 l1.length c1, .slice A2 l2.length c2]) (ok := (fun k_ => ((P1_ k_ ∨ P2_ k_) ∨ w.heap.size ≤ k_))) (okp := (fun k_ => ((P1_ k_ ∨ P2_ k_) ∨ w.heap.size ≤ k_))) ?hr ?hp (fun _ hk => hk) ((show ∀ k_, w.heap.size ≤ k_ → (fun k_ => ((P1_ k_ ∨ P2_ k_) ∨ w.heap.size ≤ k_)) k_ from fun k_ hk => (.inr (Nat.le_trans (below_size (by with_reducible repeat (first | exact HB.out | apply bA | apply bB | apply bC))) hk))) _ (Nat.le_refl _)) (Below.refl _ _) (Nat.le_refl _) (by simp) ?_; (case hd => rfl); (case hg => rfl); (case hr => first | (go_simp; done) | (go_simp; rfl)); (case hp => exact (Reps.one (show Kd.FK (Kd.slice 3 (Kd.int .i64)) _ _ l1 [.slice A1 l1.length c1] from (Kd.FK_slice_mk (Kd.V_reads' (Kd.V_mono (ok' := (fun k_ => ((P1_ k_ ∨ P2_ k_) ∨ w.heap.size ≤ k_))) (HO1.out) (fun k_ hk => hk))).2.1 (Kd.V_F (Kd.V_mono (ok' := (fun k_ => ((P1_ k_ ∨ P2_ k_) ∨ w.heap.size ≤ k_))) (HO1.out) (fun k_ hk => hk))))) (Reps.one (show Kd.FK (Kd.slice 3 (Kd.int .i64)) _ _ l2 [.slice A2 l2.length c2] from (Kd.FK_slice_mk (Kd.V_reads' (Kd.V_mono (ok' := (fun k_ => ((P1_ k_ ∨ P2_ k_) ∨ w.heap.size ≤ k_))) (HO2.out) (fun k_ hk => hk))).2.1 (Kd.V_F (Kd.V_mono (ok' := (fun k_ => ((P1_ k_ ∨ P2_ k_) ∨ w.heap.size ≤ k_))) (HO2.out) (fun k_ hk => hk))))) (Reps.none _ _)))); intro v350 w8 ho9 hb hg_ hnew_; clear hg_ hnew_; (first | rw [← Ny349.out] at ho9 | (simp only [Int.reduceToNat] at ho9; rw [← Ny349.out] at ho9)); have n0_ := Aside0.mk (Kd.V_elder' (by (with_reducible repeat (first | apply vA | apply vB | apply vC)); exact HO1.out) (Kd.N_base ho9) hb); have n1_ := Aside0.mk (Kd.V_elder' (by (with_reducible repeat (first | apply vA | apply vB | apply vC)); exact HO2.out) (Kd.N_base ho9) hb); have n2_ := Aside0.mk (Kd.N_lower ho9 (below_size (by with_reducible repeat (first | exact HB.out | apply bA | apply bB | apply bC)))); have n3_ := Aside0.mk (below_step (by with_reducible repeat (first | exact HB.out | apply bA | apply bB | apply bC)) hb); clear HO1; clear HO2; clear HB; have HO1 := n0_; have HO2 := n1_; have HO351 := n2_; have HB := n3_; clear n0_ n1_ n2_ n3_; clear hb ho9; obtain ⟨Ao10, co10, eo10⟩ := Kd.N_slice HO351.out; subst eo10) | ((with_reducible refine gate_callee (f := 60) rfl ?_); refine goesL_ (some 13) rfl rfl Try.func60 (by kernel_rfl) rfl #[.int .i64 a0, .slice Ao10 y349.length co10] rfl (by (try simp only [mA, mB, mC]); first | done | rfl | (simp only [lD, lT]; rfl)) ?_; (with_reducible refine (polymod_first.calls k a0 _ _ y349 t352 _ ?side1 ?side2 A4.out).mono ?_); (case side1 => repeat (first | exact (Kd.N_reads' HO351.out).2.2 | (with_reducible refine Kd.C_alloc ?_ _) | (with_reducible refine Kd.C_drewN ?_ _) | (with_reducible refine Kd.C_drew ?_))); (case side2 => exact (Kd.N_reads' HO351.out).2.1); rintro e w11 ⟨rfl, hb⟩; refine ⟨_, rfl, ?_⟩; have n0_ := Aside0.mk (Kd.V_below (by (with_reducible repeat (first | apply vA | apply vB | apply vC)); exact HO1.out) hb); have n1_ := Aside0.mk (Kd.V_below (by (with_reducible repeat (first | apply vA | apply vB | apply vC)); exact HO2.out) hb); have n2_ := Aside0.mk (Kd.N_below (by (with_reducible repeat (first | apply Kd.N_alloc | apply Kd.N_drewN | apply Kd.N_drew)); exact HO351.out) hb); have n3_ := Aside0.mk (below_step (by with_reducible repeat (first | exact HB.out | apply bA | apply bB | apply bC)) hb); clear HO1; clear HO2; clear HO351; clear HB; have HO1 := n0_; have HO2 := n1_; have HO351 := n2_; have HB := n3_; clear n0_ n1_ n2_ n3_; (try clear hb); (try clear hb2); (try clear hk); (try clear hi)) | ((with_reducible refine gate_callee (f := 67) rfl ?_); refine goesL_ (some 20) rfl rfl Try.func67 (by kernel_rfl) rfl #[.int .i64 a0, .slice A1 l1.length c1, .slice A2 l2.length c2] rfl (by (try simp only [mA, mB, mC]); first | done | rfl | (simp only [lD, lT]; rfl)) ?_; (with_reducible refine (fp_Mul.calls k a0 _ _ l1 _ _ l2 t353 _ ?side1 ?side2 ?side3 ?side4 A6.out).mono ?_); (case side1 => repeat (first | exact (Kd.V_reads' HO1.out).2.2 | (with_reducible refine Kd.C_alloc ?_ _) | (with_reducible refine Kd.C_drewN ?_ _) | (with_reducible refine Kd.C_drew ?_))); (case side2 => exact (Kd.V_reads' HO1.out).2.1); (case side3 => repeat (first | exact (Kd.V_reads' HO2.out).2.2 | (with_reducible refine Kd.C_alloc ?_ _) | (with_reducible refine Kd.C_drewN ?_ _) | (with_reducible refine Kd.C_drew ?_))); (case side4 => exact (Kd.V_reads' HO2.out).2.1); rintro e w12 ⟨v354, rfl, ho0, hb⟩; refine ⟨_, rfl, ?_⟩; have n0_ := Aside0.mk (Kd.V_below (by (with_reducible repeat (first | apply vA | apply vB | apply vC)); exact HO1.out) hb); have n1_ := Aside0.mk (Kd.V_below (by (with_reducible repeat (first | apply vA | apply vB | apply vC)); exact HO2.out) hb); have n2_ := Aside0.mk (Kd.N_below (by (with_reducible repeat (first | apply Kd.N_alloc | apply Kd.N_drewN | apply Kd.N_drew)); exact HO351.out) hb); have n3_ := Aside0.mk (Kd.V_lower (Kd.V_mono (ok' := fun k_ => ((P1_ k_ ∨ P2_ k_) ∨ w.heap.size ≤ k_) ∧ some k_ ≠ (.slice Ao10 y349.length co10 : Value).ownBlock) ho0 (fun k_ hk_ => ⟨(.inr (Nat.le_trans (below_size (by with_reducible repeat (first | exact HB.out | apply bA | apply bB | apply bC))) hk_)), (Kd.fresh' (Kd.N_lt (by (with_reducible repeat (first | apply Kd.N_alloc | apply Kd.N_drewN | apply Kd.N_drew)); exact HO351.out)) k_ hk_)⟩)) (below_size (by with_reducible repeat (first | exact HB.out | apply bA | apply bB | apply bC)))); have n4_ := Aside0.mk (below_step (by with_reducible repeat (first | exact HB.out | apply bA | apply bB | apply bC)) hb); clear HO1; clear HO2; clear HO351; clear HB; have HO1 := n0_; have HO2 := n1_; have HO351 := n2_; have HO355 := n3_; have HB := n4_; clear n0_ n1_ n2_ n3_ n4_; (try clear hb); (try clear hb2); (try clear hk); (try clear hi); (try clear ho0); obtain ⟨Ao13, co13, eo13⟩ := Kd.V_slice HO355.out; subst eo13) | ((with_reducible refine gate_callee (f := 66) rfl ?_); refine goesL_ (some 21) rfl rfl Try.func66 (by kernel_rfl) rfl #[.slice Ao13 t353.length co13] rfl (by (try simp only [mA, mB, mC]); first | done | rfl | (simp only [lD, lT]; rfl)) ?_; (with_reducible refine (polymod_bounded.calls k (fun k_ => (((P1_ k_ ∨ P2_ k_) ∨ w.heap.size ≤ k_) ∧ some k_ ≠ (.slice Ao10 y349.length co10 : Value).ownBlock)) _ _ t353 t356 t359 _ ?side1 A7.out).mono ?_); (case side1 => exact HO355.out); rintro e w14 ⟨v357, rfl, ho0, hb⟩; refine ⟨_, rfl, ?_⟩; have n0_ := Aside0.mk (Kd.V_below (by (with_reducible repeat (first | apply vA | apply vB | apply vC)); exact HO1.out) hb); have n1_ := Aside0.mk (Kd.V_below (by (with_reducible repeat (first | apply vA | apply vB | apply vC)); exact HO2.out) hb); have n2_ := Aside0.mk (Kd.N_below (by (with_reducible repeat (first | apply Kd.N_alloc | apply Kd.N_drewN | apply Kd.N_drew)); exact HO351.out) hb); have n3_ := Aside0.mk (Kd.V_below (by (with_reducible repeat (first | apply vA | apply vB | apply vC)); exact HO355.out) hb); have n4_ := Aside0.mk (Kd.V_lower (Kd.V_mono (ok' := fun k_ => ((P1_ k_ ∨ P2_ k_) ∨ w.heap.size ≤ k_) ∧ some k_ ≠ (.slice Ao10 y349.length co10 : Value).ownBlock) ho0 (fun k_ hk_ => ⟨Or.elim hk_ (fun hs_ => hs_.1) (fun hn_ => (.inr (Nat.le_trans (below_size (by with_reducible repeat (first | exact HB.out | apply bA | apply bB | apply bC))) hn_))), Or.elim hk_ (fun hs_ => hs_.2) (fun hn_ => (Kd.fresh' (Kd.N_lt (by (with_reducible repeat (first | apply Kd.N_alloc | apply Kd.N_drewN | apply Kd.N_drew)); exact HO351.out)) k_ hn_))⟩)) (below_size (by with_reducible repeat (first | exact HB.out | apply bA | apply bB | apply bC)))); have n5_ := Aside0.mk (below_step (by with_reducible repeat (first | exact HB.out | apply bA | apply bB | apply bC)) hb); clear HO1; clear HO2; clear HO351; clear HO355; clear HB; have HO1 := n0_; have HO2 := n1_; have HO351 := n2_; have HO355 := n3_; have HO358 := n4_; have HB := n5_; clear n0_ n1_ n2_ n3_ n4_ n5_; (try clear hb); (try clear hb2); (try clear hk); (try clear hi); (try clear ho0)))
   go_ret2
   exact ⟨_, by first | rfl | (simp [errW_none, errW_some] <;> rfl) | (simp [*, errW_none, errW_some] <;> rfl), by (with_reducible repeat (first | apply vA | apply vB | apply vC)); exact Kd.V_mono HO358.out (fun _ hk => hk.1), by with_reducible repeat (first | exact HB.out | apply bA | apply bB | apply bC)⟩
 · rw [if_neg c5] at H
   have c5b0 : (t352 == 0) = false := beq_eq_false_iff_ne.mpr c5
   have c5b1 : (t352 != 0) = true := bne_iff_ne.mpr c5
   simp only [Option.some.injEq, Prod.mk.injEq] at H
   obtain ⟨rfl, rfl⟩ := H
   go_enter Try.func18, Try.ntmps18
   go_wp2_with (first | ((with_reducible refine gate_dst (N := 12) rfl ?_); refine Kd.N_lit (Kd.slice 3 (Kd.int .i64)) _ 23 ?hg (N' := 12) ?hd (xs := ([l1, l2] : List (List Int))) (inner := [.slice A1 l1.length c1, .slice A2 l2.length c2]) (ok := (fun k_ => ((P1_ k_ ∨ P2_ k_) ∨ w.heap.size ≤ k_))) (okp := (fun k_ => ((P1_ k_ ∨ P2_ k_) ∨ w.heap.size ≤ k_))) ?hr ?hp (fun _ hk => hk) ((show ∀ k_, w.heap.size ≤ k_ → (fun k_ => ((P1_ k_ ∨ P2_ k_) ∨ w.heap.size ≤ k_)) k_ from fun k_ hk => (.inr (Nat.le_trans (below_size (by with_reducible repeat (first | exact HB.out | apply bA | apply bB | apply bC))) hk))) _ (Nat.le_refl _)) (Below.refl _ _) (Nat.le_refl _) (by simp) ?_; (case hd => rfl); (case hg => rfl); (case hr => first | (go_simp; done) | (go_simp; rfl)); (case hp => exact (Reps.one (show Kd.FK (Kd.slice 3 (Kd.int .i64)) _ _ l1 [.slice A1 l1.length c1] from (Kd.FK_slice_mk (Kd.V_reads' (Kd.V_mono (ok' := (fun k_ => ((P1_ k_ ∨ P2_ k_) ∨ w.heap.size ≤ k_))) (HO1.out) (fun k_ hk => hk))).2.1 (Kd.V_F (Kd.V_mono (ok' := (fun k_ => ((P1_ k_ ∨ P2_ k_) ∨ w.heap.size ≤ k_))) (HO1.out) (fun k_ hk => hk))))) (Reps.one (show Kd.FK (Kd.slice 3 (Kd.int .i64)) _ _ l2 [.slice A2 l2.length c2] from (Kd.FK_slice_mk (Kd.V_reads' (Kd.V_mono (ok' := (fun k_ => ((P1_ k_ ∨ P2_ k_) ∨ w.heap.size ≤ k_))) (HO2.out) (fun k_ hk => hk))).2.1 (Kd.V_F (Kd.V_mono (ok' := (fun k_ => ((P1_ k_ ∨ P2_ k_) ∨ w.heap.size ≤ k_))) (HO2.out) (fun k_ hk => hk))))) (Reps.none _ _)))); intro v350 w15 ho16 hb hg_ hnew_; clear hg_ hnew_; (first | rw [← Ny349.out] at ho16 | (simp only [Int.reduceToNat] at ho16; rw [← Ny349.out] at ho16)); have n0_ := Aside0.mk (Kd.V_elder' (by (with_reducible repeat (first | apply vA | apply vB | apply vC)); exact HO1.out) (Kd.N_base ho16) hb); have n1_ := Aside0.mk (Kd.V_elder' (by (with_reducible repeat (first | apply vA | apply vB | apply vC)); exact HO2.out) (Kd.N_base ho16) hb); have n2_ := Aside0.mk (Kd.N_lower ho16 (below_size (by with_reducible repeat (first | exact HB.out | apply bA | apply bB | apply bC)))); have n3_ := Aside0.mk (below_step (by with_reducible repeat (first | exact HB.out | apply bA | apply bB | apply bC)) hb); clear HO1; clear HO2; clear HB; have HO1 := n0_; have HO2 := n1_; have HO351 := n2_; have HB := n3_; clear n0_ n1_ n2_ n3_; clear hb ho16; obtain ⟨Ao17, co17, eo17⟩ := Kd.N_slice HO351.out; subst eo17) | ((with_reducible refine gate_callee (f := 60) rfl ?_); refine goesL_ (some 13) rfl rfl Try.func60 (by kernel_rfl) rfl #[.int .i64 a0, .slice Ao17 y349.length co17] rfl (by (try simp only [mA, mB, mC]); first | done | rfl | (simp only [lD, lT]; rfl)) ?_; (with_reducible refine (polymod_first.calls k a0 _ _ y349 t352 _ ?side1 ?side2 A4.out).mono ?_); (case side1 => repeat (first | exact (Kd.N_reads' HO351.out).2.2 | (with_reducible refine Kd.C_alloc ?_ _) | (with_reducible refine Kd.C_drewN ?_ _) | (with_reducible refine Kd.C_drew ?_))); (case side2 => exact (Kd.N_reads' HO351.out).2.1); rintro e w18 ⟨rfl, hb⟩; refine ⟨_, rfl, ?_⟩; have n0_ := Aside0.mk (Kd.V_below (by (with_reducible repeat (first | apply vA | apply vB | apply vC)); exact HO1.out) hb); have n1_ := Aside0.mk (Kd.V_below (by (with_reducible repeat (first | apply vA | apply vB | apply vC)); exact HO2.out) hb); have n2_ := Aside0.mk (Kd.N_below (by (with_reducible repeat (first | apply Kd.N_alloc | apply Kd.N_drewN | apply Kd.N_drew)); exact HO351.out) hb); have n3_ := Aside0.mk (below_step (by with_reducible repeat (first | exact HB.out | apply bA | apply bB | apply bC)) hb); clear HO1; clear HO2; clear HO351; clear HB; have HO1 := n0_; have HO2 := n1_; have HO351 := n2_; have HB := n3_; clear n0_ n1_ n2_ n3_; (try clear hb); (try clear hb2); (try clear hk); (try clear hi)))
   go_ret2
   exact ⟨_, by first | rfl | (simp [errW_none, errW_some] <;> rfl) | (simp [*, errW_none, errW_some] <;> rfl), (Kd.V_nil _ _ _ _ _), by with_reducible repeat (first | exact HB.out | apply bA | apply bB | apply bC)⟩

/-! ### polymod_Sub: function 21 -/
def polymod_Sub.f (k : Nat) (a0 : Int) (l1 : List Int) (l2 : List Int) : Option (List Int × Int) := (polymod_first.f k a0 (([l1, l2] : List (List Int)))).bind fun t363 => (if t363 = 0 then ((fp_Sub.f k a0 l1 l2).bind fun t364 => (some (t364, 0))) else (some (([] : List Int), t363)))
theorem polymod_Sub.mono : ∀ a0 a1 a2 k, LeO (polymod_Sub.f k a0 a1 a2) (polymod_Sub.f (k + 1) a0 a1 a2) := by
 intro a0 a1 a2 k
 unfold polymod_Sub.f
 repeat' first
  | (with_reducible apply fp_Sub.mono)
  | (with_reducible apply polymod_first.mono)
  | (with_reducible apply LeO.refl)
  | (with_reducible apply LeO.none)
  | (with_reducible refine LeO.ite ?_ ?_)
  | (with_reducible refine LeO.bind ?_ (fun _ => ?_))
set_option maxHeartbeats 8000000 in
set_option maxRecDepth 100000 in
theorem polymod_Sub.calls (k : Nat) (a0 : Int) (P1_ : Nat → Prop) (A1 : Option Addr) (c1 : Nat) (l1 : List Int) (P2_ : Nat → Prop) (A2 : Option Addr) (c2 : Nat) (l2 : List Int) (r1 : List Int) (r2 : Int) (w : World) (hs1 : Kd.V (Kd.int .i64) 3 w w.heap.size (fun k_ => P1_ k_) (.slice A1 l1.length c1) l1) (hs2 : Kd.V (Kd.int .i64) 3 w w.heap.size (fun k_ => P2_ k_) (.slice A2 l2.length c2) l2) (h : polymod_Sub.f k a0 l1 l2 = some (r1, r2)) :
 Calls Try.prog 21 #[.int .i64 a0, .slice A1 l1.length c1, .slice A2 l2.length c2] w fun e w' => ∃ v0_ : Value, e = .returned (.tuple #[v0_, .int .i64 r2]) ∧ Kd.V (Kd.int .i64) 3 w' w.heap.size (fun k_ => ((P1_ k_ ∨ P2_ k_) ∨ w.heap.size ≤ k_)) v0_ r1 ∧ Below w.heap.size w w' := by
 have HO1 := Aside0.mk (show Kd.V (Kd.int .i64) 3 w w.heap.size (fun k_ => ((P1_ k_ ∨ P2_ k_) ∨ w.heap.size ≤ k_)) (.slice A1 l1.length c1) l1 from Kd.V_mono hs1 (fun k_ hk => .inl (.inl hk)))
 have HO2 := Aside0.mk (show Kd.V (Kd.int .i64) 3 w w.heap.size (fun k_ => ((P1_ k_ ∨ P2_ k_) ∨ w.heap.size ≤ k_)) (.slice A2 l2.length c2) l2 from Kd.V_mono hs2 (fun k_ hk => .inl (.inr hk)))
 have HB := Aside0.mk (Below.refl w.heap.size w)
 have H : ((polymod_first.f k a0 (([l1, l2] : List (List Int)))).bind fun t363 => (if t363 = 0 then ((fp_Sub.f k a0 l1 l2).bind fun t364 => (some (t364, 0))) else (some (([] : List Int), t363)))) = some (r1, r2) := h
 clear h
 obtain ⟨y360, hy360⟩ : ∃ y_ : List (List Int), y_ = (([l1, l2] : List (List Int))) := ⟨_, rfl⟩
 replace H : ((polymod_first.f k a0 y360).bind fun t363 => (if t363 = 0 then ((fp_Sub.f k a0 l1 l2).bind fun t364 => (some (t364, 0))) else (some (([] : List Int), t363)))) = some (r1, r2) := by first | (rw [hy360]; with_reducible exact H) | (have H2_ := (Option.bind_some _ _).symm.trans H; rw [hy360]; with_reducible exact H2_) | (have H2_ := (Option.bind_some _ _).symm.trans H; with_reducible exact H2_) | with_reducible exact H | (rw [hy360]; exact H) | exact H
 have Ny360 := Aside0.mk hy360
 clear hy360
 replace H := Option.bind_eq_some_iff.mp H
 obtain ⟨t363, A40, H⟩ := H
 replace H : (if t363 = 0 then ((fp_Sub.f k a0 l1 l2).bind fun t364 => (some (t364, 0))) else (some (([] : List Int), t363))) = some (r1, r2) := H
 have A4 := Aside0.mk A40
 clear A40
 by_cases c5 : t363 = 0
 · rw [if_pos c5] at H
   have c5b0 : (t363 == 0) = true := beq_iff_eq.mpr c5
   have c5b1 : (t363 != 0) = false := bne_eq_false_iff_eq.mpr c5
   clear c5
   replace H := Option.bind_eq_some_iff.mp H
   obtain ⟨t364, A60, H⟩ := H
   replace H : (some (t364, 0)) = some (r1, r2) := H
   have A6 := Aside0.mk A60
   clear A60
   simp only [Option.some.injEq, Prod.mk.injEq] at H
   obtain ⟨rfl, rfl⟩ := H
   go_enter Try.func21, Try.ntmps21
   go_wp2_with (first | ((with_reducible refine gate_dst (N := 12) rfl ?_); refine Kd.N_lit (Kd.slice 3 (Kd.int .i64)) _ 23 ?hg (N' := 12) ?hd (xs := ([l1, l2] : List (List Int))) (inner := [.slice A1 l1.length c1, .slice A2 l2.length c2]) (ok := (fun k_ => ((P1_ k_ ∨ P2_ k_) ∨ w.heap.size ≤ k_))) (okp := (fun k_ => ((P1_ k_ ∨ P2_ k_) ∨ w.heap.size ≤ k_))) ?hr ?hp (fun _ hk => hk) ((show ∀ k_, w.heap.size ≤ k_ → (fun k_ => ((P1_ k_ ∨ P2_ k_) ∨ w.heap.size ≤ k_)) k_ from fun k_ hk => (.inr (Nat.le_trans (below_size (by with_reducible repeat (first | exact HB.out | apply bA | apply bB | apply bC))) hk))) _ (Nat.le_refl _)) (Below.refl _ _) (Nat.le_refl _) (by simp) ?_; (case hd => rfl); (case hg => rfl); (case hr => first | (go_simp; done) | (go_simp; rfl)); (case hp => exact (Reps.one (show Kd.FK (Kd.slice 3 (Kd.int .i64)) _ _ l1 [.slice A1 l1.length c1] from (Kd.FK_slice_mk (Kd.V_reads' (Kd.V_mono (ok' := (fun k_ => ((P1_ k_ ∨ P2_ k_) ∨ w.heap.size ≤ k_))) (HO1.out) (fun k_ hk => hk))).2.1 (Kd.V_F (Kd.V_mono (ok' := (fun k_ => ((P1_ k_ ∨ P2_ k_) ∨ w.heap.size ≤ k_))) (HO1.out) (fun k_ hk => hk))))) (Reps.one (show Kd.FK (Kd.slice 3 (Kd.int .i64)) _ _ l2 [.slice A2 l2.length c2] from (Kd.FK_slice_mk (Kd.V_reads' (Kd.V_mono (ok' := (fun k_ => ((P1_ k_ ∨ P2_ k_) ∨ w.heap.size ≤ k_))) (HO2.out) (fun k_ hk => hk))).2.1 (Kd.V_F (Kd.V_mono (ok' := (fun k_ => ((P1_ k_ ∨ P2_ k_) ∨ w.heap.size ≤ k_))) (HO2.out) (fun k_ hk => hk))))) (Reps.none _ _)))); intro v361 w7 ho8 hb hg_ hnew_; clear hg_ hnew_; (first | rw [← Ny360.out] at ho8 | (simp only [Int.reduceToNat] at ho8; rw [← Ny360.out] at ho8)); have n0_ := Aside0.mk (Kd.V_elder' (by (with_reducible repeat (first | apply vA | apply vB | apply vC)); exact HO1.out) (Kd.N_base ho8) hb); have n1_ := Aside0.mk (Kd.V_elder' (by (with_reducible repeat (first | apply vA | apply vB | apply vC)); exact HO2.out) (Kd.N_base ho8) hb); have n2_ := Aside0.mk (Kd.N_lower ho8 (below_size (by with_reducible repeat (first | exact HB.out | apply bA | apply bB | apply bC)))); have n3_ := Aside0.mk (below_step (by with_reducible repeat (first | exact HB.out | apply bA | apply bB | apply bC)) hb); clear HO1; clear HO2; clear HB; have HO1 := n0_; have HO2 := n1_; have HO362 := n2_; have HB := n3_; clear n0_ n1_ n2_ n3_; clear hb ho8; obtain ⟨Ao9, co9, eo9⟩ := Kd.N_slice HO362.out; subst eo9) | ((with_reducible refine gate_callee (f := 60) rfl ?_); refine goesL_ (some 13) rfl rfl Try.func60 (by kernel_rfl) rfl #[.int .i64 a0, .slice Ao9 y360.length co9] rfl (by (try simp only [mA, mB, mC]); first | done | rfl | (simp only [lD, lT]; rfl)) ?_; (with_reducible refine (polymod_first.calls k a0 _ _ y360 t363 _ ?side1 ?side2 A4.out).mono ?_); (case side1 => repeat (first | exact (Kd.N_reads' HO362.out).2.2 | (with_reducible refine Kd.C_alloc ?_ _) | (with_reducible refine Kd.C_drewN ?_ _) | (with_reducible refine Kd.C_drew ?_))); (case side2 => exact (Kd.N_reads' HO362.out).2.1); rintro e w10 ⟨rfl, hb⟩; refine ⟨_, rfl, ?_⟩; have n0_ := Aside0.mk (Kd.V_below (by (with_reducible repeat (first | apply vA | apply vB | apply vC)); exact HO1.out) hb); have n1_ := Aside0.mk (Kd.V_below (by (with_reducible repeat (first | apply vA | apply vB | apply vC)); exact HO2.out) hb); have n2_ := Aside0.mk (Kd.N_below (by (with_reducible repeat (first | apply Kd.N_alloc | apply Kd.N_drewN | apply Kd.N_drew)); exact HO362.out) hb); have n3_ := Aside0.mk (below_step (by with_reducible repeat (first | exact HB.out | apply bA | apply bB | apply bC)) hb); clear HO1; clear HO2; clear HO362; clear HB; have HO1 := n0_; have HO2 := n1_; have HO362 := n2_; have HB := n3_; clear n0_ n1_ n2_ n3_; (try clear hb); (try clear hb2); (try clear hk); (try clear hi)) | ((with_reducible refine gate_callee (f := 73) rfl ?_); refine goesL_ (some 20) rfl rfl Try.func73 (by kernel_rfl) rfl #[.int .i64 a0, .slice A1 l1.length c1, .slice A2 l2.length c2] rfl (by (try simp only [mA, mB, mC]); first | done | rfl | (simp only [lD, lT]; rfl)) ?_; (with_reducible refine (fp_Sub.calls k a0 _ _ l1 _ _ l2 t364 _ ?side1 ?side2 ?side3 ?side4 A6.out).mono ?_); (case side1 => repeat (first | exact (Kd.V_reads' HO1.out).2.2 | (with_reducible refine Kd.C_alloc ?_ _) | (with_reducible refine Kd.C_drewN ?_ _) | (with_reducible refine Kd.C_drew ?_))); (case side2 => exact (Kd.V_reads' HO1.out).2.1); (case side3 => repeat (first | exact (Kd.V_reads' HO2.out).2.2 | (with_reducible refine Kd.C_alloc ?_ _) | (with_reducible refine Kd.C_drewN ?_ _) | (with_reducible refine Kd.C_drew ?_))); (case side4 => exact (Kd.V_reads' HO2.out).2.1); rintro e w11 ⟨v365, rfl, ho0, hb⟩; refine ⟨_, rfl, ?_⟩; have n0_ := Aside0.mk (Kd.V_below (by (with_reducible repeat (first | apply vA | apply vB | apply vC)); exact HO1.out) hb); have n1_ := Aside0.mk (Kd.V_below (by (with_reducible repeat (first | apply vA | apply vB | apply vC)); exact HO2.out) hb); have n2_ := Aside0.mk (Kd.N_below (by (with_reducible repeat (first | apply Kd.N_alloc | apply Kd.N_drewN | apply Kd.N_drew)); exact HO362.out) hb); have n3_ := Aside0.mk (Kd.V_lower (Kd.V_mono (ok' := fun k_ => ((P1_ k_ ∨ P2_ k_) ∨ w.heap.size ≤ k_) ∧ some k_ ≠ (.slice Ao9 y360.length co9 : Value).ownBlock) ho0 (fun k_ hk_ => ⟨(.inr (Nat.le_trans (below_size (by with_reducible repeat (first | exact HB.out | apply bA | apply bB | apply bC))) hk_)), (Kd.fresh' (Kd.N_lt (by (with_reducible repeat (first | apply Kd.N_alloc | apply Kd.N_drewN | apply Kd.N_drew)); exact HO362.out)) k_ hk_)⟩)) (below_size (by with_reducible repeat (first | exact HB.out | apply bA | apply bB | apply bC)))); have n4_ := Aside0.mk (below_step (by with_reducible repeat (first | exact HB.out | apply bA | apply bB | apply bC)) hb); clear HO1; clear HO2; clear HO362; clear HB; have HO1 := n0_; have HO2 := n1_; have HO362 := n2_; have HO366 := n3_; have HB := n4_; clear n0_ n1_ n2_ n3_ n4_; (try clear hb); (try clear hb2); (try clear hk); (try clear hi); (try clear ho0)))
   go_ret2
   exact ⟨_, by first | rfl | (simp [errW_none, errW_some] <;> rfl) | (simp [*, errW_none, errW_some] <;> rfl), by (with_reducible repeat (first | apply vA | apply vB | apply vC)); exact Kd.V_mono HO366.out (fun _ hk => hk.1), by with_reducible repeat (first | exact HB.out | apply bA | apply bB | apply bC)⟩
 · rw [if_neg c5] at H
   have c5b0 : (t363 == 0) = false := beq_eq_false_iff_ne.mpr c5
   have c5b1 : (t363 != 0) = true := bne_iff_ne.mpr c5
   simp only [Option.some.injEq, Prod.mk.injEq] at H
   obtain ⟨rfl, rfl⟩ := H
   go_enter Try.func21, Try.ntmps21
   go_wp2_with (first | ((with_reducible refine gate_dst (N := 12) rfl ?_); refine Kd.N_lit (Kd.slice 3 (Kd.int .i64)) _ 23 ?hg (N' := 12) ?hd (xs := ([l1, l2] : List (List Int))) (inner := [.slice A1 l1.length c1, .slice A2 l2.length c2]) (ok := (fun k_ => ((P1_ k_ ∨ P2_ k_) ∨ w.heap.size ≤ k_))) (okp := (fun k_ => ((P1_ k_ ∨ P2_ k_) ∨ w.heap.size ≤ k_))) ?hr ?hp (fun _ hk => hk) ((show ∀ k_, w.heap.size ≤ k_ → (fun k_ => ((P1_ k_ ∨ P2_ k_) ∨ w.heap.size ≤ k_)) k_ from fun k_ hk => (.inr (Nat.le_trans (below_size (by with_reducible repeat (first | exact HB.out | apply bA | apply bB | apply bC))) hk))) _ (Nat.le_refl _)) (Below.refl _ _) (Nat.le_refl _) (by simp) ?_; (case hd => rfl); (case hg => rfl); (case hr => first | (go_simp; done) | (go_simp; rfl)); (case hp => exact (Reps.one (show Kd.FK (Kd.slice 3 (Kd.int .i64)) _ _ l1 [.slice A1 l1.length c1] from (Kd.FK_slice_mk (Kd.V_reads' (Kd.V_mono (ok' := (fun k_ => ((P1_ k_ ∨ P2_ k_) ∨ w.heap.size ≤ k_))) (HO1.out) (fun k_ hk => hk))).2.1 (Kd.V_F (Kd.V_mono (ok' := (fun k_ => ((P1_ k_ ∨ P2_ k_) ∨ w.heap.size ≤ k_))) (HO1.out) (fun k_ hk => hk))))) (Reps.one (show Kd.FK (Kd.slice 3 (Kd.int .i64)) _ _ l2 [.slice A2 l2.length c2] from (Kd.FK_slice_mk (Kd.V_reads' (Kd.V_mono (ok' := (fun k_ => ((P1_ k_ ∨ P2_ k_) ∨ w.heap.size ≤ k_))) (HO2.out) (fun k_ hk => hk))).2.1 (Kd.V_F (Kd.V_mono (ok' := (fun k_ => ((P1_ k_ ∨ P2_ k_) ∨ w.heap.size ≤ k_))) (HO2.out) (fun k_ hk => hk))))) (Reps.none _ _)))); intro v361 w12 ho13 hb hg_ hnew_; clear hg_ hnew_; (first | rw [← Ny360.out] at ho13 | (simp only [Int.reduceToNat] at ho13; rw [← Ny360.out] at ho13)); have n0_ := Aside0.mk (Kd.V_elder' (by (with_reducible repeat (first | apply vA | apply vB | apply vC)); exact HO1.out) (Kd.N_base ho13) hb); have n1_ := Aside0.mk (Kd.V_elder' (by (with_reducible repeat (first | apply vA | apply vB | apply vC)); exact HO2.out) (Kd.N_base ho13) hb); have n2_ := Aside0.mk (Kd.N_lower ho13 (below_size (by with_reducible repeat (first | exact HB.out | apply bA | apply bB | apply bC)))); have n3_ := Aside0.mk (below_step (by with_reducible repeat (first | exact HB.out | apply bA | apply bB | apply bC)) hb); clear HO1; clear HO2; clear HB; have HO1 := n0_; have HO2 := n1_; have HO362 := n2_; have HB := n3_; clear n0_ n1_ n2_ n3_; clear hb ho13; obtain ⟨Ao14, co14, eo14⟩ := Kd.N_slice HO362.out; subst eo14) | ((with_reducible refine gate_callee (f := 60) rfl ?_); refine goesL_ (some 13) rfl rfl Try.func60 (by kernel_rfl) rfl #[.int .i64 a0, .slice Ao14 y360.length co14] rfl (by (try simp only [mA, mB, mC]); first | done | rfl | (simp only [lD, lT]; rfl)) ?_; (with_reducible refine (polymod_first.calls k a0 _ _ y360 t363 _ ?side1 ?side2 A4.out).mono ?_); (case side1 => repeat (first | exact (Kd.N_reads' HO362.out).2.2 | (with_reducible refine Kd.C_alloc ?_ _) | (with_reducible refine Kd.C_drewN ?_ _) | (with_reducible refine Kd.C_drew ?_))); (case side2 => exact (Kd.N_reads' HO362.out).2.1); rintro e w15 ⟨rfl, hb⟩; refine ⟨_, rfl, ?_⟩; have n0_ := Aside0.mk (Kd.V_below (by (with_reducible repeat (first | apply vA | apply vB | apply vC)); exact HO1.out) hb); have n1_ := Aside0.mk (Kd.V_below (by (with_reducible repeat (first | apply vA | apply vB | apply vC)); exact HO2.out) hb); have n2_ := Aside0.mk (Kd.N_below (by (with_reducible repeat (first | apply Kd.N_alloc | apply Kd.N_drewN | apply Kd.N_drew)); exact HO362.out) hb); have n3_ := Aside0.mk (below_step (by with_reducible repeat (first | exact HB.out | apply bA | apply bB | apply bC)) hb); clear HO1; clear HO2; clear HO362; clear HB; have HO1 := n0_; have HO2 := n1_; have HO362 := n2_; have HB := n3_; clear n0_ n1_ n2_ n3_; (try clear hb); (try clear hb2); (try clear hk); (try clear hi)))
   go_ret2
   exact ⟨_, by first | rfl | (simp [errW_none, errW_some] <;> rfl) | (simp [*, errW_none, errW_some] <;> rfl), (Kd.V_nil _ _ _ _ _), by with_reducible repeat (first | exact HB.out | apply bA | apply bB | apply bC)⟩

/-! ### galoislaw09_long: function 23 -/
def galoislaw09_long.f (l0 : List Int) (l1 : List Int) (a2 : Int) : Option (Bool) := if (l0.length : Int) > a2 then (some true) else (some (decide ((l1.length : Int) > a2)))
set_option maxHeartbeats 8000000 in
set_option maxRecDepth 100000 in
theorem galoislaw09_long.calls (A0 : Option Addr) (c0 : Nat) (l0 : List Int) (A1 : Option Addr) (c1 : Nat) (l1 : List Int) (a2 : Int) (r : Bool) (w : World) (hr0 : Kd.C (Kd.int .i64) w A0 l0.length l0) (hc0 : l0.length ≤ c0) (hr1 : Kd.C (Kd.int .i64) w A1 l1.length l1) (hc1 : l1.length ≤ c1) (h : galoislaw09_long.f l0 l1 a2 = some r) :
 Calls Try.prog 23 #[.slice A0 l0.length c0, .slice A1 l1.length c1, .int .i64 a2] w fun e w' => e = .returned (.bool r) ∧ Drawn0 w w' := by
 have HR0 := Aside0.mk hr0
 have HC0 := Aside0.mk hc0
 clear hr0 hc0
 have HR1 := Aside0.mk hr1
 have HC1 := Aside0.mk hc1
 clear hr1 hc1
 have H : (if (l0.length : Int) > a2 then (some true) else (some (decide ((l1.length : Int) > a2)))) = some r := h
 clear h
 by_cases c4 : (l0.length : Int) > a2
 · rw [if_pos c4] at H
   have c4b0 : decide (a2 < (l0.length : Int)) = true := decide_eq_true c4
   clear c4
   obtain rfl := Option.some.inj H
   go_enter Try.func23, Try.ntmps23
   go_wp2
   go_ret
   exact ⟨by first | rfl | (simp; done) | (simp [*]; done), by repeat (first | exact Drawn0.refl _ | apply Drawn0.step)⟩
 · rw [if_neg c4] at H
   have c4b0 : decide (a2 < (l0.length : Int)) = false := decide_eq_false c4
   clear c4
   obtain rfl := Option.some.inj H
   go_enter Try.func23, Try.ntmps23
   go_wp2
   go_ret
   exact ⟨by first | rfl | (simp; done) | (simp [*]; done), by repeat (first | exact Drawn0.refl _ | apply Drawn0.step)⟩

/-! ### galoislaw09_expected: function 25 -/
def galoislaw09_expected.f (k : Nat) (a0 : Int) (l1 : List Int) (l2 : List Int) : Option (Int) := (galoisref09_Check.f k a0 l1).bind fun t367 => (if t367 = 0 then ((galoisref09_Check.f k a0 l2).bind fun t368 => (some t368)) else ((galoisref09_Check.f k a0 l1).bind fun t369 => (some t369)))
theorem galoislaw09_expected.mono : ∀ a0 a1 a2 k, LeO (galoislaw09_expected.f k a0 a1 a2) (galoislaw09_expected.f (k + 1) a0 a1 a2) := by
 intro a0 a1 a2 k
 unfold galoislaw09_expected.f
 repeat' first
  | (with_reducible apply galoisref09_Check.mono)
  | (with_reducible apply LeO.refl)
  | (with_reducible apply LeO.none)
  | (with_reducible refine LeO.ite ?_ ?_)
  | (with_reducible refine LeO.bind ?_ (fun _ => ?_))
set_option maxHeartbeats 8000000 in
set_option maxRecDepth 100000 in
theorem galoislaw09_expected.calls (k : Nat) (a0 : Int) (A1 : Option Addr) (c1 : Nat) (l1 : List Int) (A2 : Option Addr) (c2 : Nat) (l2 : List Int) (r : Int) (w : World) (hr1 : Kd.C (Kd.int .i64) w A1 l1.length l1) (hc1 : l1.length ≤ c1) (hr2 : Kd.C (Kd.int .i64) w A2 l2.length l2) (hc2 : l2.length ≤ c2) (h : galoislaw09_expected.f k a0 l1 l2 = some r) :
 Calls Try.prog 25 #[.int .i64 a0, .slice A1 l1.length c1, .slice A2 l2.length c2] w fun e w' => e = .returned (.int .i64 r) ∧ Drawn0 w w' := by
 have HR1 := Aside0.mk hr1
 have HC1 := Aside0.mk hc1
 clear hr1 hc1
 have HR2 := Aside0.mk hr2
 have HC2 := Aside0.mk hc2
 clear hr2 hc2
 have H : ((galoisref09_Check.f k a0 l1).bind fun t367 => (if t367 = 0 then ((galoisref09_Check.f k a0 l2).bind fun t368 => (some t368)) else ((galoisref09_Check.f k a0 l1).bind fun t369 => (some t369)))) = some r := h
 clear h
 replace H := Option.bind_eq_some_iff.mp H
 obtain ⟨t367, A40, H⟩ := H
 replace H : (if t367 = 0 then ((galoisref09_Check.f k a0 l2).bind fun t368 => (some t368)) else ((galoisref09_Check.f k a0 l1).bind fun t369 => (some t369))) = some r := H
 have A4 := Aside0.mk A40
 clear A40
 by_cases c5 : t367 = 0
 · rw [if_pos c5] at H
   have c5b0 : (t367 == 0) = true := beq_iff_eq.mpr c5
   have c5b1 : (t367 != 0) = false := bne_eq_false_iff_eq.mpr c5
   clear c5
   replace H := Option.bind_eq_some_iff.mp H
   obtain ⟨t368, A60, H⟩ := H
   replace H : (some t368) = some r := H
   have A6 := Aside0.mk A60
   clear A60
   obtain rfl := Option.some.inj H
   go_enter Try.func25, Try.ntmps25
   go_wp2_with (first | ((with_reducible refine gate_callee (f := 15) rfl ?_); refine goesL_ (some 9) rfl rfl Try.func15 (by kernel_rfl) rfl #[.int .i64 a0, .slice A1 l1.length c1] rfl (by (try simp only [mA, mB, mC]); first | done | rfl | (simp only [lD, lT]; rfl)) ?_; (with_reducible refine (galoisref09_Check.calls k a0 _ _ l1 t367 _ ?side1 ?side2 A4.out).mono ?_); (case side1 => repeat (first | exact HR1.out | (with_reducible refine Kd.C_alloc ?_ _) | (with_reducible refine Kd.C_drewN ?_ _) | (with_reducible refine Kd.C_drew ?_))); (case side2 => exact HC1.out); rintro e w' ⟨rfl, ⟨nd, rfl⟩⟩; refine ⟨_, rfl, ?_⟩) | ((with_reducible refine gate_callee (f := 15) rfl ?_); refine goesL_ (some 16) rfl rfl Try.func15 (by kernel_rfl) rfl #[.int .i64 a0, .slice A2 l2.length c2] rfl (by (try simp only [mA, mB, mC]); first | done | rfl | (simp only [lD, lT]; rfl)) ?_; (with_reducible refine (galoisref09_Check.calls k a0 _ _ l2 t368 _ ?side1 ?side2 A6.out).mono ?_); (case side1 => repeat (first | exact HR2.out | (with_reducible refine Kd.C_alloc ?_ _) | (with_reducible refine Kd.C_drewN ?_ _) | (with_reducible refine Kd.C_drew ?_))); (case side2 => exact HC2.out); rintro e w' ⟨rfl, ⟨nd, rfl⟩⟩; refine ⟨_, rfl, ?_⟩))
   go_ret
   exact ⟨by first | rfl | (simp; done) | (simp [*]; done), by repeat (first | exact Drawn0.refl _ | apply Drawn0.step)⟩
 · rw [if_neg c5] at H
   have c5b0 : (t367 == 0) = false := beq_eq_false_iff_ne.mpr c5
   have c5b1 : (t367 != 0) = true := bne_iff_ne.mpr c5
   replace H := Option.bind_eq_some_iff.mp H
   obtain ⟨t369, A70, H⟩ := H
   replace H : (some t369) = some r := H
   have A7 := Aside0.mk A70
   clear A70
   obtain rfl := Option.some.inj H
   go_enter Try.func25, Try.ntmps25
   go_wp2_with (first | ((with_reducible refine gate_callee (f := 15) rfl ?_); refine goesL_ (some 9) rfl rfl Try.func15 (by kernel_rfl) rfl #[.int .i64 a0, .slice A1 l1.length c1] rfl (by (try simp only [mA, mB, mC]); first | done | rfl | (simp only [lD, lT]; rfl)) ?_; (with_reducible refine (galoisref09_Check.calls k a0 _ _ l1 t367 _ ?side1 ?side2 A4.out).mono ?_); (case side1 => repeat (first | exact HR1.out | (with_reducible refine Kd.C_alloc ?_ _) | (with_reducible refine Kd.C_drewN ?_ _) | (with_reducible refine Kd.C_drew ?_))); (case side2 => exact HC1.out); rintro e w' ⟨rfl, ⟨nd, rfl⟩⟩; refine ⟨_, rfl, ?_⟩) | ((with_reducible refine gate_callee (f := 15) rfl ?_); refine goesL_ (some 13) rfl rfl Try.func15 (by kernel_rfl) rfl #[.int .i64 a0, .slice A1 l1.length c1] rfl (by (try simp only [mA, mB, mC]); first | done | rfl | (simp only [lD, lT]; rfl)) ?_; (with_reducible refine (galoisref09_Check.calls k a0 _ _ l1 t369 _ ?side1 ?side2 A7.out).mono ?_); (case side1 => repeat (first | exact HR1.out | (with_reducible refine Kd.C_alloc ?_ _) | (with_reducible refine Kd.C_drewN ?_ _) | (with_reducible refine Kd.C_drew ?_))); (case side2 => exact HC1.out); rintro e w' ⟨rfl, ⟨nd, rfl⟩⟩; refine ⟨_, rfl, ?_⟩))
   go_ret
   exact ⟨by first | rfl | (simp; done) | (simp [*]; done), by repeat (first | exact Drawn0.refl _ | apply Drawn0.step)⟩

/-! ### galoisref09_Large: function 76 -/
def galoisref09_Large.f (l0 : List Int) : Option (Int) := if (l0.length : Int) > 65 then (some 4) else (some 0)
set_option maxHeartbeats 8000000 in
set_option maxRecDepth 100000 in
theorem galoisref09_Large.calls (A0 : Option Addr) (c0 : Nat) (l0 : List Int) (r : Int) (w : World) (hr0 : Kd.C (Kd.int .i64) w A0 l0.length l0) (hc0 : l0.length ≤ c0) (h : galoisref09_Large.f l0 = some r) :
 Calls Try.prog 76 #[.slice A0 l0.length c0] w fun e w' => e = .returned (.int .i64 r) ∧ Drawn0 w w' := by
 have HR0 := Aside0.mk hr0
 have HC0 := Aside0.mk hc0
 clear hr0 hc0
 have H : (if (l0.length : Int) > 65 then (some 4) else (some 0)) = some r := h
 clear h
 by_cases c2 : (l0.length : Int) > 65
 · rw [if_pos c2] at H
   have c2b0 : decide (65 < (l0.length : Int)) = true := decide_eq_true c2
   have c2b1 : decide (65 < l0.length) = true := decide_eq_true (by omega)
   clear c2
   obtain rfl := Option.some.inj H
   go_enter Try.func76, Try.ntmps76
   go_wp2
   go_ret
   exact ⟨by first | rfl | (simp; done) | (simp [*]; done), by repeat (first | exact Drawn0.refl _ | apply Drawn0.step)⟩
 · rw [if_neg c2] at H
   have c2b0 : decide (65 < (l0.length : Int)) = false := decide_eq_false c2
   have c2b1 : decide (65 < l0.length) = false := decide_eq_false (by omega)
   clear c2
   obtain rfl := Option.some.inj H
   go_enter Try.func76, Try.ntmps76
   go_wp2
   go_ret
   exact ⟨by first | rfl | (simp; done) | (simp [*]; done), by repeat (first | exact Drawn0.refl _ | apply Drawn0.step)⟩

/-! ### galoislaw09_right: function 26 -/
def galoislaw09_right.f (k : Nat) (l0 : List Int) (a1 : Int) (a2 : Int) (l3 : List Int) : Option (Bool) := if a2 = 0 then ((galoisref09_Large.f l3).bind fun t370 => (if t370 = 0 then ((galoisref09_Same.f k l0 l3).bind fun t371 => (if t371 = true then (some (a1 == 0)) else (some false))) else (if (l0.length : Int) = 0 then (some (a1 == t370)) else (some false)))) else (if (l0.length : Int) = 0 then (some (a1 == a2)) else (some false))
theorem galoislaw09_right.mono : ∀ a0 a1 a2 a3 k, LeO (galoislaw09_right.f k a0 a1 a2 a3) (galoislaw09_right.f (k + 1) a0 a1 a2 a3) := by
 intro a0 a1 a2 a3 k
 unfold galoislaw09_right.f
 repeat' first
  | (with_reducible apply galoisref09_Same.mono)
  | (with_reducible apply LeO.refl)
  | (with_reducible apply LeO.none)
  | (with_reducible refine LeO.ite ?_ ?_)
  | (with_reducible refine LeO.bind ?_ (fun _ => ?_))
set_option maxHeartbeats 8000000 in
set_option maxRecDepth 100000 in
theorem galoislaw09_right.calls (k : Nat) (A0 : Option Addr) (c0 : Nat) (l0 : List Int) (a1 : Int) (a2 : Int) (A3 : Option Addr) (c3 : Nat) (l3 : List Int) (r : Bool) (w : World) (hr0 : Kd.C (Kd.int .i64) w A0 l0.length l0) (hc0 : l0.length ≤ c0) (hr3 : Kd.C (Kd.int .i64) w A3 l3.length l3) (hc3 : l3.length ≤ c3) (h : galoislaw09_right.f k l0 a1 a2 l3 = some r) :
 Calls Try.prog 26 #[.slice A0 l0.length c0, .int .i64 a1, .int .i64 a2, .slice A3 l3.length c3] w fun e w' => e = .returned (.bool r) ∧ Drawn0 w w' := by
 have HR0 := Aside0.mk hr0
 have HC0 := Aside0.mk hc0
 clear hr0 hc0
 have HR3 := Aside0.mk hr3
 have HC3 := Aside0.mk hc3
 clear hr3 hc3
 have H : (if a2 = 0 then ((galoisref09_Large.f l3).bind fun t370 => (if t370 = 0 then ((galoisref09_Same.f k l0 l3).bind fun t371 => (if t371 = true then (some (a1 == 0)) else (some false))) else (if (l0.length : Int) = 0 then (some (a1 == t370)) else (some false)))) else (if (l0.length : Int) = 0 then (some (a1 == a2)) else (some false))) = some r := h
 clear h
 by_cases c5 : a2 = 0
 · rw [if_pos c5] at H
   have c5b0 : (a2 == 0) = true := beq_iff_eq.mpr c5
   have c5b1 : (a2 != 0) = false := bne_eq_false_iff_eq.mpr c5
   clear c5
   replace H := Option.bind_eq_some_iff.mp H
   obtain ⟨t370, A60, H⟩ := H
   replace H : (if t370 = 0 then ((galoisref09_Same.f k l0 l3).bind fun t371 => (if t371 = true then (some (a1 == 0)) else (some false))) else (if (l0.length : Int) = 0 then (some (a1 == t370)) else (some false))) = some r := H
   have A6 := Aside0.mk A60
   clear A60
   by_cases c7 : t370 = 0
   · rw [if_pos c7] at H
     have c7b0 : (t370 == 0) = true := beq_iff_eq.mpr c7
     have c7b1 : (t370 != 0) = false := bne_eq_false_iff_eq.mpr c7
     clear c7
     replace H := Option.bind_eq_some_iff.mp H
     obtain ⟨t371, A80, H⟩ := H
     replace H : (if t371 = true then (some (a1 == 0)) else (some false)) = some r := H
     have A8 := Aside0.mk A80
     clear A80
     by_cases c9 : t371 = true
     · subst c9
       have H1 : (some (a1 == 0)) = some r := by rw [if_pos rfl] at H; exact H
       clear H
       have H := H1
       clear H1
       obtain rfl := Option.some.inj H
       go_enter Try.func26, Try.ntmps26
       go_wp2_with (first | ((with_reducible refine gate_callee (f := 76) rfl ?_); refine goesL_ (some 12) rfl rfl Try.func76 (by kernel_rfl) rfl #[.slice A3 l3.length c3] rfl (by (try simp only [mA, mB, mC]); first | done | rfl | (simp only [lD, lT]; rfl)) ?_; (with_reducible refine (galoisref09_Large.calls _ _ l3 t370 _ ?side1 ?side2 A6.out).mono ?_); (case side1 => repeat (first | exact HR3.out | (with_reducible refine Kd.C_alloc ?_ _) | (with_reducible refine Kd.C_drewN ?_ _) | (with_reducible refine Kd.C_drew ?_))); (case side2 => exact HC3.out); rintro e w' ⟨rfl, ⟨nd, rfl⟩⟩; refine ⟨_, rfl, ?_⟩) | ((with_reducible refine gate_callee (f := 37) rfl ?_); refine goesL_ (some 25) rfl rfl Try.func37 (by kernel_rfl) rfl #[.slice A0 l0.length c0, .slice A3 l3.length c3] rfl (by (try simp only [mA, mB, mC]); first | done | rfl | (simp only [lD, lT]; rfl)) ?_; (with_reducible refine (galoisref09_Same.calls k _ _ l0 _ _ l3 true _ ?side1 ?side2 ?side3 ?side4 A8.out).mono ?_); (case side1 => repeat (first | exact HR0.out | (with_reducible refine Kd.C_alloc ?_ _) | (with_reducible refine Kd.C_drewN ?_ _) | (with_reducible refine Kd.C_drew ?_))); (case side2 => exact HC0.out); (case side3 => repeat (first | exact HR3.out | (with_reducible refine Kd.C_alloc ?_ _) | (with_reducible refine Kd.C_drewN ?_ _) | (with_reducible refine Kd.C_drew ?_))); (case side4 => exact HC3.out); rintro e w' ⟨rfl, ⟨nd, rfl⟩⟩; refine ⟨_, rfl, ?_⟩))
       go_ret
       exact ⟨by first | rfl | (simp; done) | (simp [*]; done), by repeat (first | exact Drawn0.refl _ | apply Drawn0.step)⟩
     · replace c9 := Bool.eq_false_iff.mpr c9
       subst c9
       have H1 : (some false) = some r := by rw [if_neg (show ¬ (false = true) by decide)] at H; exact H
       clear H
       have H := H1
       clear H1
       obtain rfl := Option.some.inj H
       go_enter Try.func26, Try.ntmps26
       go_wp2_with (first | ((with_reducible refine gate_callee (f := 76) rfl ?_); refine goesL_ (some 12) rfl rfl Try.func76 (by kernel_rfl) rfl #[.slice A3 l3.length c3] rfl (by (try simp only [mA, mB, mC]); first | done | rfl | (simp only [lD, lT]; rfl)) ?_; (with_reducible refine (galoisref09_Large.calls _ _ l3 t370 _ ?side1 ?side2 A6.out).mono ?_); (case side1 => repeat (first | exact HR3.out | (with_reducible refine Kd.C_alloc ?_ _) | (with_reducible refine Kd.C_drewN ?_ _) | (with_reducible refine Kd.C_drew ?_))); (case side2 => exact HC3.out); rintro e w' ⟨rfl, ⟨nd, rfl⟩⟩; refine ⟨_, rfl, ?_⟩) | ((with_reducible refine gate_callee (f := 37) rfl ?_); refine goesL_ (some 25) rfl rfl Try.func37 (by kernel_rfl) rfl #[.slice A0 l0.length c0, .slice A3 l3.length c3] rfl (by (try simp only [mA, mB, mC]); first | done | rfl | (simp only [lD, lT]; rfl)) ?_; (with_reducible refine (galoisref09_Same.calls k _ _ l0 _ _ l3 false _ ?side1 ?side2 ?side3 ?side4 A8.out).mono ?_); (case side1 => repeat (first | exact HR0.out | (with_reducible refine Kd.C_alloc ?_ _) | (with_reducible refine Kd.C_drewN ?_ _) | (with_reducible refine Kd.C_drew ?_))); (case side2 => exact HC0.out); (case side3 => repeat (first | exact HR3.out | (with_reducible refine Kd.C_alloc ?_ _) | (with_reducible refine Kd.C_drewN ?_ _) | (with_reducible refine Kd.C_drew ?_))); (case side4 => exact HC3.out); rintro e w' ⟨rfl, ⟨nd, rfl⟩⟩; refine ⟨_, rfl, ?_⟩))
       go_ret
       exact ⟨by first | rfl | (simp; done) | (simp [*]; done), by repeat (first | exact Drawn0.refl _ | apply Drawn0.step)⟩
   · rw [if_neg c7] at H
     have c7b0 : (t370 == 0) = false := beq_eq_false_iff_ne.mpr c7
     have c7b1 : (t370 != 0) = true := bne_iff_ne.mpr c7
     by_cases c10 : (l0.length : Int) = 0
     · rw [if_pos c10] at H
       have c10b0 : ((l0.length : Int) == 0) = true := beq_iff_eq.mpr c10
       have c10b1 : ((l0.length : Int) != 0) = false := bne_eq_false_iff_eq.mpr c10
       clear c10
       obtain rfl := Option.some.inj H
       go_enter Try.func26, Try.ntmps26
       go_wp2_with (first | ((with_reducible refine gate_callee (f := 76) rfl ?_); refine goesL_ (some 12) rfl rfl Try.func76 (by kernel_rfl) rfl #[.slice A3 l3.length c3] rfl (by (try simp only [mA, mB, mC]); first | done | rfl | (simp only [lD, lT]; rfl)) ?_; (with_reducible refine (galoisref09_Large.calls _ _ l3 t370 _ ?side1 ?side2 A6.out).mono ?_); (case side1 => repeat (first | exact HR3.out | (with_reducible refine Kd.C_alloc ?_ _) | (with_reducible refine Kd.C_drewN ?_ _) | (with_reducible refine Kd.C_drew ?_))); (case side2 => exact HC3.out); rintro e w' ⟨rfl, ⟨nd, rfl⟩⟩; refine ⟨_, rfl, ?_⟩))
       go_ret
       exact ⟨by first | rfl | (simp; done) | (simp [*]; done), by repeat (first | exact Drawn0.refl _ | apply Drawn0.step)⟩
     · rw [if_neg c10] at H
       have c10b0 : ((l0.length : Int) == 0) = false := beq_eq_false_iff_ne.mpr c10
       have c10b1 : ((l0.length : Int) != 0) = true := bne_iff_ne.mpr c10
       have c10b2 : ¬ (l0 = []) := fun h_ => c10 (by rw [h_]; rfl)
       obtain rfl := Option.some.inj H
       go_enter Try.func26, Try.ntmps26
       go_wp2_with (first | ((with_reducible refine gate_callee (f := 76) rfl ?_); refine goesL_ (some 12) rfl rfl Try.func76 (by kernel_rfl) rfl #[.slice A3 l3.length c3] rfl (by (try simp only [mA, mB, mC]); first | done | rfl | (simp only [lD, lT]; rfl)) ?_; (with_reducible refine (galoisref09_Large.calls _ _ l3 t370 _ ?side1 ?side2 A6.out).mono ?_); (case side1 => repeat (first | exact HR3.out | (with_reducible refine Kd.C_alloc ?_ _) | (with_reducible refine Kd.C_drewN ?_ _) | (with_reducible refine Kd.C_drew ?_))); (case side2 => exact HC3.out); rintro e w' ⟨rfl, ⟨nd, rfl⟩⟩; refine ⟨_, rfl, ?_⟩))
       go_ret
       exact ⟨by first | rfl | (simp; done) | (simp [*]; done), by repeat (first | exact Drawn0.refl _ | apply Drawn0.step)⟩
 · rw [if_neg c5] at H
   have c5b0 : (a2 == 0) = false := beq_eq_false_iff_ne.mpr c5
   have c5b1 : (a2 != 0) = true := bne_iff_ne.mpr c5
   by_cases c11 : (l0.length : Int) = 0
   · rw [if_pos c11] at H
     have c11b0 : ((l0.length : Int) == 0) = true := beq_iff_eq.mpr c11
     have c11b1 : ((l0.length : Int) != 0) = false := bne_eq_false_iff_eq.mpr c11
     clear c11
     obtain rfl := Option.some.inj H
     go_enter Try.func26, Try.ntmps26
     go_wp2
     go_ret
     exact ⟨by first | rfl | (simp; done) | (simp [*]; done), by repeat (first | exact Drawn0.refl _ | apply Drawn0.step)⟩
   · rw [if_neg c11] at H
     have c11b0 : ((l0.length : Int) == 0) = false := beq_eq_false_iff_ne.mpr c11
     have c11b1 : ((l0.length : Int) != 0) = true := bne_iff_ne.mpr c11
     have c11b2 : ¬ (l0 = []) := fun h_ => c11 (by rw [h_]; rfl)
     obtain rfl := Option.some.inj H
     go_enter Try.func26, Try.ntmps26
     go_wp2
     go_ret
     exact ⟨by first | rfl | (simp; done) | (simp [*]; done), by repeat (first | exact Drawn0.refl _ | apply Drawn0.step)⟩

/-! ### fp_Add: function 85 -/
def fp_Add.l0 : Nat → Int → List Int → List Int → List Int → Int → Int → Option (List Int)
 | 0, _, _, _, _, _, _ => none
 | k + 1, x0, x1, x2, x7, x16, x17 => if x17 < x16 then ((fp_at.f x1 x17).bind fun t375 => ((fp_at.f x2 x17).bind fun t376 => (if x0 = 0 then (none) else (if 0 ≤ x17 then (if x17 < (x7.length : Int) then (fp_Add.l0 k x0 x1 x2 (x7.set (x17 : Int).toNat (Int.tmod (wrap64 (t375 + t376)) x0)) x16 (wrap64 (x17 + 1))) else (none)) else (none))))) else ((fp_Trim.f k x7).bind fun t378 => (some t378))
def fp_Add.f (k : Nat) (a0 : Int) (l1 : List Int) (l2 : List Int) : Option (List Int) := if 0 ≤ (mx (l1.length : Int) (l2.length : Int)) then (if (mx (l1.length : Int) (l2.length : Int) : Int).toNat ≤ 35184372088832 then ((some (List.replicate (mx (l1.length : Int) (l2.length : Int) : Int).toNat 0 : List Int)).bind fun y372 => (fp_Add.l0 k a0 l1 l2 y372 (y372.length : Int) 0)) else (none)) else (none)
theorem fp_Add.mono_l : ∀ k, (∀ y0 y1 y2 y3 y4 y5, LeO (fp_Add.l0 k y0 y1 y2 y3 y4 y5) (fp_Add.l0 (k + 1) y0 y1 y2 y3 y4 y5))
 | 0 => fun _ _ _ _ _ _ r h => by simp [fp_Add.l0] at h
 | k + 1 => by
   have ih0 := fp_Add.mono_l k
   · intro y0 y1 y2 y3 y4 y5
     unfold fp_Add.l0
     repeat' first
     | (with_reducible apply ih0)
     | (with_reducible apply fp_Trim.mono)
     | (with_reducible apply LeO.refl)
     | (with_reducible apply LeO.none)
     | (with_reducible refine LeO.ite ?_ ?_)
     | (with_reducible refine LeO.bind ?_ (fun _ => ?_))
theorem fp_Add.mono : ∀ a0 a1 a2 k, LeO (fp_Add.f k a0 a1 a2) (fp_Add.f (k + 1) a0 a1 a2) := by
 intro a0 a1 a2 k
 have ih0 := fp_Add.mono_l k
 unfold fp_Add.f
 repeat' first
  | (with_reducible apply ih0)
  | (with_reducible apply fp_Trim.mono)
  | (with_reducible apply LeO.refl)
  | (with_reducible apply LeO.none)
  | (with_reducible refine LeO.ite ?_ ?_)
  | (with_reducible refine LeO.bind ?_ (fun _ => ?_))
set_option maxHeartbeats 8000000 in
set_option maxRecDepth 100000 in
theorem fp_Add.calls (k : Nat) (a0 : Int) (A1 : Option Addr) (c1 : Nat) (l1 : List Int) (A2 : Option Addr) (c2 : Nat) (l2 : List Int) (r : List Int) (w : World) (hr1 : Kd.C (Kd.int .i64) w A1 l1.length l1) (hc1 : l1.length ≤ c1) (hr2 : Kd.C (Kd.int .i64) w A2 l2.length l2) (hc2 : l2.length ≤ c2) (h : fp_Add.f k a0 l1 l2 = some r) :
 Calls Try.prog 85 #[.int .i64 a0, .slice A1 l1.length c1, .slice A2 l2.length c2] w fun e w' => ∃ v0_ : Value, e = .returned (v0_) ∧ Kd.V (Kd.int .i64) 3 w' w.heap.size (fun k_ => (w.heap.size ≤ k_)) v0_ r ∧ Below w.heap.size w w' := by
 have HR1 := Aside0.mk hr1
 have HC1 := Aside0.mk hc1
 clear hr1 hc1
 have HR2 := Aside0.mk hr2
 have HC2 := Aside0.mk hc2
 clear hr2 hc2
 have HB := Aside0.mk (Below.refl w.heap.size w)
 have H : (if 0 ≤ (mx (l1.length : Int) (l2.length : Int)) then (if (mx (l1.length : Int) (l2.length : Int) : Int).toNat ≤ 35184372088832 then ((some (List.replicate (mx (l1.length : Int) (l2.length : Int) : Int).toNat 0 : List Int)).bind fun y372 => (fp_Add.l0 k a0 l1 l2 y372 (y372.length : Int) 0)) else (none)) else (none)) = some r := h
 clear h
 obtain ⟨ji4, hji4⟩ : ∃ j_ : Int, (mx (l1.length : Int) (l2.length : Int)) = j_ := ⟨_, rfl⟩
 replace H : (if 0 ≤ (ji4) then (if (ji4 : Int).toNat ≤ 35184372088832 then ((some (List.replicate (ji4 : Int).toNat 0 : List Int)).bind fun y372 => (fp_Add.l0 k a0 l1 l2 y372 (y372.length : Int) 0)) else (none)) else (none)) = some r := by first | (rw [hji4] at H; exact H) | (simp only [hji4] at H ⊢; exact H)
 (try (have hji4l : 0 ≤ ji4 := by (rw [← hji4]; unfold mx; (repeat' split) <;> omega)))
 (try (have hji4m : 0 ≤ ji4 := by omega))
 have hji4_ : (if (l1.length : Int) < (l2.length : Int) then (l2.length : Int) else (l1.length : Int)) = ji4 := hji4
 (try (have hji4n_ : (if l1.length < l2.length then (l2.length : Int) else (l1.length : Int)) = ji4 := by rw [← hji4_]; simp only [Int.ofNat_lt]))
 by_cases c5 : 0 ≤ (ji4)
 · rw [if_pos c5] at H
   have c5b0 := eq_true c5
   have c5b1 : decide (0 ≤ (ji4)) = true := decide_eq_true c5
   clear c5
   by_cases c6 : (ji4 : Int).toNat ≤ 35184372088832
   · rw [if_pos c6] at H
     have c6b0 := eq_true c6
     have c6b1 : decide ((ji4 : Int).toNat ≤ 35184372088832) = true := decide_eq_true c6
     clear c6
     obtain ⟨y372, hy372⟩ : ∃ y_ : List Int, y_ = (List.replicate (ji4 : Int).toNat 0) := ⟨_, rfl⟩
     replace H : (fp_Add.l0 k a0 l1 l2 y372 (y372.length : Int) 0) = some r := by first | (rw [hy372]; with_reducible exact H) | (have H2_ := (Option.bind_some _ _).symm.trans H; rw [hy372]; with_reducible exact H2_) | (have H2_ := (Option.bind_some _ _).symm.trans H; with_reducible exact H2_) | with_reducible exact H | (rw [hy372]; exact H) | exact H
     have Ny372 := Aside0.mk hy372
     clear hy372
     have H' := Aside0.mk H
     clear H
     go_enter Try.func85, Try.ntmps85
     go_wp2_with (first | ((with_reducible refine gate_dst (N := 14) rfl ?_); refine Kd.R_make (Kd.int .i64) _ 3 rfl (N := 14) rfl 23 _ _ rfl ji4 rfl rfl Try.underlying23 (.int .i64 0) 8 info3 rfl (by decide) (by omega) 0 (ok := fun _ => True) (okp := fun _ => True) rfl (fun _ hk => hk) trivial (of_decide_eq_true (by first | (with_reducible assumption) | assumption)) (Nat.le_trans (Nat.mul_le_mul_right _ (of_decide_eq_true (by first | (with_reducible assumption) | assumption) : ji4.toNat ≤ 35184372088832)) (by omega)) (Below.refl _ _) (Nat.le_refl _) ?_; intro v373 w7 ho8 hb hg_ hnew_; clear hg_ hnew_; (first | rw [← Ny372.out] at ho8 | (simp only [Int.reduceToNat] at ho8; rw [← Ny372.out] at ho8)); have n0_ := Aside0.mk (Kd.R_lower (Kd.R_newM (M := fun k_ => (w.heap.size ≤ k_)) ho8 (below_size (by with_reducible repeat (first | exact HB.out | apply bA | apply bB | apply bC))) (fun k_ h_ => h_)) (below_size (by with_reducible repeat (first | exact HB.out | apply bA | apply bB | apply bC)))); have n1_ := Aside0.mk (below_step (by with_reducible repeat (first | exact HB.out | apply bA | apply bB | apply bC)) hb); clear HB; have HO374 := n0_; have HB := n1_; clear n0_ n1_; clear hb ho8; obtain ⟨Ao9, co9, eo9⟩ := Kd.R_slice HO374.out; subst eo9))
     go_loopg [17] k (fun kq v17 w' => ∃ (x7_1 : List Int) (x17_1 : Int), v17 = .int .i64 x17_1 ∧ Aside0 (fp_Add.l0 kq a0 l1 l2 x7_1 (y372.length : Int) x17_1 = some r) ∧ Aside0 (kq ≤ k) ∧ Aside0 (Kd.R (Kd.int .i64) 3 w' w.heap.size (fun k_ => (w.heap.size ≤ k_)) (.slice Ao9 y372.length co9) x7_1) ∧ Aside0 (Below w.heap.size w w'))
     case atStart => exact ⟨(y372), (0), (by first | rfl | (simp; done) | (simp [*]; done)), H', ⟨Nat.le_refl _⟩, ⟨by (with_reducible repeat (first | apply Kd.R_alloc | apply Kd.R_drewN | apply Kd.R_drew)); exact Kd.R_mono HO374.out (fun _ hk => hk.1)⟩, ⟨by with_reducible repeat (first | exact HB.out | apply bA | apply bB | apply bC)⟩⟩
     case round =>
      clear H'
      try clear c1
      try clear c2
      try clear p2
      try clear c5
      try clear c5b0
      try clear c5b1
      try clear c6
      try clear c6b0
      try clear c6b1
      try clear c8
      obtain ⟨x7_1, x17_1, rfl, HA, HK1, HO_7, HB⟩ := hrel
      have hl7_1 := (Kd.R_reads' HO_7.out).1
      rw [hl7_1] at HO_7
      (try simp only [hl7_1])
      cases gk with
      | zero => exact absurd HA.out (by simp [fp_Add.l0])
      | succ k1 =>
        have H := HA.out
        clear HA
        simp only [fp_Add.l0] at H
        by_cases c10 : x17_1 < (y372.length : Int)
        · rw [if_pos c10] at H
          have c10b0 : decide (x17_1 < (y372.length : Int)) = true := decide_eq_true c10
          (try rw [hl7_1] at c10b0)
          clear c10
          replace H := Option.bind_eq_some_iff.mp H
          obtain ⟨t375, A110, H⟩ := H
          replace H : ((fp_at.f l2 x17_1).bind fun t376 => (if a0 = 0 then (none) else (if 0 ≤ x17_1 then (if x17_1 < (x7_1.length : Int) then (fp_Add.l0 k1 a0 l1 l2 (x7_1.set (x17_1 : Int).toNat (Int.tmod (wrap64 (t375 + t376)) a0)) (y372.length : Int) (wrap64 (x17_1 + 1))) else (none)) else (none)))) = some r := H
          have A11 := Aside0.mk A110
          clear A110
          replace H := Option.bind_eq_some_iff.mp H
          obtain ⟨t376, A120, H⟩ := H
          replace H : (if a0 = 0 then (none) else (if 0 ≤ x17_1 then (if x17_1 < (x7_1.length : Int) then (fp_Add.l0 k1 a0 l1 l2 (x7_1.set (x17_1 : Int).toNat (Int.tmod (wrap64 (t375 + t376)) a0)) (y372.length : Int) (wrap64 (x17_1 + 1))) else (none)) else (none))) = some r := H
          have A12 := Aside0.mk A120
          clear A120
          by_cases c13 : a0 = 0
          · rw [if_pos c13] at H
            exact absurd H (by simp)
          · rw [if_neg c13] at H
            have c13b0 : (a0 == 0) = false := beq_eq_false_iff_ne.mpr c13
            have c13b1 : (a0 != 0) = true := bne_iff_ne.mpr c13
            by_cases c14 : 0 ≤ x17_1
            · rw [if_pos c14] at H
              have c14b0 : decide (0 ≤ x17_1) = true := decide_eq_true c14
              clear c14
              by_cases c15 : x17_1 < (x7_1.length : Int)
              · rw [if_pos c15] at H
                have c15b0 : decide (x17_1 < (x7_1.length : Int)) = true := decide_eq_true c15
                clear c15
                obtain ⟨y377, hy377⟩ : ∃ y_ : List Int, y_ = (x7_1.set (x17_1 : Int).toNat (Int.tmod (wrap64 (t375 + t376)) a0)) := ⟨_, rfl⟩
                replace H : (fp_Add.l0 k1 a0 l1 l2 y377 (y372.length : Int) (wrap64 (x17_1 + 1))) = some r := by first | (rw [hy377]; with_reducible exact H) | (have H2_ := (Option.bind_some _ _).symm.trans H; rw [hy377]; with_reducible exact H2_) | (have H2_ := (Option.bind_some _ _).symm.trans H; with_reducible exact H2_) | with_reducible exact H | (rw [hy377]; exact H) | exact H
                have Ny377 := Aside0.mk hy377
                clear hy377
                have H' := Aside0.mk H
                clear H
                go_wp2_with (first | ((with_reducible refine gate_callee (f := 107) rfl ?_); refine goesL_ (some 24) rfl rfl Try.func107 (by kernel_rfl) rfl #[.slice A1 l1.length c1, .int .i64 x17_1] rfl (by (try simp only [mA, mB, mC]); first | done | rfl | (simp only [lD, lT]; rfl)) ?_; (with_reducible refine (fp_at.calls _ _ l1 x17_1 t375 _ ?side1 ?side2 A11.out).mono ?_); (case side1 => repeat (first | exact (Kd.C_below HR1.out HB.out) | (with_reducible refine Kd.C_alloc ?_ _) | (with_reducible refine Kd.C_drewN ?_ _) | (with_reducible refine Kd.C_drew ?_))); (case side2 => exact HC1.out); rintro e w' ⟨rfl, ⟨nd, rfl⟩⟩; refine ⟨_, rfl, ?_⟩; (try (rw [drewN_self wr]; generalize hq_ : World.drewN wr _ = wr; have n0_ : Aside0 (Kd.R (Kd.int .i64) 3 wr w.heap.size (fun k_ => (w.heap.size ≤ k_)) (.slice Ao9 x7_1.length co9) x7_1) := ⟨by rw [← hq_]; exact (by (with_reducible repeat (first | apply Kd.R_alloc | apply Kd.R_drewN | apply Kd.R_drew)); exact HO_7.out)⟩; have n1_ : Aside0 (Below w.heap.size w wr) := ⟨by rw [← hq_]; exact (by with_reducible repeat (first | exact HB.out | apply bA | apply bB | apply bC))⟩; clear HO_7 HB hq_; have HO_7 := n0_; have HB := n1_; clear n0_ n1_))) | ((with_reducible refine gate_callee (f := 107) rfl ?_); refine goesL_ (some 27) rfl rfl Try.func107 (by kernel_rfl) rfl #[.slice A2 l2.length c2, .int .i64 x17_1] rfl (by (try simp only [mA, mB, mC]); first | done | rfl | (simp only [lD, lT]; rfl)) ?_; (with_reducible refine (fp_at.calls _ _ l2 x17_1 t376 _ ?side1 ?side2 A12.out).mono ?_); (case side1 => repeat (first | exact (Kd.C_below HR2.out HB.out) | (with_reducible refine Kd.C_alloc ?_ _) | (with_reducible refine Kd.C_drewN ?_ _) | (with_reducible refine Kd.C_drew ?_))); (case side2 => exact HC2.out); rintro e w' ⟨rfl, ⟨nd, rfl⟩⟩; refine ⟨_, rfl, ?_⟩; (try (rw [drewN_self wr]; generalize hq_ : World.drewN wr _ = wr; have n0_ : Aside0 (Kd.R (Kd.int .i64) 3 wr w.heap.size (fun k_ => (w.heap.size ≤ k_)) (.slice Ao9 x7_1.length co9) x7_1) := ⟨by rw [← hq_]; exact (by (with_reducible repeat (first | apply Kd.R_alloc | apply Kd.R_drewN | apply Kd.R_drew)); exact HO_7.out)⟩; have n1_ : Aside0 (Below w.heap.size w wr) := ⟨by rw [← hq_]; exact (by with_reducible repeat (first | exact HB.out | apply bA | apply bB | apply bC))⟩; clear HO_7 HB hq_; have HO_7 := n0_; have HB := n1_; clear n0_ n1_)); have p16 : 0 ≤ (x17_1 : Int) := of_decide_eq_true (by first | (with_reducible assumption) | assumption); have q16 : (x17_1 : Int) < ((x7_1.length : Int) : Int) := of_decide_eq_true (by first | (with_reducible assumption) | assumption); obtain ⟨go16, co16, eo16, gb16, gl16, cl16, HG16⟩ := Kd.R_form HO_7.out (by omega); (first | cases eo16 | (injection eo16 with ea_ en_ ec_; (first | subst ea_ | (injection ea_ with ea_; subst ea_)); subst ec_; clear en_)); have GB16 := Aside0.mk gb16; have GG16 := Aside0.mk HG16; clear gb16 gl16 HG16; obtain ⟨hx16_0, hf16_0⟩ := Kd.R_celln 0 HO_7.out (x17_1 : Int) p16 q16; replace p16 := eq_true p16; replace q16 := eq_true q16; obtain ⟨hy17_, hz17_⟩ := Kd.R_celln 0 HO_7.out (x17_1 : Int) (of_decide_eq_true (by first | (with_reducible assumption) | assumption)) (of_decide_eq_true (by first | (with_reducible assumption) | assumption)); have HP17 := Kd.R_putg HO_7.out (x17_1 : Int) (Int.tmod (wrap64 (t375 + t376)) a0)) | ((with_reducible refine gate_store (t := 3) (p := 31) rfl ?_); refine store_event (t := 3) (p := 31) (v := ?vo_w18) (w1 := (wr.setCell ⟨go16, (x17_1 : Int).toNat, none⟩ (.int .i64 (Int.tmod (wrap64 (t375 + t376)) a0)))) ?hg ?ho ?hn ?hr ?_; (case ho => rfl); (case hg => rfl); (case hn => rfl); (case hr => first | (go_simp; done) | (go_simp; rfl)); intro w18 hw; have hg : wr.grownBy w18 (some go16) := (by rw [hw]; exact HP17.2); have hp_ : Kd.R (Kd.int .i64) 3 w18 w.heap.size (fun k_ => (w.heap.size ≤ k_)) (.slice (some ⟨go16, 0, none⟩) x7_1.length co9) y377 := (by rw [hw, Ny377.out]; exact HP17.1); clear HP17; have n0_ := Aside0.mk (hp_); have n1_ := Aside0.mk ((by rw [hw]; exact below_set (HB.out) GB16.out : Below w.heap.size w w18)); clear HO_7; clear HB; have HO_7 := n0_; have HB := n1_; clear n0_ n1_; clear hg hw hp_))
                (try simp only [← hl7_1])
                (first | go_roundg k1 | (refine Handed.intro k1 ?measure ?_; rotate_left; go_step; (repeat rw [add_plain]); (repeat apply Exists.intro); refine ⟨?rel, rfl⟩))
                case measure => have := HK1.out; omega
                case rel => exact ⟨(y377), (wrap64 (x17_1 + 1)), (by first | rfl | (simp; done) | (simp [*]; done)), H', ⟨by have := HK1.out; omega⟩, ⟨by (try simp only [hl7_1]); (with_reducible repeat (first | apply Kd.R_alloc | apply Kd.R_drewN | apply Kd.R_drew)); exact HO_7.out⟩, ⟨by with_reducible repeat (first | exact HB.out | apply bA | apply bB | apply bC)⟩⟩
              · rw [if_neg c15] at H
                exact absurd H (by simp)
            · rw [if_neg c14] at H
              exact absurd H (by simp)
        · rw [if_neg c10] at H
          have c10b0 : decide (x17_1 < (y372.length : Int)) = false := decide_eq_false c10
          (try rw [hl7_1] at c10b0)
          clear c10
          replace H := Option.bind_eq_some_iff.mp H
          obtain ⟨t378, A190, H⟩ := H
          replace H : (some t378) = some r := H
          have A19 := Aside0.mk A190
          clear A190
          obtain rfl := Option.some.inj H
          go_wp2_with (first | ((with_reducible refine gate_callee (f := 88) rfl ?_); refine goesL_ (some 34) rfl rfl Try.func88 (by kernel_rfl) rfl #[.slice Ao9 x7_1.length co9] rfl (by (try simp only [mA, mB, mC]); first | done | rfl | (simp only [lD, lT]; rfl)) ?_; (with_reducible refine (fp_Trim.calls k1 (fun k_ => some k_ = (.slice Ao9 x7_1.length co9 : Value).ownBlock) _ _ x7_1 t378 _ ?side1 A19.out).mono ?_); (case side1 => exact Kd.R_V (Kd.R_tight rfl (HO_7.out))); rintro e w20 ⟨v379, rfl, ho0, hb⟩; refine ⟨_, rfl, ?_⟩; have n0_ := Aside0.mk (Kd.R_below (by (with_reducible repeat (first | apply Kd.R_alloc | apply Kd.R_drewN | apply Kd.R_drew)); exact HO_7.out) hb); have n1_ := Aside0.mk (Kd.V_lower (Kd.V_mono (ok' := fun k_ => (w.heap.size ≤ k_)) ho0 (fun k_ hk_ => Or.elim hk_ (fun hs_ => ((HO_7.out).1 k_ hs_.symm)) (fun hn_ => (Nat.le_trans (below_size (by with_reducible repeat (first | exact HB.out | apply bA | apply bB | apply bC))) hn_)))) (below_size (by with_reducible repeat (first | exact HB.out | apply bA | apply bB | apply bC)))); have n2_ := Aside0.mk (below_step (by with_reducible repeat (first | exact HB.out | apply bA | apply bB | apply bC)) hb); clear HO_7; clear HB; have HO_7 := n0_; have HO380 := n1_; have HB := n2_; clear n0_ n1_ n2_; (try clear hb); (try clear hb2); (try clear hk); (try clear hi); (try clear ho0)))
          go_ret
          exact ⟨_, by first | rfl | (simp [errW_none, errW_some] <;> rfl) | (simp only [← hji4]; first | rfl | (simp [errW_none, errW_some] <;> rfl)) | (simp [*, errW_none, errW_some] <;> rfl), by (with_reducible repeat (first | apply vA | apply vB | apply vC)); exact HO380.out, by with_reducible repeat (first | exact HB.out | apply bA | apply bB | apply bC)⟩
   · rw [if_neg c6] at H
     exact absurd H (by simp)
 · rw [if_neg c5] at H
   exact absurd H (by simp)

/-! ### polymod_Add: function 36 -/
def polymod_Add.f (k : Nat) (a0 : Int) (l1 : List Int) (l2 : List Int) : Option (List Int × Int) := (polymod_first.f k a0 (([l1, l2] : List (List Int)))).bind fun t384 => (if t384 = 0 then ((fp_Add.f k a0 l1 l2).bind fun t385 => (some (t385, 0))) else (some (([] : List Int), t384)))
theorem polymod_Add.mono : ∀ a0 a1 a2 k, LeO (polymod_Add.f k a0 a1 a2) (polymod_Add.f (k + 1) a0 a1 a2) := by
 intro a0 a1 a2 k
 unfold polymod_Add.f
 repeat' first
  | (with_reducible apply fp_Add.mono)
  | (with_reducible apply polymod_first.mono)
  | (with_reducible apply LeO.refl)
  | (with_reducible apply LeO.none)
  | (with_reducible refine LeO.ite ?_ ?_)
  | (with_reducible refine LeO.bind ?_ (fun _ => ?_))
set_option maxHeartbeats 8000000 in
set_option maxRecDepth 100000 in
theorem polymod_Add.calls (k : Nat) (a0 : Int) (P1_ : Nat → Prop) (A1 : Option Addr) (c1 : Nat) (l1 : List Int) (P2_ : Nat → Prop) (A2 : Option Addr) (c2 : Nat) (l2 : List Int) (r1 : List Int) (r2 : Int) (w : World) (hs1 : Kd.V (Kd.int .i64) 3 w w.heap.size (fun k_ => P1_ k_) (.slice A1 l1.length c1) l1) (hs2 : Kd.V (Kd.int .i64) 3 w w.heap.size (fun k_ => P2_ k_) (.slice A2 l2.length c2) l2) (h : polymod_Add.f k a0 l1 l2 = some (r1, r2)) :
 Calls Try.prog 36 #[.int .i64 a0, .slice A1 l1.length c1, .slice A2 l2.length c2] w fun e w' => ∃ v0_ : Value, e = .returned (.tuple #[v0_, .int .i64 r2]) ∧ Kd.V (Kd.int .i64) 3 w' w.heap.size (fun k_ => ((P1_ k_ ∨ P2_ k_) ∨ w.heap.size ≤ k_)) v0_ r1 ∧ Below w.heap.size w w' := by
 have HO1 := Aside0.mk (show Kd.V (Kd.int .i64) 3 w w.heap.size (fun k_ => ((P1_ k_ ∨ P2_ k_) ∨ w.heap.size ≤ k_)) (.slice A1 l1.length c1) l1 from Kd.V_mono hs1 (fun k_ hk => .inl (.inl hk)))
 have HO2 := Aside0.mk (show Kd.V (Kd.int .i64) 3 w w.heap.size (fun k_ => ((P1_ k_ ∨ P2_ k_) ∨ w.heap.size ≤ k_)) (.slice A2 l2.length c2) l2 from Kd.V_mono hs2 (fun k_ hk => .inl (.inr hk)))
 have HB := Aside0.mk (Below.refl w.heap.size w)
 have H : ((polymod_first.f k a0 (([l1, l2] : List (List Int)))).bind fun t384 => (if t384 = 0 then ((fp_Add.f k a0 l1 l2).bind fun t385 => (some (t385, 0))) else (some (([] : List Int), t384)))) = some (r1, r2) := h
 clear h
 obtain ⟨y381, hy381⟩ : ∃ y_ : List (List Int), y_ = (([l1, l2] : List (List Int))) := ⟨_, rfl⟩
 replace H : ((polymod_first.f k a0 y381).bind fun t384 => (if t384 = 0 then ((fp_Add.f k a0 l1 l2).bind fun t385 => (some (t385, 0))) else (some (([] : List Int), t384)))) = some (r1, r2) := by first | (rw [hy381]; with_reducible exact H) | (have H2_ := (Option.bind_some _ _).symm.trans H; rw [hy381]; with_reducible exact H2_) | (have H2_ := (Option.bind_some _ _).symm.trans H; with_reducible exact H2_) | with_reducible exact H | (rw [hy381]; exact H) | exact H
 have Ny381 := Aside0.mk hy381
 clear hy381
 replace H := Option.bind_eq_some_iff.mp H
 obtain ⟨t384, A40, H⟩ := H
 replace H : (if t384 = 0 then ((fp_Add.f k a0 l1 l2).bind fun t385 => (some (t385, 0))) else (some (([] : List Int), t384))) = some (r1, r2) := H
 have A4 := Aside0.mk A40
 clear A40
 by_cases c5 : t384 = 0
 · rw [if_pos c5] at H
   have c5b0 : (t384 == 0) = true := beq_iff_eq.mpr c5
   have c5b1 : (t384 != 0) = false := bne_eq_false_iff_eq.mpr c5
   clear c5
   replace H := Option.bind_eq_some_iff.mp H
   obtain ⟨t385, A60, H⟩ := H
   replace H : (some (t385, 0)) = some (r1, r2) := H
   have A6 := Aside0.mk A60
   clear A60
   simp only [Option.some.injEq, Prod.mk.injEq] at H
   obtain ⟨rfl, rfl⟩ := H
   go_enter Try.func36, Try.ntmps36
   go_wp2_with (first | ((with_reducible refine gate_dst (N := 12) rfl ?_); refine Kd.N_lit (Kd.slice 3 (Kd.int .i64)) _ 23 ?hg (N' := 12) ?hd (xs := ([l1, l2] : List (List Int))) (inner := [.slice A1 l1.length c1, .slice A2 l2.length c2]) (ok := (fun k_ => ((P1_ k_ ∨ P2_ k_) ∨ w.heap.size ≤ k_))) (okp := (fun k_ => ((P1_ k_ ∨ P2_ k_) ∨ w.heap.size ≤ k_))) ?hr ?hp (fun _ hk => hk) ((show ∀ k_, w.heap.size ≤ k_ → (fun k_ => ((P1_ k_ ∨ P2_ k_) ∨ w.heap.size ≤ k_)) k_ from fun k_ hk => (.inr (Nat.le_trans (below_size (by with_reducible repeat (first | exact HB.out | apply bA | apply bB | apply bC))) hk))) _ (Nat.le_refl _)) (Below.refl _ _) (Nat.le_refl _) (by simp) ?_; (case hd => rfl); (case hg => rfl); (case hr => first | (go_simp; done) | (go_simp; rfl)); (case hp => exact (Reps.one (show Kd.FK (Kd.slice 3 (Kd.int .i64)) _ _ l1 [.slice A1 l1.length c1] from (Kd.FK_slice_mk (Kd.V_reads' (Kd.V_mono (ok' := (fun k_ => ((P1_ k_ ∨ P2_ k_) ∨ w.heap.size ≤ k_))) (HO1.out) (fun k_ hk => hk))).2.1 (Kd.V_F (Kd.V_mono (ok' := (fun k_ => ((P1_ k_ ∨ P2_ k_) ∨ w.heap.size ≤ k_))) (HO1.out) (fun k_ hk => hk))))) (Reps.one (show Kd.FK (Kd.slice 3 (Kd.int .i64)) _ _ l2 [.slice A2 l2.length c2] from (Kd.FK_slice_mk (Kd.V_reads' (Kd.V_mono (ok' := (fun k_ => ((P1_ k_ ∨ P2_ k_) ∨ w.heap.size ≤ k_))) (HO2.out) (fun k_ hk => hk))).2.1 (Kd.V_F (Kd.V_mono (ok' := (fun k_ => ((P1_ k_ ∨ P2_ k_) ∨ w.heap.size ≤ k_))) (HO2.out) (fun k_ hk => hk))))) (Reps.none _ _)))); intro v382 w7 ho8 hb hg_ hnew_; clear hg_ hnew_; (first | rw [← Ny381.out] at ho8 | (simp only [Int.reduceToNat] at ho8; rw [← Ny381.out] at ho8)); have n0_ := Aside0.mk (Kd.V_elder' (by (with_reducible repeat (first | apply vA | apply vB | apply vC)); exact HO1.out) (Kd.N_base ho8) hb); have n1_ := Aside0.mk (Kd.V_elder' (by (with_reducible repeat (first | apply vA | apply vB | apply vC)); exact HO2.out) (Kd.N_base ho8) hb); have n2_ := Aside0.mk (Kd.N_lower ho8 (below_size (by with_reducible repeat (first | exact HB.out | apply bA | apply bB | apply bC)))); have n3_ := Aside0.mk (below_step (by with_reducible repeat (first | exact HB.out | apply bA | apply bB | apply bC)) hb); clear HO1; clear HO2; clear HB; have HO1 := n0_; have HO2 := n1_; have HO383 := n2_; have HB := n3_; clear n0_ n1_ n2_ n3_; clear hb ho8; obtain ⟨Ao9, co9, eo9⟩ := Kd.N_slice HO383.out; subst eo9) | ((with_reducible refine gate_callee (f := 60) rfl ?_); refine goesL_ (some 13) rfl rfl Try.func60 (by kernel_rfl) rfl #[.int .i64 a0, .slice Ao9 y381.length co9] rfl (by (try simp only [mA, mB, mC]); first | done | rfl | (simp only [lD, lT]; rfl)) ?_; (with_reducible refine (polymod_first.calls k a0 _ _ y381 t384 _ ?side1 ?side2 A4.out).mono ?_); (case side1 => repeat (first | exact (Kd.N_reads' HO383.out).2.2 | (with_reducible refine Kd.C_alloc ?_ _) | (with_reducible refine Kd.C_drewN ?_ _) | (with_reducible refine Kd.C_drew ?_))); (case side2 => exact (Kd.N_reads' HO383.out).2.1); rintro e w10 ⟨rfl, hb⟩; refine ⟨_, rfl, ?_⟩; have n0_ := Aside0.mk (Kd.V_below (by (with_reducible repeat (first | apply vA | apply vB | apply vC)); exact HO1.out) hb); have n1_ := Aside0.mk (Kd.V_below (by (with_reducible repeat (first | apply vA | apply vB | apply vC)); exact HO2.out) hb); have n2_ := Aside0.mk (Kd.N_below (by (with_reducible repeat (first | apply Kd.N_alloc | apply Kd.N_drewN | apply Kd.N_drew)); exact HO383.out) hb); have n3_ := Aside0.mk (below_step (by with_reducible repeat (first | exact HB.out | apply bA | apply bB | apply bC)) hb); clear HO1; clear HO2; clear HO383; clear HB; have HO1 := n0_; have HO2 := n1_; have HO383 := n2_; have HB := n3_; clear n0_ n1_ n2_ n3_; (try clear hb); (try clear hb2); (try clear hk); (try clear hi)) | ((with_reducible refine gate_callee (f := 85) rfl ?_); refine goesL_ (some 20) rfl rfl Try.func85 (by kernel_rfl) rfl #[.int .i64 a0, .slice A1 l1.length c1, .slice A2 l2.length c2] rfl (by (try simp only [mA, mB, mC]); first | done | rfl | (simp only [lD, lT]; rfl)) ?_; (with_reducible refine (fp_Add.calls k a0 _ _ l1 _ _ l2 t385 _ ?side1 ?side2 ?side3 ?side4 A6.out).mono ?_); (case side1 => repeat (first | exact (Kd.V_reads' HO1.out).2.2 | (with_reducible refine Kd.C_alloc ?_ _) | (with_reducible refine Kd.C_drewN ?_ _) | (with_reducible refine Kd.C_drew ?_))); (case side2 => exact (Kd.V_reads' HO1.out).2.1); (case side3 => repeat (first | exact (Kd.V_reads' HO2.out).2.2 | (with_reducible refine Kd.C_alloc ?_ _) | (with_reducible refine Kd.C_drewN ?_ _) | (with_reducible refine Kd.C_drew ?_))); (case side4 => exact (Kd.V_reads' HO2.out).2.1); rintro e w11 ⟨v386, rfl, ho0, hb⟩; refine ⟨_, rfl, ?_⟩; have n0_ := Aside0.mk (Kd.V_below (by (with_reducible repeat (first | apply vA | apply vB | apply vC)); exact HO1.out) hb); have n1_ := Aside0.mk (Kd.V_below (by (with_reducible repeat (first | apply vA | apply vB | apply vC)); exact HO2.out) hb); have n2_ := Aside0.mk (Kd.N_below (by (with_reducible repeat (first | apply Kd.N_alloc | apply Kd.N_drewN | apply Kd.N_drew)); exact HO383.out) hb); have n3_ := Aside0.mk (Kd.V_lower (Kd.V_mono (ok' := fun k_ => ((P1_ k_ ∨ P2_ k_) ∨ w.heap.size ≤ k_) ∧ some k_ ≠ (.slice Ao9 y381.length co9 : Value).ownBlock) ho0 (fun k_ hk_ => ⟨(.inr (Nat.le_trans (below_size (by with_reducible repeat (first | exact HB.out | apply bA | apply bB | apply bC))) hk_)), (Kd.fresh' (Kd.N_lt (by (with_reducible repeat (first | apply Kd.N_alloc | apply Kd.N_drewN | apply Kd.N_drew)); exact HO383.out)) k_ hk_)⟩)) (below_size (by with_reducible repeat (first | exact HB.out | apply bA | apply bB | apply bC)))); have n4_ := Aside0.mk (below_step (by with_reducible repeat (first | exact HB.out | apply bA | apply bB | apply bC)) hb); clear HO1; clear HO2; clear HO383; clear HB; have HO1 := n0_; have HO2 := n1_; have HO383 := n2_; have HO387 := n3_; have HB := n4_; clear n0_ n1_ n2_ n3_ n4_; (try clear hb); (try clear hb2); (try clear hk); (try clear hi); (try clear ho0)))
   go_ret2
   exact ⟨_, by first | rfl | (simp [errW_none, errW_some] <;> rfl) | (simp [*, errW_none, errW_some] <;> rfl), by (with_reducible repeat (first | apply vA | apply vB | apply vC)); exact Kd.V_mono HO387.out (fun _ hk => hk.1), by with_reducible repeat (first | exact HB.out | apply bA | apply bB | apply bC)⟩
 · rw [if_neg c5] at H
   have c5b0 : (t384 == 0) = false := beq_eq_false_iff_ne.mpr c5
   have c5b1 : (t384 != 0) = true := bne_iff_ne.mpr c5
   simp only [Option.some.injEq, Prod.mk.injEq] at H
   obtain ⟨rfl, rfl⟩ := H
   go_enter Try.func36, Try.ntmps36
   go_wp2_with (first | ((with_reducible refine gate_dst (N := 12) rfl ?_); refine Kd.N_lit (Kd.slice 3 (Kd.int .i64)) _ 23 ?hg (N' := 12) ?hd (xs := ([l1, l2] : List (List Int))) (inner := [.slice A1 l1.length c1, .slice A2 l2.length c2]) (ok := (fun k_ => ((P1_ k_ ∨ P2_ k_) ∨ w.heap.size ≤ k_))) (okp := (fun k_ => ((P1_ k_ ∨ P2_ k_) ∨ w.heap.size ≤ k_))) ?hr ?hp (fun _ hk => hk) ((show ∀ k_, w.heap.size ≤ k_ → (fun k_ => ((P1_ k_ ∨ P2_ k_) ∨ w.heap.size ≤ k_)) k_ from fun k_ hk => (.inr (Nat.le_trans (below_size (by with_reducible repeat (first | exact HB.out | apply bA | apply bB | apply bC))) hk))) _ (Nat.le_refl _)) (Below.refl _ _) (Nat.le_refl _) (by simp) ?_; (case hd => rfl); (case hg => rfl); (case hr => first | (go_simp; done) | (go_simp; rfl)); (case hp => exact (Reps.one (show Kd.FK (Kd.slice 3 (Kd.int .i64)) _ _ l1 [.slice A1 l1.length c1] from (Kd.FK_slice_mk (Kd.V_reads' (Kd.V_mono (ok' := (fun k_ => ((P1_ k_ ∨ P2_ k_) ∨ w.heap.size ≤ k_))) (HO1.out) (fun k_ hk => hk))).2.1 (Kd.V_F (Kd.V_mono (ok' := (fun k_ => ((P1_ k_ ∨ P2_ k_) ∨ w.heap.size ≤ k_))) (HO1.out) (fun k_ hk => hk))))) (Reps.one (show Kd.FK (Kd.slice 3 (Kd.int .i64)) _ _ l2 [.slice A2 l2.length c2] from (Kd.FK_slice_mk (Kd.V_reads' (Kd.V_mono (ok' := (fun k_ => ((P1_ k_ ∨ P2_ k_) ∨ w.heap.size ≤ k_))) (HO2.out) (fun k_ hk => hk))).2.1 (Kd.V_F (Kd.V_mono (ok' := (fun k_ => ((P1_ k_ ∨ P2_ k_) ∨ w.heap.size ≤ k_))) (HO2.out) (fun k_ hk => hk))))) (Reps.none _ _)))); intro v382 w12 ho13 hb hg_ hnew_; clear hg_ hnew_; (first | rw [← Ny381.out] at ho13 | (simp only [Int.reduceToNat] at ho13; rw [← Ny381.out] at ho13)); have n0_ := Aside0.mk (Kd.V_elder' (by (with_reducible repeat (first | apply vA | apply vB | apply vC)); exact HO1.out) (Kd.N_base ho13) hb); have n1_ := Aside0.mk (Kd.V_elder' (by (with_reducible repeat (first | apply vA | apply vB | apply vC)); exact HO2.out) (Kd.N_base ho13) hb); have n2_ := Aside0.mk (Kd.N_lower ho13 (below_size (by with_reducible repeat (first | exact HB.out | apply bA | apply bB | apply bC)))); have n3_ := Aside0.mk (below_step (by with_reducible repeat (first | exact HB.out | apply bA | apply bB | apply bC)) hb); clear HO1; clear HO2; clear HB; have HO1 := n0_; have HO2 := n1_; have HO383 := n2_; have HB := n3_; clear n0_ n1_ n2_ n3_; clear hb ho13; obtain ⟨Ao14, co14, eo14⟩ := Kd.N_slice HO383.out; subst eo14) | ((with_reducible refine gate_callee (f := 60) rfl ?_); refine goesL_ (some 13) rfl rfl Try.func60 (by kernel_rfl) rfl #[.int .i64 a0, .slice Ao14 y381.length co14] rfl (by (try simp only [mA, mB, mC]); first | done | rfl | (simp only [lD, lT]; rfl)) ?_; (with_reducible refine (polymod_first.calls k a0 _ _ y381 t384 _ ?side1 ?side2 A4.out).mono ?_); (case side1 => repeat (first | exact (Kd.N_reads' HO383.out).2.2 | (with_reducible refine Kd.C_alloc ?_ _) | (with_reducible refine Kd.C_drewN ?_ _) | (with_reducible refine Kd.C_drew ?_))); (case side2 => exact (Kd.N_reads' HO383.out).2.1); rintro e w15 ⟨rfl, hb⟩; refine ⟨_, rfl, ?_⟩; have n0_ := Aside0.mk (Kd.V_below (by (with_reducible repeat (first | apply vA | apply vB | apply vC)); exact HO1.out) hb); have n1_ := Aside0.mk (Kd.V_below (by (with_reducible repeat (first | apply vA | apply vB | apply vC)); exact HO2.out) hb); have n2_ := Aside0.mk (Kd.N_below (by (with_reducible repeat (first | apply Kd.N_alloc | apply Kd.N_drewN | apply Kd.N_drew)); exact HO383.out) hb); have n3_ := Aside0.mk (below_step (by with_reducible repeat (first | exact HB.out | apply bA | apply bB | apply bC)) hb); clear HO1; clear HO2; clear HO383; clear HB; have HO1 := n0_; have HO2 := n1_; have HO383 := n2_; have HB := n3_; clear n0_ n1_ n2_ n3_; (try clear hb); (try clear hb2); (try clear hk); (try clear hi)))
   go_ret2
   exact ⟨_, by first | rfl | (simp [errW_none, errW_some] <;> rfl) | (simp [*, errW_none, errW_some] <;> rfl), (Kd.V_nil _ _ _ _ _), by with_reducible repeat (first | exact HB.out | apply bA | apply bB | apply bC)⟩

/-! ### cmp_isNaN_int: function 124 -/
def cmp_isNaN_int.f (a0 : Int) : Option (Bool) := some (a0 != a0)
set_option maxHeartbeats 8000000 in
set_option maxRecDepth 100000 in
theorem cmp_isNaN_int.calls (a0 : Int) (r : Bool) (w : World) (h : cmp_isNaN_int.f a0 = some r) :
 Calls Try.prog 124 #[.int .i64 a0] w fun e w' => e = .returned (.bool r) ∧ Drawn0 w w' := by
 have H : (some (a0 != a0)) = some r := h
 clear h
 obtain rfl := Option.some.inj H
 go_enter Try.func124, Try.ntmps124
 go_wp2
 go_ret
 exact ⟨by first | rfl | (simp; done) | (simp [*]; done), by repeat (first | exact Drawn0.refl _ | apply Drawn0.step)⟩

/-! ### cmp_Compare_int: function 111 -/
def cmp_Compare_int.f (a0 : Int) (a1 : Int) : Option (Int) := (cmp_isNaN_int.f a0).bind fun t388 => ((cmp_isNaN_int.f a1).bind fun t389 => (if t388 = true then (if t389 = true then (some 0) else (some (-1))) else (if t389 = true then (some 1) else (if a0 < a1 then (some (-1)) else (if a0 > a1 then (some 1) else (some 0))))))
set_option maxHeartbeats 8000000 in
set_option maxRecDepth 100000 in
theorem cmp_Compare_int.calls (a0 : Int) (a1 : Int) (r : Int) (w : World) (h : cmp_Compare_int.f a0 a1 = some r) :
 Calls Try.prog 111 #[.int .i64 a0, .int .i64 a1] w fun e w' => e = .returned (.int .i64 r) ∧ Drawn0 w w' := by
 have H : ((cmp_isNaN_int.f a0).bind fun t388 => ((cmp_isNaN_int.f a1).bind fun t389 => (if t388 = true then (if t389 = true then (some 0) else (some (-1))) else (if t389 = true then (some 1) else (if a0 < a1 then (some (-1)) else (if a0 > a1 then (some 1) else (some 0))))))) = some r := h
 clear h
 replace H := Option.bind_eq_some_iff.mp H
 obtain ⟨t388, A30, H⟩ := H
 replace H : ((cmp_isNaN_int.f a1).bind fun t389 => (if t388 = true then (if t389 = true then (some 0) else (some (-1))) else (if t389 = true then (some 1) else (if a0 < a1 then (some (-1)) else (if a0 > a1 then (some 1) else (some 0)))))) = some r := H
 have A3 := Aside0.mk A30
 clear A30
 replace H := Option.bind_eq_some_iff.mp H
 obtain ⟨t389, A40, H⟩ := H
 replace H : (if t388 = true then (if t389 = true then (some 0) else (some (-1))) else (if t389 = true then (some 1) else (if a0 < a1 then (some (-1)) else (if a0 > a1 then (some 1) else (some 0))))) = some r := H
 have A4 := Aside0.mk A40
 clear A40
 by_cases c5 : t388 = true
 · subst c5
   have H1 : (if t389 = true then (some 0) else (some (-1))) = some r := by rw [if_pos rfl] at H; exact H
   clear H
   have H := H1
   clear H1
   by_cases c6 : t389 = true
   · subst c6
     have H1 : (some 0) = some r := by rw [if_pos rfl] at H; exact H
     clear H
     have H := H1
     clear H1
     obtain rfl := Option.some.inj H
     go_enter Try.func111, Try.ntmps111
     go_wp2_with (first | ((with_reducible refine gate_callee (f := 124) rfl ?_); refine goesL_ (some 8) rfl rfl Try.func124 (by kernel_rfl) rfl #[.int .i64 a0] rfl (by (try simp only [mA, mB, mC]); first | done | rfl | (simp only [lD, lT]; rfl)) ?_; (with_reducible refine (cmp_isNaN_int.calls a0 true _ A3.out).mono ?_); rintro e w' ⟨rfl, ⟨nd, rfl⟩⟩; refine ⟨_, rfl, ?_⟩) | ((with_reducible refine gate_callee (f := 124) rfl ?_); refine goesL_ (some 10) rfl rfl Try.func124 (by kernel_rfl) rfl #[.int .i64 a1] rfl (by (try simp only [mA, mB, mC]); first | done | rfl | (simp only [lD, lT]; rfl)) ?_; (with_reducible refine (cmp_isNaN_int.calls a1 true _ A4.out).mono ?_); rintro e w' ⟨rfl, ⟨nd, rfl⟩⟩; refine ⟨_, rfl, ?_⟩))
     go_ret
     exact ⟨by first | rfl | (simp; done) | (simp [*]; done), by repeat (first | exact Drawn0.refl _ | apply Drawn0.step)⟩
   · replace c6 := Bool.eq_false_iff.mpr c6
     subst c6
     have H1 : (some (-1)) = some r := by rw [if_neg (show ¬ (false = true) by decide)] at H; exact H
     clear H
     have H := H1
     clear H1
     obtain rfl := Option.some.inj H
     go_enter Try.func111, Try.ntmps111
     go_wp2_with (first | ((with_reducible refine gate_callee (f := 124) rfl ?_); refine goesL_ (some 8) rfl rfl Try.func124 (by kernel_rfl) rfl #[.int .i64 a0] rfl (by (try simp only [mA, mB, mC]); first | done | rfl | (simp only [lD, lT]; rfl)) ?_; (with_reducible refine (cmp_isNaN_int.calls a0 true _ A3.out).mono ?_); rintro e w' ⟨rfl, ⟨nd, rfl⟩⟩; refine ⟨_, rfl, ?_⟩) | ((with_reducible refine gate_callee (f := 124) rfl ?_); refine goesL_ (some 10) rfl rfl Try.func124 (by kernel_rfl) rfl #[.int .i64 a1] rfl (by (try simp only [mA, mB, mC]); first | done | rfl | (simp only [lD, lT]; rfl)) ?_; (with_reducible refine (cmp_isNaN_int.calls a1 false _ A4.out).mono ?_); rintro e w' ⟨rfl, ⟨nd, rfl⟩⟩; refine ⟨_, rfl, ?_⟩))
     go_ret
     exact ⟨by first | rfl | (simp; done) | (simp [*]; done), by repeat (first | exact Drawn0.refl _ | apply Drawn0.step)⟩
 · replace c5 := Bool.eq_false_iff.mpr c5
   subst c5
   have H1 : (if t389 = true then (some 1) else (if a0 < a1 then (some (-1)) else (if a0 > a1 then (some 1) else (some 0)))) = some r := by rw [if_neg (show ¬ (false = true) by decide)] at H; exact H
   clear H
   have H := H1
   clear H1
   by_cases c7 : t389 = true
   · subst c7
     have H1 : (some 1) = some r := by rw [if_pos rfl] at H; exact H
     clear H
     have H := H1
     clear H1
     obtain rfl := Option.some.inj H
     go_enter Try.func111, Try.ntmps111
     go_wp2_with (first | ((with_reducible refine gate_callee (f := 124) rfl ?_); refine goesL_ (some 8) rfl rfl Try.func124 (by kernel_rfl) rfl #[.int .i64 a0] rfl (by (try simp only [mA, mB, mC]); first | done | rfl | (simp only [lD, lT]; rfl)) ?_; (with_reducible refine (cmp_isNaN_int.calls a0 false _ A3.out).mono ?_); rintro e w' ⟨rfl, ⟨nd, rfl⟩⟩; refine ⟨_, rfl, ?_⟩) | ((with_reducible refine gate_callee (f := 124) rfl ?_); refine goesL_ (some 10) rfl rfl Try.func124 (by kernel_rfl) rfl #[.int .i64 a1] rfl (by (try simp only [mA, mB, mC]); first | done | rfl | (simp only [lD, lT]; rfl)) ?_; (with_reducible refine (cmp_isNaN_int.calls a1 true _ A4.out).mono ?_); rintro e w' ⟨rfl, ⟨nd, rfl⟩⟩; refine ⟨_, rfl, ?_⟩))
     go_ret
     exact ⟨by first | rfl | (simp; done) | (simp [*]; done), by repeat (first | exact Drawn0.refl _ | apply Drawn0.step)⟩
   · replace c7 := Bool.eq_false_iff.mpr c7
     subst c7
     have H1 : (if a0 < a1 then (some (-1)) else (if a0 > a1 then (some 1) else (some 0))) = some r := by rw [if_neg (show ¬ (false = true) by decide)] at H; exact H
     clear H
     have H := H1
     clear H1
     by_cases c8 : a0 < a1
     · rw [if_pos c8] at H
       have c8b0 : decide (a0 < a1) = true := decide_eq_true c8
       clear c8
       obtain rfl := Option.some.inj H
       go_enter Try.func111, Try.ntmps111
       go_wp2_with (first | ((with_reducible refine gate_callee (f := 124) rfl ?_); refine goesL_ (some 8) rfl rfl Try.func124 (by kernel_rfl) rfl #[.int .i64 a0] rfl (by (try simp only [mA, mB, mC]); first | done | rfl | (simp only [lD, lT]; rfl)) ?_; (with_reducible refine (cmp_isNaN_int.calls a0 false _ A3.out).mono ?_); rintro e w' ⟨rfl, ⟨nd, rfl⟩⟩; refine ⟨_, rfl, ?_⟩) | ((with_reducible refine gate_callee (f := 124) rfl ?_); refine goesL_ (some 10) rfl rfl Try.func124 (by kernel_rfl) rfl #[.int .i64 a1] rfl (by (try simp only [mA, mB, mC]); first | done | rfl | (simp only [lD, lT]; rfl)) ?_; (with_reducible refine (cmp_isNaN_int.calls a1 false _ A4.out).mono ?_); rintro e w' ⟨rfl, ⟨nd, rfl⟩⟩; refine ⟨_, rfl, ?_⟩))
       go_ret
       exact ⟨by first | rfl | (simp; done) | (simp [*]; done), by repeat (first | exact Drawn0.refl _ | apply Drawn0.step)⟩
     · rw [if_neg c8] at H
       have c8b0 : decide (a0 < a1) = false := decide_eq_false c8
       clear c8
       by_cases c9 : a0 > a1
       · rw [if_pos c9] at H
         have c9b0 : decide (a1 < a0) = true := decide_eq_true c9
         clear c9
         obtain rfl := Option.some.inj H
         go_enter Try.func111, Try.ntmps111
         go_wp2_with (first | ((with_reducible refine gate_callee (f := 124) rfl ?_); refine goesL_ (some 8) rfl rfl Try.func124 (by kernel_rfl) rfl #[.int .i64 a0] rfl (by (try simp only [mA, mB, mC]); first | done | rfl | (simp only [lD, lT]; rfl)) ?_; (with_reducible refine (cmp_isNaN_int.calls a0 false _ A3.out).mono ?_); rintro e w' ⟨rfl, ⟨nd, rfl⟩⟩; refine ⟨_, rfl, ?_⟩) | ((with_reducible refine gate_callee (f := 124) rfl ?_); refine goesL_ (some 10) rfl rfl Try.func124 (by kernel_rfl) rfl #[.int .i64 a1] rfl (by (try simp only [mA, mB, mC]); first | done | rfl | (simp only [lD, lT]; rfl)) ?_; (with_reducible refine (cmp_isNaN_int.calls a1 false _ A4.out).mono ?_); rintro e w' ⟨rfl, ⟨nd, rfl⟩⟩; refine ⟨_, rfl, ?_⟩))
         go_ret
         exact ⟨by first | rfl | (simp; done) | (simp [*]; done), by repeat (first | exact Drawn0.refl _ | apply Drawn0.step)⟩
       · rw [if_neg c9] at H
         have c9b0 : decide (a1 < a0) = false := decide_eq_false c9
         clear c9
         obtain rfl := Option.some.inj H
         go_enter Try.func111, Try.ntmps111
         go_wp2_with (first | ((with_reducible refine gate_callee (f := 124) rfl ?_); refine goesL_ (some 8) rfl rfl Try.func124 (by kernel_rfl) rfl #[.int .i64 a0] rfl (by (try simp only [mA, mB, mC]); first | done | rfl | (simp only [lD, lT]; rfl)) ?_; (with_reducible refine (cmp_isNaN_int.calls a0 false _ A3.out).mono ?_); rintro e w' ⟨rfl, ⟨nd, rfl⟩⟩; refine ⟨_, rfl, ?_⟩) | ((with_reducible refine gate_callee (f := 124) rfl ?_); refine goesL_ (some 10) rfl rfl Try.func124 (by kernel_rfl) rfl #[.int .i64 a1] rfl (by (try simp only [mA, mB, mC]); first | done | rfl | (simp only [lD, lT]; rfl)) ?_; (with_reducible refine (cmp_isNaN_int.calls a1 false _ A4.out).mono ?_); rintro e w' ⟨rfl, ⟨nd, rfl⟩⟩; refine ⟨_, rfl, ?_⟩))
         go_ret
         exact ⟨by first | rfl | (simp; done) | (simp [*]; done), by repeat (first | exact Drawn0.refl _ | apply Drawn0.step)⟩

/-! ### api_ModPoly_int_95: function 95 -/
def api_ModPoly_int_95.l0 : Nat → List Int → List Int → List Int → Int → Int → Option (Int)
 | 0, _, _, _, _, _ => none
 | k + 1, x0, x1, x9, x10, x11 => if x11 < x10 then (if 0 ≤ x11 then (if x11 < (x9.length : Int) then (if x11 ≥ (x1.length : Int) then (some 1) else (if x11 < (x1.length : Int) then ((cmp_Compare_int.f (rd x9 x11) (rd x1 x11)).bind fun t392 => (if t392 = 0 then (api_ModPoly_int_95.l0 k x0 x1 x9 x10 (wrap64 (x11 + 1))) else (some t392))) else (none))) else (none)) else (none)) else (if (x0.length : Int) < (x1.length : Int) then (some (-1)) else (some 0))
def api_ModPoly_int_95.f (k : Nat) (l0 : List Int) (l1 : List Int) : Option (Int) := api_ModPoly_int_95.l0 k l0 l1 l0 (l0.length : Int) 0
theorem api_ModPoly_int_95.mono_l : ∀ k, (∀ y0 y1 y2 y3 y4, LeO (api_ModPoly_int_95.l0 k y0 y1 y2 y3 y4) (api_ModPoly_int_95.l0 (k + 1) y0 y1 y2 y3 y4))
 | 0 => fun _ _ _ _ _ r h => by simp [api_ModPoly_int_95.l0] at h
 | k + 1 => by
   have ih0 := api_ModPoly_int_95.mono_l k
   · intro y0 y1 y2 y3 y4
     unfold api_ModPoly_int_95.l0
     repeat' first
     | (with_reducible apply ih0)
     | (with_reducible apply LeO.refl)
     | (with_reducible apply LeO.none)
     | (with_reducible refine LeO.ite ?_ ?_)
     | (with_reducible refine LeO.bind ?_ (fun _ => ?_))
theorem api_ModPoly_int_95.mono : ∀ a0 a1 k, LeO (api_ModPoly_int_95.f k a0 a1) (api_ModPoly_int_95.f (k + 1) a0 a1) := by
 intro a0 a1 k
 have ih0 := api_ModPoly_int_95.mono_l k
 unfold api_ModPoly_int_95.f
 repeat' first
  | (with_reducible apply ih0)
  | (with_reducible apply LeO.refl)
  | (with_reducible apply LeO.none)
  | (with_reducible refine LeO.ite ?_ ?_)
  | (with_reducible refine LeO.bind ?_ (fun _ => ?_))
set_option maxHeartbeats 8000000 in
set_option maxRecDepth 100000 in
theorem api_ModPoly_int_95.calls (k : Nat) (A0 : Option Addr) (c0 : Nat) (l0 : List Int) (A1 : Option Addr) (c1 : Nat) (l1 : List Int) (r : Int) (w : World) (hr0 : Kd.C (Kd.int .i64) w A0 l0.length l0) (hc0 : l0.length ≤ c0) (hr1 : Kd.C (Kd.int .i64) w A1 l1.length l1) (hc1 : l1.length ≤ c1) (h : api_ModPoly_int_95.f k l0 l1 = some r) :
 Calls Try.prog 95 #[.slice A0 l0.length c0, .slice A1 l1.length c1] w fun e w' => e = .returned (.int .i64 r) ∧ Drawn0 w w' := by
 have HR0 := Aside0.mk hr0
 have HC0 := Aside0.mk hc0
 clear hr0 hc0
 have HR1 := Aside0.mk hr1
 have HC1 := Aside0.mk hc1
 clear hr1 hc1
 have H : (api_ModPoly_int_95.l0 k l0 l1 l0 (l0.length : Int) 0) = some r := h
 clear h
 have H' := Aside0.mk H
 clear H
 go_enter Try.func95, Try.ntmps95
 go_wp2
 go_loopg [11] k (fun kq v11 w' => ∃ (x11_1 : Int), v11 = .int .i64 x11_1 ∧ Aside0 (api_ModPoly_int_95.l0 kq l0 l1 l0 (l0.length : Int) x11_1 = some r) ∧ Aside0 (kq ≤ k) ∧ Drawn0 w w')
 case atStart => exact ⟨(0), (by first | rfl | (simp; done) | (simp [*]; done)), H', ⟨Nat.le_refl _⟩, by repeat (first | exact Drawn0.refl _ | apply Drawn0.step)⟩
 case round =>
  clear H'
  try clear c1
  try clear p2
  obtain ⟨x11_1, rfl, HA, HK1, ⟨m1, rfl⟩⟩ := hrel
  cases gk with
  | zero => exact absurd HA.out (by simp [api_ModPoly_int_95.l0])
  | succ k1 =>
    have H := HA.out
    clear HA
    simp only [api_ModPoly_int_95.l0] at H
    by_cases c3 : x11_1 < (l0.length : Int)
    · rw [if_pos c3] at H
      have c3b0 : decide (x11_1 < (l0.length : Int)) = true := decide_eq_true c3
      clear c3
      by_cases c4 : 0 ≤ x11_1
      · rw [if_pos c4] at H
        have c4b0 : decide (0 ≤ x11_1) = true := decide_eq_true c4
        clear c4
        by_cases c5 : x11_1 < (l0.length : Int)
        · rw [if_pos c5] at H
          have c5b0 : decide (x11_1 < (l0.length : Int)) = true := decide_eq_true c5
          clear c5
          by_cases c6 : x11_1 ≥ (l1.length : Int)
          · rw [if_pos c6] at H
            have c6b0 : decide ((l1.length : Int) ≤ x11_1) = true := decide_eq_true c6
            clear c6
            obtain rfl := Option.some.inj H
            have p390 : 0 ≤ (x11_1 : Int) := of_decide_eq_true (by first | (with_reducible assumption) | assumption)
            have q390 : x11_1 < (l0.length : Int) := of_decide_eq_true (by first | (with_reducible assumption) | assumption)
            obtain ⟨ad390, e390, hx390_0⟩ := Kd.at_int HR0.out x11_1 p390 q390
            cases e390
            replace p390 := eq_true p390
            replace q390 := eq_true q390
            go_wp2
            go_ret
            exact ⟨by first | rfl | (simp; done) | (simp [*]; done), by repeat (first | exact Drawn0.refl _ | apply Drawn0.step)⟩
          · rw [if_neg c6] at H
            have c6b0 : decide ((l1.length : Int) ≤ x11_1) = false := decide_eq_false c6
            clear c6
            by_cases c7 : x11_1 < (l1.length : Int)
            · rw [if_pos c7] at H
              have c7b0 : decide (x11_1 < (l1.length : Int)) = true := decide_eq_true c7
              clear c7
              replace H := Option.bind_eq_some_iff.mp H
              obtain ⟨t392, A80, H⟩ := H
              replace H : (if t392 = 0 then (api_ModPoly_int_95.l0 k1 l0 l1 l0 (l0.length : Int) (wrap64 (x11_1 + 1))) else (some t392)) = some r := H
              have A8 := Aside0.mk A80
              clear A80
              by_cases c9 : t392 = 0
              · rw [if_pos c9] at H
                have c9b0 : (t392 == 0) = true := beq_iff_eq.mpr c9
                have c9b1 : (t392 != 0) = false := bne_eq_false_iff_eq.mpr c9
                clear c9
                have H' := Aside0.mk H
                clear H
                have p390 : 0 ≤ (x11_1 : Int) := of_decide_eq_true (by first | (with_reducible assumption) | assumption)
                have q390 : x11_1 < (l0.length : Int) := of_decide_eq_true (by first | (with_reducible assumption) | assumption)
                obtain ⟨ad390, e390, hx390_0⟩ := Kd.at_int HR0.out x11_1 p390 q390
                cases e390
                replace p390 := eq_true p390
                replace q390 := eq_true q390
                have p391 : 0 ≤ (x11_1 : Int) := of_decide_eq_true (by first | (with_reducible assumption) | assumption)
                have q391 : x11_1 < (l1.length : Int) := of_decide_eq_true (by first | (with_reducible assumption) | assumption)
                obtain ⟨ad391, e391, hx391_0⟩ := Kd.at_int HR1.out x11_1 p391 q391
                cases e391
                replace p391 := eq_true p391
                replace q391 := eq_true q391
                go_wp2_with (first | ((with_reducible refine gate_callee (f := 111) rfl ?_); refine goesL_ (some 26) rfl rfl Try.func111 (by kernel_rfl) rfl #[.int .i64 (rd l0 x11_1), .int .i64 (rd l1 x11_1)] rfl (by (try simp only [mA, mB, mC]); first | done | rfl | (simp only [lD, lT]; rfl)) ?_; (with_reducible refine (cmp_Compare_int.calls (rd l0 x11_1) (rd l1 x11_1) t392 _ A8.out).mono ?_); rintro e w' ⟨rfl, ⟨nd, rfl⟩⟩; refine ⟨_, rfl, ?_⟩))
                (first | go_roundg k1 | (refine Handed.intro k1 ?measure ?_; rotate_left; go_step; (repeat rw [add_plain]); (repeat apply Exists.intro); refine ⟨?rel, rfl⟩))
                case measure => have := HK1.out; omega
                case rel => exact ⟨(wrap64 (x11_1 + 1)), (by first | rfl | (simp; done) | (simp [*]; done)), H', ⟨by have := HK1.out; omega⟩, by repeat (first | exact Drawn0.refl _ | apply Drawn0.step)⟩
              · rw [if_neg c9] at H
                have c9b0 : (t392 == 0) = false := beq_eq_false_iff_ne.mpr c9
                have c9b1 : (t392 != 0) = true := bne_iff_ne.mpr c9
                obtain rfl := Option.some.inj H
                have p390 : 0 ≤ (x11_1 : Int) := of_decide_eq_true (by first | (with_reducible assumption) | assumption)
                have q390 : x11_1 < (l0.length : Int) := of_decide_eq_true (by first | (with_reducible assumption) | assumption)
                obtain ⟨ad390, e390, hx390_0⟩ := Kd.at_int HR0.out x11_1 p390 q390
                cases e390
                replace p390 := eq_true p390
                replace q390 := eq_true q390
                have p391 : 0 ≤ (x11_1 : Int) := of_decide_eq_true (by first | (with_reducible assumption) | assumption)
                have q391 : x11_1 < (l1.length : Int) := of_decide_eq_true (by first | (with_reducible assumption) | assumption)
                obtain ⟨ad391, e391, hx391_0⟩ := Kd.at_int HR1.out x11_1 p391 q391
                cases e391
                replace p391 := eq_true p391
                replace q391 := eq_true q391
                go_wp2_with (first | ((with_reducible refine gate_callee (f := 111) rfl ?_); refine goesL_ (some 26) rfl rfl Try.func111 (by kernel_rfl) rfl #[.int .i64 (rd l0 x11_1), .int .i64 (rd l1 x11_1)] rfl (by (try simp only [mA, mB, mC]); first | done | rfl | (simp only [lD, lT]; rfl)) ?_; (with_reducible refine (cmp_Compare_int.calls (rd l0 x11_1) (rd l1 x11_1) t392 _ A8.out).mono ?_); rintro e w' ⟨rfl, ⟨nd, rfl⟩⟩; refine ⟨_, rfl, ?_⟩))
                go_ret
                exact ⟨by first | rfl | (simp; done) | (simp [*]; done), by repeat (first | exact Drawn0.refl _ | apply Drawn0.step)⟩
            · rw [if_neg c7] at H
              exact absurd H (by simp)
        · rw [if_neg c5] at H
          exact absurd H (by simp)
      · rw [if_neg c4] at H
        exact absurd H (by simp)
    · rw [if_neg c3] at H
      have c3b0 : decide (x11_1 < (l0.length : Int)) = false := decide_eq_false c3
      clear c3
      by_cases c10 : (l0.length : Int) < (l1.length : Int)
      · rw [if_pos c10] at H
        have c10b0 : decide ((l0.length : Int) < (l1.length : Int)) = true := decide_eq_true c10
        have c10b1 : decide (l0.length < l1.length) = true := decide_eq_true (Int.ofNat_lt.mp c10)
        clear c10
        obtain rfl := Option.some.inj H
        go_wp2
        go_ret
        exact ⟨by first | rfl | (simp; done) | (simp [*]; done), by repeat (first | exact Drawn0.refl _ | apply Drawn0.step)⟩
      · rw [if_neg c10] at H
        have c10b0 : decide ((l0.length : Int) < (l1.length : Int)) = false := decide_eq_false c10
        have c10b1 : decide (l0.length < l1.length) = false := decide_eq_false (fun h => c10 (Int.ofNat_lt.mpr h))
        clear c10
        obtain rfl := Option.some.inj H
        go_wp2
        go_ret
        exact ⟨by first | rfl | (simp; done) | (simp [*]; done), by repeat (first | exact Drawn0.refl _ | apply Drawn0.step)⟩

end Go.Proofs.Ytmknclgamadphaa.PPolymodSums
