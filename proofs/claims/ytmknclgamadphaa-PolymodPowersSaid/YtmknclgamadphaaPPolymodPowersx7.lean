-- WRITTEN BY sprint.py (a program of this repo, over the kit's print.py): nothing here is trusted, Lean checks it.
import Derived.Test.YtmknclgamadphaaPPolymodPowersx0
import Derived.Test.YtmknclgamadphaaPPolymodPowersx1
import Derived.Test.YtmknclgamadphaaPPolymodPowersx2
import Derived.Test.YtmknclgamadphaaPPolymodPowersx5
import Derived.Test.YtmknclgamadphaaPPolymodPowersx6
namespace Go.Proofs.Ytmknclgamadphaa.PPolymodPowers
open Go.RowKit Go.Proofs.YtmknclgamadphaaW.PrintWords Go.Proofs.YtmknclgamadphaaW.PrintLast Go.Proofs.YtmknclgamadphaaW.PrintMore
attribute [local go_sem] max2_int min2_int max_two min_two max_three min_three max_four min_four   -- for this text's walks alone
set_option linter.unusedVariables false
set_option linter.unusedSimpArgs false

/-! ### polymod_Inverse: function 24 -/
def polymod_Inverse.f (k : Nat) (a0 : Int) (l1 : List Int) (l2 : List Int) : Option (List Int × Int) := (polymod_first.f k a0 (([l1, l2] : List (List Int)))).bind fun t394 => (if t394 = 0 then (if (l2.length : Int) < 2 then (some (([] : List Int), 6)) else ((fp_Xgcd.f k a0 l1 l2).bind fun bt395 => (if (bt395.1.length : Int) = 1 then ((fp_Rem.f k a0 bt395.2.1 l2).bind fun t404 => (some (t404, 0))) else (some (([] : List Int), 6))))) else (some (([] : List Int), t394)))
theorem polymod_Inverse.mono : ∀ a0 a1 a2 k, LeO (polymod_Inverse.f k a0 a1 a2) (polymod_Inverse.f (k + 1) a0 a1 a2) := by
 intro a0 a1 a2 k
 unfold polymod_Inverse.f
 repeat' first
  | (with_reducible apply fp_Rem.mono)
  | (with_reducible apply fp_Xgcd.mono)
  | (with_reducible apply polymod_first.mono)
  | (with_reducible apply LeO.refl)
  | (with_reducible apply LeO.none)
  | (with_reducible refine LeO.ite ?_ ?_)
  | (with_reducible refine LeO.bind ?_ (fun _ => ?_))
set_option maxHeartbeats 8000000 in
set_option maxRecDepth 100000 in
theorem polymod_Inverse.calls (k : Nat) (a0 : Int) (P1_ : Nat → Prop) (A1 : Option Addr) (c1 : Nat) (l1 : List Int) (P2_ : Nat → Prop) (A2 : Option Addr) (c2 : Nat) (l2 : List Int) (r1 : List Int) (r2 : Int) (w : World) (hs1 : Kd.V (Kd.int .i64) 3 w w.heap.size (fun k_ => P1_ k_) (.slice A1 l1.length c1) l1) (hs2 : Kd.V (Kd.int .i64) 3 w w.heap.size (fun k_ => P2_ k_) (.slice A2 l2.length c2) l2) (h : polymod_Inverse.f k a0 l1 l2 = some (r1, r2)) :
 Calls Try.prog 24 #[.int .i64 a0, .slice A1 l1.length c1, .slice A2 l2.length c2] w fun e w' => ∃ v0_ : Value, e = .returned (.tuple #[v0_, .int .i64 r2]) ∧ Kd.V (Kd.int .i64) 3 w' w.heap.size (fun k_ => ((P1_ k_ ∨ P2_ k_) ∨ w.heap.size ≤ k_)) v0_ r1 ∧ Below w.heap.size w w' := by
 have HO1 := ak (show Kd.V (Kd.int .i64) 3 w w.heap.size (fun k_ => ((P1_ k_ ∨ P2_ k_) ∨ w.heap.size ≤ k_)) (.slice A1 l1.length c1) l1 from Kd.V_mono hs1 (fun k_ hk => .inl (.inl hk)))
 have HO2 := ak (show Kd.V (Kd.int .i64) 3 w w.heap.size (fun k_ => ((P1_ k_ ∨ P2_ k_) ∨ w.heap.size ≤ k_)) (.slice A2 l2.length c2) l2 from Kd.V_mono hs2 (fun k_ hk => .inl (.inr hk)))
 have HB := ak (Below.refl w.heap.size w)
 have H : ((polymod_first.f k a0 (([l1, l2] : List (List Int)))).bind fun t394 => (if t394 = 0 then (if (l2.length : Int) < 2 then (some (([] : List Int), 6)) else ((fp_Xgcd.f k a0 l1 l2).bind fun bt395 => (if (bt395.1.length : Int) = 1 then ((fp_Rem.f k a0 bt395.2.1 l2).bind fun t404 => (some (t404, 0))) else (some (([] : List Int), 6))))) else (some (([] : List Int), t394)))) = some (r1, r2) := h
 clear h
 obtain ⟨y391, hy391⟩ : ∃ y_ : List (List Int), y_ = (([l1, l2] : List (List Int))) := ⟨_, rfl⟩
 replace H : ((polymod_first.f k a0 y391).bind fun t394 => (if t394 = 0 then (if (l2.length : Int) < 2 then (some (([] : List Int), 6)) else ((fp_Xgcd.f k a0 l1 l2).bind fun bt395 => (if (bt395.1.length : Int) = 1 then ((fp_Rem.f k a0 bt395.2.1 l2).bind fun t404 => (some (t404, 0))) else (some (([] : List Int), 6))))) else (some (([] : List Int), t394)))) = some (r1, r2) := by first | (rw [hy391]; with_reducible exact H) | (have H2_ := (Option.bind_some _ _).symm.trans H; rw [hy391]; with_reducible exact H2_) | (have H2_ := (Option.bind_some _ _).symm.trans H; with_reducible exact H2_) | with_reducible exact H | (rw [hy391]; exact H) | exact H
 have Ny391 := ak hy391
 clear hy391
 replace H := Option.bind_eq_some_iff.mp H
 obtain ⟨t394, A40, H⟩ := H
 replace H : (if t394 = 0 then (if (l2.length : Int) < 2 then (some (([] : List Int), 6)) else ((fp_Xgcd.f k a0 l1 l2).bind fun bt395 => (if (bt395.1.length : Int) = 1 then ((fp_Rem.f k a0 bt395.2.1 l2).bind fun t404 => (some (t404, 0))) else (some (([] : List Int), 6))))) else (some (([] : List Int), t394))) = some (r1, r2) := H
 have A4 := ak A40
 clear A40
 by_cases c5 : t394 = 0
 · rw [if_pos c5] at H
   have c5b0 : (t394 == 0) = true := beq_iff_eq.mpr c5
   have c5b1 : (t394 != 0) = false := bne_eq_false_iff_eq.mpr c5
   clear c5
   by_cases c6 : (l2.length : Int) < 2
   · rw [if_pos c6] at H
     have c6b0 : decide ((l2.length : Int) < 2) = true := decide_eq_true c6
     have c6b1 : decide (l2.length < 2) = true := decide_eq_true (by omega)
     clear c6
     simp only [Option.some.injEq, Prod.mk.injEq] at H
     obtain ⟨rfl, rfl⟩ := H
     go_enter Try.func24, Try.ntmps24
     go_wp2_with (first | ((with_reducible refine gate_dst (N := 15) rfl ?_); refine Kd.N_lit (Kd.slice 3 (Kd.int .i64)) _ 23 ?hg (N' := 15) ?hd (xs := ([l1, l2] : List (List Int))) (inner := [.slice A1 l1.length c1, .slice A2 l2.length c2]) (ok := (fun k_ => ((P1_ k_ ∨ P2_ k_) ∨ w.heap.size ≤ k_))) (okp := (fun k_ => ((P1_ k_ ∨ P2_ k_) ∨ w.heap.size ≤ k_))) ?hr ?hp (fun _ hk => hk) ((show ∀ k_, w.heap.size ≤ k_ → (fun k_ => ((P1_ k_ ∨ P2_ k_) ∨ w.heap.size ≤ k_)) k_ from fun k_ hk => (.inr (Nat.le_trans (below_size (by repeat (first | (with_reducible first | exact HB.out | apply bA | apply bB | apply bC) | exact HB.out))) hk))) _ (Nat.le_refl _)) (Below.refl _ _) (Nat.le_refl _) (by simp) ?_; (case hd => rfl); (case hg => rfl); (case hr => first | (go_simp; done) | (go_simp; rfl)); (case hp => exact (Reps.one (show Kd.FK (Kd.slice 3 (Kd.int .i64)) _ _ l1 [.slice A1 l1.length c1] from (Kd.FK_slice_mk (Kd.V_reads' (Kd.V_mono (ok' := (fun k_ => ((P1_ k_ ∨ P2_ k_) ∨ w.heap.size ≤ k_))) (HO1.out) (fun k_ hk => hk))).2.1 (Kd.V_F (Kd.V_mono (ok' := (fun k_ => ((P1_ k_ ∨ P2_ k_) ∨ w.heap.size ≤ k_))) (HO1.out) (fun k_ hk => hk))))) (Reps.one (show Kd.FK (Kd.slice 3 (Kd.int .i64)) _ _ l2 [.slice A2 l2.length c2] from (Kd.FK_slice_mk (Kd.V_reads' (Kd.V_mono (ok' := (fun k_ => ((P1_ k_ ∨ P2_ k_) ∨ w.heap.size ≤ k_))) (HO2.out) (fun k_ hk => hk))).2.1 (Kd.V_F (Kd.V_mono (ok' := (fun k_ => ((P1_ k_ ∨ P2_ k_) ∨ w.heap.size ≤ k_))) (HO2.out) (fun k_ hk => hk))))) (Reps.none _ _)))); intro v392 w7 ho8 hb hg_ hnew_; clear hg_ hnew_; (first | rw [← Ny391.out] at ho8 | (simp only [Int.reduceToNat] at ho8; rw [← Ny391.out] at ho8)); have n0_ := ak (Kd.V_elder' (by (with_reducible repeat (first | apply vA | apply vB | apply vC)); exact HO1.out) (Kd.N_base ho8) hb); have n1_ := ak (Kd.V_elder' (by (with_reducible repeat (first | apply vA | apply vB | apply vC)); exact HO2.out) (Kd.N_base ho8) hb); have n2_ := ak (Kd.N_lower ho8 (below_size (by repeat (first | (with_reducible first | exact HB.out | apply bA | apply bB | apply bC) | exact HB.out)))); have n3_ := ak (below_step (by repeat (first | (with_reducible first | exact HB.out | apply bA | apply bB | apply bC) | exact HB.out)) hb); clear HO1; clear HO2; clear HB; have HO1 := n0_; have HO2 := n1_; have HO393 := n2_; have HB := n3_; clear n0_ n1_ n2_ n3_; clear hb ho8; obtain ⟨Ao9, co9, eo9⟩ := Kd.N_slice HO393.out; subst eo9) | ((with_reducible refine gate_callee (f := 60) rfl ?_); refine goesL_ (some 16) rfl rfl Try.func60 (by kernel_rfl) rfl #[.int .i64 a0, .slice Ao9 y391.length co9] rfl (by (try simp only [mA, mB, mC]); first | done | rfl | (simp only [lD, lT]; rfl)) ?_; (with_reducible refine (polymod_first.calls k a0 _ _ y391 t394 _ ?side1 ?side2 A4.out).mono ?_); (case side1 => repeat (first | exact (Kd.N_reads' HO393.out).2.2 | (with_reducible first | apply cA | apply cB | apply cC))); (case side2 => exact (Kd.N_reads' HO393.out).2.1); rintro e w10 ⟨rfl, hb⟩; refine ⟨_, rfl, ?_⟩; have n0_ := ak (Kd.V_below (by (with_reducible repeat (first | apply vA | apply vB | apply vC)); exact HO1.out) hb); have n1_ := ak (Kd.V_below (by (with_reducible repeat (first | apply vA | apply vB | apply vC)); exact HO2.out) hb); have n2_ := ak (Kd.N_below (by (with_reducible repeat (first | apply Kd.N_alloc | apply Kd.N_drewN | apply Kd.N_drew)); exact HO393.out) hb); have n3_ := ak (below_step (by repeat (first | (with_reducible first | exact HB.out | apply bA | apply bB | apply bC) | exact HB.out)) hb); clear HO1; clear HO2; clear HO393; clear HB; have HO1 := n0_; have HO2 := n1_; have HO393 := n2_; have HB := n3_; clear n0_ n1_ n2_ n3_; (try clear hb); (try clear hb2); (try clear hk); (try clear hi)))
     go_ret2
     exact ⟨_, by first | rfl | (simp [errW_none, errW_some] <;> rfl) | (simp [*, errW_none, errW_some] <;> rfl), (Kd.V_nil _ _ _ _ _), by repeat (first | (with_reducible first | exact HB.out | apply bA | apply bB | apply bC) | exact HB.out)⟩
   · rw [if_neg c6] at H
     have c6b0 : decide ((l2.length : Int) < 2) = false := decide_eq_false c6
     have c6b1 : decide (l2.length < 2) = false := decide_eq_false (by omega)
     clear c6
     replace H := Option.bind_eq_some_iff.mp H
     obtain ⟨⟨t395, t398, t401⟩, A110, H⟩ := H
     replace H : (if (t395.length : Int) = 1 then ((fp_Rem.f k a0 t398 l2).bind fun t404 => (some (t404, 0))) else (some (([] : List Int), 6))) = some (r1, r2) := H
     have A11 := ak A110
     clear A110
     by_cases c12 : (t395.length : Int) = 1
     · rw [if_pos c12] at H
       have c12b0 : ((t395.length : Int) == 1) = true := beq_iff_eq.mpr c12
       have c12b1 : ((t395.length : Int) != 1) = false := bne_eq_false_iff_eq.mpr c12
       clear c12
       replace H := Option.bind_eq_some_iff.mp H
       obtain ⟨t404, A130, H⟩ := H
       replace H : (some (t404, 0)) = some (r1, r2) := H
       have A13 := ak A130
       clear A130
       simp only [Option.some.injEq, Prod.mk.injEq] at H
       obtain ⟨rfl, rfl⟩ := H
       go_enter Try.func24, Try.ntmps24
       go_wp2_with (first | ((with_reducible refine gate_dst (N := 15) rfl ?_); refine Kd.N_lit (Kd.slice 3 (Kd.int .i64)) _ 23 ?hg (N' := 15) ?hd (xs := ([l1, l2] : List (List Int))) (inner := [.slice A1 l1.length c1, .slice A2 l2.length c2]) (ok := (fun k_ => ((P1_ k_ ∨ P2_ k_) ∨ w.heap.size ≤ k_))) (okp := (fun k_ => ((P1_ k_ ∨ P2_ k_) ∨ w.heap.size ≤ k_))) ?hr ?hp (fun _ hk => hk) ((show ∀ k_, w.heap.size ≤ k_ → (fun k_ => ((P1_ k_ ∨ P2_ k_) ∨ w.heap.size ≤ k_)) k_ from fun k_ hk => (.inr (Nat.le_trans (below_size (by repeat (first | (with_reducible first | exact HB.out | apply bA | apply bB | apply bC) | exact HB.out))) hk))) _ (Nat.le_refl _)) (Below.refl _ _) (Nat.le_refl _) (by simp) ?_; (case hd => rfl); (case hg => rfl); (case hr => first | (go_simp; done) | (go_simp; rfl)); (case hp => exact (Reps.one (show Kd.FK (Kd.slice 3 (Kd.int .i64)) _ _ l1 [.slice A1 l1.length c1] from (Kd.FK_slice_mk (Kd.V_reads' (Kd.V_mono (ok' := (fun k_ => ((P1_ k_ ∨ P2_ k_) ∨ w.heap.size ≤ k_))) (HO1.out) (fun k_ hk => hk))).2.1 (Kd.V_F (Kd.V_mono (ok' := (fun k_ => ((P1_ k_ ∨ P2_ k_) ∨ w.heap.size ≤ k_))) (HO1.out) (fun k_ hk => hk))))) (Reps.one (show Kd.FK (Kd.slice 3 (Kd.int .i64)) _ _ l2 [.slice A2 l2.length c2] from (Kd.FK_slice_mk (Kd.V_reads' (Kd.V_mono (ok' := (fun k_ => ((P1_ k_ ∨ P2_ k_) ∨ w.heap.size ≤ k_))) (HO2.out) (fun k_ hk => hk))).2.1 (Kd.V_F (Kd.V_mono (ok' := (fun k_ => ((P1_ k_ ∨ P2_ k_) ∨ w.heap.size ≤ k_))) (HO2.out) (fun k_ hk => hk))))) (Reps.none _ _)))); intro v392 w14 ho15 hb hg_ hnew_; clear hg_ hnew_; (first | rw [← Ny391.out] at ho15 | (simp only [Int.reduceToNat] at ho15; rw [← Ny391.out] at ho15)); have n0_ := ak (Kd.V_elder' (by (with_reducible repeat (first | apply vA | apply vB | apply vC)); exact HO1.out) (Kd.N_base ho15) hb); have n1_ := ak (Kd.V_elder' (by (with_reducible repeat (first | apply vA | apply vB | apply vC)); exact HO2.out) (Kd.N_base ho15) hb); have n2_ := ak (Kd.N_lower ho15 (below_size (by repeat (first | (with_reducible first | exact HB.out | apply bA | apply bB | apply bC) | exact HB.out)))); have n3_ := ak (below_step (by repeat (first | (with_reducible first | exact HB.out | apply bA | apply bB | apply bC) | exact HB.out)) hb); clear HO1; clear HO2; clear HB; have HO1 := n0_; have HO2 := n1_; have HO393 := n2_; have HB := n3_; clear n0_ n1_ n2_ n3_; clear hb ho15; obtain ⟨Ao16, co16, eo16⟩ := Kd.N_slice HO393.out; subst eo16) | ((with_reducible refine gate_callee (f := 60) rfl ?_); refine goesL_ (some 16) rfl rfl Try.func60 (by kernel_rfl) rfl #[.int .i64 a0, .slice Ao16 y391.length co16] rfl (by (try simp only [mA, mB, mC]); first | done | rfl | (simp only [lD, lT]; rfl)) ?_; (with_reducible refine (polymod_first.calls k a0 _ _ y391 t394 _ ?side1 ?side2 A4.out).mono ?_); (case side1 => repeat (first | exact (Kd.N_reads' HO393.out).2.2 | (with_reducible first | apply cA | apply cB | apply cC))); (case side2 => exact (Kd.N_reads' HO393.out).2.1); rintro e w17 ⟨rfl, hb⟩; refine ⟨_, rfl, ?_⟩; have n0_ := ak (Kd.V_below (by (with_reducible repeat (first | apply vA | apply vB | apply vC)); exact HO1.out) hb); have n1_ := ak (Kd.V_below (by (with_reducible repeat (first | apply vA | apply vB | apply vC)); exact HO2.out) hb); have n2_ := ak (Kd.N_below (by (with_reducible repeat (first | apply Kd.N_alloc | apply Kd.N_drewN | apply Kd.N_drew)); exact HO393.out) hb); have n3_ := ak (below_step (by repeat (first | (with_reducible first | exact HB.out | apply bA | apply bB | apply bC) | exact HB.out)) hb); clear HO1; clear HO2; clear HO393; clear HB; have HO1 := n0_; have HO2 := n1_; have HO393 := n2_; have HB := n3_; clear n0_ n1_ n2_ n3_; (try clear hb); (try clear hb2); (try clear hk); (try clear hi)) | ((with_reducible refine gate_callee (f := 75) rfl ?_); refine goesL_ (some 27) rfl rfl Try.func75 (by kernel_rfl) rfl #[.int .i64 a0, .slice A1 l1.length c1, .slice A2 l2.length c2] rfl (by (try simp only [mA, mB, mC]); first | done | rfl | (simp only [lD, lT]; rfl)) ?_; (with_reducible refine (fp_Xgcd.calls k a0 (fun k_ => (((P1_ k_ ∨ P2_ k_) ∨ w.heap.size ≤ k_) ∧ some k_ ≠ (.slice Ao16 y391.length co16 : Value).ownBlock)) _ _ l1 (fun k_ => (((P1_ k_ ∨ P2_ k_) ∨ w.heap.size ≤ k_) ∧ some k_ ≠ (.slice Ao16 y391.length co16 : Value).ownBlock)) _ _ l2 t395 t398 t401 _ ?side1 ?side2 A11.out).mono ?_); (case side1 => exact HO1.out); (case side2 => exact HO2.out); rintro e w18 ⟨v396, v399, v402, rfl, ho0, ho1, ho2, hb⟩; refine ⟨_, rfl, ?_⟩; have n0_ := ak (Kd.V_below (by (with_reducible repeat (first | apply vA | apply vB | apply vC)); exact HO1.out) hb); have n1_ := ak (Kd.V_below (by (with_reducible repeat (first | apply vA | apply vB | apply vC)); exact HO2.out) hb); have n2_ := ak (Kd.N_below (by (with_reducible repeat (first | apply Kd.N_alloc | apply Kd.N_drewN | apply Kd.N_drew)); exact HO393.out) hb); have n3_ := ak (Kd.V_lower (Kd.V_mono (ok' := fun k_ => ((P1_ k_ ∨ P2_ k_) ∨ w.heap.size ≤ k_) ∧ some k_ ≠ (.slice Ao16 y391.length co16 : Value).ownBlock) ho0 (fun k_ hk_ => ⟨Or.elim hk_ (fun hs_ => Or.elim hs_ (fun hs_ => hs_.1) (fun hs_ => hs_.1)) (fun hn_ => (.inr (Nat.le_trans (below_size (by repeat (first | (with_reducible first | exact HB.out | apply bA | apply bB | apply bC) | exact HB.out))) hn_))), Or.elim hk_ (fun hs_ => Or.elim hs_ (fun hs_ => hs_.2) (fun hs_ => hs_.2)) (fun hn_ => (Kd.fresh' (Kd.N_lt (by (with_reducible repeat (first | apply Kd.N_alloc | apply Kd.N_drewN | apply Kd.N_drew)); exact HO393.out)) k_ hn_))⟩)) (below_size (by repeat (first | (with_reducible first | exact HB.out | apply bA | apply bB | apply bC) | exact HB.out)))); have n4_ := ak (Kd.V_lower (Kd.V_mono (ok' := fun k_ => ((P1_ k_ ∨ P2_ k_) ∨ w.heap.size ≤ k_) ∧ some k_ ≠ (.slice Ao16 y391.length co16 : Value).ownBlock) ho1 (fun k_ hk_ => ⟨Or.elim hk_ (fun hs_ => Or.elim hs_ (fun hs_ => hs_.1) (fun hs_ => hs_.1)) (fun hn_ => (.inr (Nat.le_trans (below_size (by repeat (first | (with_reducible first | exact HB.out | apply bA | apply bB | apply bC) | exact HB.out))) hn_))), Or.elim hk_ (fun hs_ => Or.elim hs_ (fun hs_ => hs_.2) (fun hs_ => hs_.2)) (fun hn_ => (Kd.fresh' (Kd.N_lt (by (with_reducible repeat (first | apply Kd.N_alloc | apply Kd.N_drewN | apply Kd.N_drew)); exact HO393.out)) k_ hn_))⟩)) (below_size (by repeat (first | (with_reducible first | exact HB.out | apply bA | apply bB | apply bC) | exact HB.out)))); have n5_ := ak (Kd.V_lower (Kd.V_mono (ok' := fun k_ => ((P1_ k_ ∨ P2_ k_) ∨ w.heap.size ≤ k_) ∧ some k_ ≠ (.slice Ao16 y391.length co16 : Value).ownBlock) ho2 (fun k_ hk_ => ⟨Or.elim hk_ (fun hs_ => Or.elim hs_ (fun hs_ => hs_.1) (fun hs_ => hs_.1)) (fun hn_ => (.inr (Nat.le_trans (below_size (by repeat (first | (with_reducible first | exact HB.out | apply bA | apply bB | apply bC) | exact HB.out))) hn_))), Or.elim hk_ (fun hs_ => Or.elim hs_ (fun hs_ => hs_.2) (fun hs_ => hs_.2)) (fun hn_ => (Kd.fresh' (Kd.N_lt (by (with_reducible repeat (first | apply Kd.N_alloc | apply Kd.N_drewN | apply Kd.N_drew)); exact HO393.out)) k_ hn_))⟩)) (below_size (by repeat (first | (with_reducible first | exact HB.out | apply bA | apply bB | apply bC) | exact HB.out)))); have n6_ := ak (below_step (by repeat (first | (with_reducible first | exact HB.out | apply bA | apply bB | apply bC) | exact HB.out)) hb); clear HO1; clear HO2; clear HO393; clear HB; have HO1 := n0_; have HO2 := n1_; have HO393 := n2_; have HO397 := n3_; have HO400 := n4_; have HO403 := n5_; have HB := n6_; clear n0_ n1_ n2_ n3_ n4_ n5_ n6_; (try clear hb); (try clear hb2); (try clear hk); (try clear hi); (try clear ho0); (try clear ho1); (try clear ho2); obtain ⟨Ao19, co19, eo19⟩ := Kd.V_slice HO397.out; subst eo19; obtain ⟨Ao20, co20, eo20⟩ := Kd.V_slice HO400.out; subst eo20) | ((with_reducible refine gate_callee (f := 70) rfl ?_); refine goesL_ (some 37) rfl rfl Try.func70 (by kernel_rfl) rfl #[.int .i64 a0, .slice Ao20 t398.length co20, .slice A2 l2.length c2] rfl (by (try simp only [mA, mB, mC]); first | done | rfl | (simp only [lD, lT]; rfl)) ?_; (with_reducible refine (fp_Rem.calls k a0 _ _ t398 _ _ l2 t404 _ ?side1 ?side2 ?side3 ?side4 A13.out).mono ?_); (case side1 => repeat (first | exact (Kd.V_reads' HO400.out).2.2 | (with_reducible first | apply cA | apply cB | apply cC))); (case side2 => exact (Kd.V_reads' HO400.out).2.1); (case side3 => repeat (first | exact (Kd.V_reads' HO2.out).2.2 | (with_reducible first | apply cA | apply cB | apply cC))); (case side4 => exact (Kd.V_reads' HO2.out).2.1); rintro e w21 ⟨v405, rfl, ho0, hb⟩; refine ⟨_, rfl, ?_⟩; have n0_ := ak (Kd.V_below (by (with_reducible repeat (first | apply vA | apply vB | apply vC)); exact HO1.out) hb); have n1_ := ak (Kd.V_below (by (with_reducible repeat (first | apply vA | apply vB | apply vC)); exact HO2.out) hb); have n2_ := ak (Kd.N_below (by (with_reducible repeat (first | apply Kd.N_alloc | apply Kd.N_drewN | apply Kd.N_drew)); exact HO393.out) hb); have n3_ := ak (Kd.V_below (by (with_reducible repeat (first | apply vA | apply vB | apply vC)); exact HO397.out) hb); have n4_ := ak (Kd.V_below (by (with_reducible repeat (first | apply vA | apply vB | apply vC)); exact HO400.out) hb); have n5_ := ak (Kd.V_below (by (with_reducible repeat (first | apply vA | apply vB | apply vC)); exact HO403.out) hb); have n6_ := ak (Kd.V_lower (Kd.V_mono (ok' := fun k_ => ((P1_ k_ ∨ P2_ k_) ∨ w.heap.size ≤ k_) ∧ some k_ ≠ (.slice Ao16 y391.length co16 : Value).ownBlock) ho0 (fun k_ hk_ => ⟨(.inr (Nat.le_trans (below_size (by repeat (first | (with_reducible first | exact HB.out | apply bA | apply bB | apply bC) | exact HB.out))) hk_)), (Kd.fresh' (Kd.N_lt (by (with_reducible repeat (first | apply Kd.N_alloc | apply Kd.N_drewN | apply Kd.N_drew)); exact HO393.out)) k_ hk_)⟩)) (below_size (by repeat (first | (with_reducible first | exact HB.out | apply bA | apply bB | apply bC) | exact HB.out)))); have n7_ := ak (below_step (by repeat (first | (with_reducible first | exact HB.out | apply bA | apply bB | apply bC) | exact HB.out)) hb); clear HO1; clear HO2; clear HO393; clear HO397; clear HO400; clear HO403; clear HB; have HO1 := n0_; have HO2 := n1_; have HO393 := n2_; have HO397 := n3_; have HO400 := n4_; have HO403 := n5_; have HO406 := n6_; have HB := n7_; clear n0_ n1_ n2_ n3_ n4_ n5_ n6_ n7_; (try clear hb); (try clear hb2); (try clear hk); (try clear hi); (try clear ho0)))
       go_ret2
       exact ⟨_, by first | rfl | (simp [errW_none, errW_some] <;> rfl) | (simp [*, errW_none, errW_some] <;> rfl), by (with_reducible repeat (first | apply vA | apply vB | apply vC)); exact Kd.V_mono HO406.out (fun _ hk => hk.1), by repeat (first | (with_reducible first | exact HB.out | apply bA | apply bB | apply bC) | exact HB.out)⟩
     · rw [if_neg c12] at H
       have c12b0 : ((t395.length : Int) == 1) = false := beq_eq_false_iff_ne.mpr c12
       have c12b1 : ((t395.length : Int) != 1) = true := bne_iff_ne.mpr c12
       simp only [Option.some.injEq, Prod.mk.injEq] at H
       obtain ⟨rfl, rfl⟩ := H
       go_enter Try.func24, Try.ntmps24
       go_wp2_with (first | ((with_reducible refine gate_dst (N := 15) rfl ?_); refine Kd.N_lit (Kd.slice 3 (Kd.int .i64)) _ 23 ?hg (N' := 15) ?hd (xs := ([l1, l2] : List (List Int))) (inner := [.slice A1 l1.length c1, .slice A2 l2.length c2]) (ok := (fun k_ => ((P1_ k_ ∨ P2_ k_) ∨ w.heap.size ≤ k_))) (okp := (fun k_ => ((P1_ k_ ∨ P2_ k_) ∨ w.heap.size ≤ k_))) ?hr ?hp (fun _ hk => hk) ((show ∀ k_, w.heap.size ≤ k_ → (fun k_ => ((P1_ k_ ∨ P2_ k_) ∨ w.heap.size ≤ k_)) k_ from fun k_ hk => (.inr (Nat.le_trans (below_size (by repeat (first | (with_reducible first | exact HB.out | apply bA | apply bB | apply bC) | exact HB.out))) hk))) _ (Nat.le_refl _)) (Below.refl _ _) (Nat.le_refl _) (by simp) ?_; (case hd => rfl); (case hg => rfl); (case hr => first | (go_simp; done) | (go_simp; rfl)); (case hp => exact (Reps.one (show Kd.FK (Kd.slice 3 (Kd.int .i64)) _ _ l1 [.slice A1 l1.length c1] from (Kd.FK_slice_mk (Kd.V_reads' (Kd.V_mono (ok' := (fun k_ => ((P1_ k_ ∨ P2_ k_) ∨ w.heap.size ≤ k_))) (HO1.out) (fun k_ hk => hk))).2.1 (Kd.V_F (Kd.V_mono (ok' := (fun k_ => ((P1_ k_ ∨ P2_ k_) ∨ w.heap.size ≤ k_))) (HO1.out) (fun k_ hk => hk))))) (Reps.one (show Kd.FK (Kd.slice 3 (Kd.int .i64)) _ _ l2 [.slice A2 l2.length c2] from (Kd.FK_slice_mk (Kd.V_reads' (Kd.V_mono (ok' := (fun k_ => ((P1_ k_ ∨ P2_ k_) ∨ w.heap.size ≤ k_))) (HO2.out) (fun k_ hk => hk))).2.1 (Kd.V_F (Kd.V_mono (ok' := (fun k_ => ((P1_ k_ ∨ P2_ k_) ∨ w.heap.size ≤ k_))) (HO2.out) (fun k_ hk => hk))))) (Reps.none _ _)))); intro v392 w22 ho23 hb hg_ hnew_; clear hg_ hnew_; (first | rw [← Ny391.out] at ho23 | (simp only [Int.reduceToNat] at ho23; rw [← Ny391.out] at ho23)); have n0_ := ak (Kd.V_elder' (by (with_reducible repeat (first | apply vA | apply vB | apply vC)); exact HO1.out) (Kd.N_base ho23) hb); have n1_ := ak (Kd.V_elder' (by (with_reducible repeat (first | apply vA | apply vB | apply vC)); exact HO2.out) (Kd.N_base ho23) hb); have n2_ := ak (Kd.N_lower ho23 (below_size (by repeat (first | (with_reducible first | exact HB.out | apply bA | apply bB | apply bC) | exact HB.out)))); have n3_ := ak (below_step (by repeat (first | (with_reducible first | exact HB.out | apply bA | apply bB | apply bC) | exact HB.out)) hb); clear HO1; clear HO2; clear HB; have HO1 := n0_; have HO2 := n1_; have HO393 := n2_; have HB := n3_; clear n0_ n1_ n2_ n3_; clear hb ho23; obtain ⟨Ao24, co24, eo24⟩ := Kd.N_slice HO393.out; subst eo24) | ((with_reducible refine gate_callee (f := 60) rfl ?_); refine goesL_ (some 16) rfl rfl Try.func60 (by kernel_rfl) rfl #[.int .i64 a0, .slice Ao24 y391.length co24] rfl (by (try simp only [mA, mB, mC]); first | done | rfl | (simp only [lD, lT]; rfl)) ?_; (with_reducible refine (polymod_first.calls k a0 _ _ y391 t394 _ ?side1 ?side2 A4.out).mono ?_); (case side1 => repeat (first | exact (Kd.N_reads' HO393.out).2.2 | (with_reducible first | apply cA | apply cB | apply cC))); (case side2 => exact (Kd.N_reads' HO393.out).2.1); rintro e w25 ⟨rfl, hb⟩; refine ⟨_, rfl, ?_⟩; have n0_ := ak (Kd.V_below (by (with_reducible repeat (first | apply vA | apply vB | apply vC)); exact HO1.out) hb); have n1_ := ak (Kd.V_below (by (with_reducible repeat (first | apply vA | apply vB | apply vC)); exact HO2.out) hb); have n2_ := ak (Kd.N_below (by (with_reducible repeat (first | apply Kd.N_alloc | apply Kd.N_drewN | apply Kd.N_drew)); exact HO393.out) hb); have n3_ := ak (below_step (by repeat (first | (with_reducible first | exact HB.out | apply bA | apply bB | apply bC) | exact HB.out)) hb); clear HO1; clear HO2; clear HO393; clear HB; have HO1 := n0_; have HO2 := n1_; have HO393 := n2_; have HB := n3_; clear n0_ n1_ n2_ n3_; (try clear hb); (try clear hb2); (try clear hk); (try clear hi)) | ((with_reducible refine gate_callee (f := 75) rfl ?_); refine goesL_ (some 27) rfl rfl Try.func75 (by kernel_rfl) rfl #[.int .i64 a0, .slice A1 l1.length c1, .slice A2 l2.length c2] rfl (by (try simp only [mA, mB, mC]); first | done | rfl | (simp only [lD, lT]; rfl)) ?_; (with_reducible refine (fp_Xgcd.calls k a0 (fun k_ => (((P1_ k_ ∨ P2_ k_) ∨ w.heap.size ≤ k_) ∧ some k_ ≠ (.slice Ao24 y391.length co24 : Value).ownBlock)) _ _ l1 (fun k_ => (((P1_ k_ ∨ P2_ k_) ∨ w.heap.size ≤ k_) ∧ some k_ ≠ (.slice Ao24 y391.length co24 : Value).ownBlock)) _ _ l2 t395 t398 t401 _ ?side1 ?side2 A11.out).mono ?_); (case side1 => exact HO1.out); (case side2 => exact HO2.out); rintro e w26 ⟨v396, v399, v402, rfl, ho0, ho1, ho2, hb⟩; refine ⟨_, rfl, ?_⟩; have n0_ := ak (Kd.V_below (by (with_reducible repeat (first | apply vA | apply vB | apply vC)); exact HO1.out) hb); have n1_ := ak (Kd.V_below (by (with_reducible repeat (first | apply vA | apply vB | apply vC)); exact HO2.out) hb); have n2_ := ak (Kd.N_below (by (with_reducible repeat (first | apply Kd.N_alloc | apply Kd.N_drewN | apply Kd.N_drew)); exact HO393.out) hb); have n3_ := ak (Kd.V_lower (Kd.V_mono (ok' := fun k_ => ((P1_ k_ ∨ P2_ k_) ∨ w.heap.size ≤ k_) ∧ some k_ ≠ (.slice Ao24 y391.length co24 : Value).ownBlock) ho0 (fun k_ hk_ => ⟨Or.elim hk_ (fun hs_ => Or.elim hs_ (fun hs_ => hs_.1) (fun hs_ => hs_.1)) (fun hn_ => (.inr (Nat.le_trans (below_size (by repeat (first | (with_reducible first | exact HB.out | apply bA | apply bB | apply bC) | exact HB.out))) hn_))), Or.elim hk_ (fun hs_ => Or.elim hs_ (fun hs_ => hs_.2) (fun hs_ => hs_.2)) (fun hn_ => (Kd.fresh' (Kd.N_lt (by (with_reducible repeat (first | apply Kd.N_alloc | apply Kd.N_drewN | apply Kd.N_drew)); exact HO393.out)) k_ hn_))⟩)) (below_size (by repeat (first | (with_reducible first | exact HB.out | apply bA | apply bB | apply bC) | exact HB.out)))); have n4_ := ak (Kd.V_lower (Kd.V_mono (ok' := fun k_ => ((P1_ k_ ∨ P2_ k_) ∨ w.heap.size ≤ k_) ∧ some k_ ≠ (.slice Ao24 y391.length co24 : Value).ownBlock) ho1 (fun k_ hk_ => ⟨Or.elim hk_ (fun hs_ => Or.elim hs_ (fun hs_ => hs_.1) (fun hs_ => hs_.1)) (fun hn_ => (.inr (Nat.le_trans (below_size (by repeat (first | (with_reducible first | exact HB.out | apply bA | apply bB | apply bC) | exact HB.out))) hn_))), Or.elim hk_ (fun hs_ => Or.elim hs_ (fun hs_ => hs_.2) (fun hs_ => hs_.2)) (fun hn_ => (Kd.fresh' (Kd.N_lt (by (with_reducible repeat (first | apply Kd.N_alloc | apply Kd.N_drewN | apply Kd.N_drew)); exact HO393.out)) k_ hn_))⟩)) (below_size (by repeat (first | (with_reducible first | exact HB.out | apply bA | apply bB | apply bC) | exact HB.out)))); have n5_ := ak (Kd.V_lower (Kd.V_mono (ok' := fun k_ => ((P1_ k_ ∨ P2_ k_) ∨ w.heap.size ≤ k_) ∧ some k_ ≠ (.slice Ao24 y391.length co24 : Value).ownBlock) ho2 (fun k_ hk_ => ⟨Or.elim hk_ (fun hs_ => Or.elim hs_ (fun hs_ => hs_.1) (fun hs_ => hs_.1)) (fun hn_ => (.inr (Nat.le_trans (below_size (by repeat (first | (with_reducible first | exact HB.out | apply bA | apply bB | apply bC) | exact HB.out))) hn_))), Or.elim hk_ (fun hs_ => Or.elim hs_ (fun hs_ => hs_.2) (fun hs_ => hs_.2)) (fun hn_ => (Kd.fresh' (Kd.N_lt (by (with_reducible repeat (first | apply Kd.N_alloc | apply Kd.N_drewN | apply Kd.N_drew)); exact HO393.out)) k_ hn_))⟩)) (below_size (by repeat (first | (with_reducible first | exact HB.out | apply bA | apply bB | apply bC) | exact HB.out)))); have n6_ := ak (below_step (by repeat (first | (with_reducible first | exact HB.out | apply bA | apply bB | apply bC) | exact HB.out)) hb); clear HO1; clear HO2; clear HO393; clear HB; have HO1 := n0_; have HO2 := n1_; have HO393 := n2_; have HO397 := n3_; have HO400 := n4_; have HO403 := n5_; have HB := n6_; clear n0_ n1_ n2_ n3_ n4_ n5_ n6_; (try clear hb); (try clear hb2); (try clear hk); (try clear hi); (try clear ho0); (try clear ho1); (try clear ho2); obtain ⟨Ao27, co27, eo27⟩ := Kd.V_slice HO397.out; subst eo27))
       go_ret2
       exact ⟨_, by first | rfl | (simp [errW_none, errW_some] <;> rfl) | (simp [*, errW_none, errW_some] <;> rfl), (Kd.V_nil _ _ _ _ _), by repeat (first | (with_reducible first | exact HB.out | apply bA | apply bB | apply bC) | exact HB.out)⟩
 · rw [if_neg c5] at H
   have c5b0 : (t394 == 0) = false := beq_eq_false_iff_ne.mpr c5
   have c5b1 : (t394 != 0) = true := bne_iff_ne.mpr c5
   simp only [Option.some.injEq, Prod.mk.injEq] at H
   obtain ⟨rfl, rfl⟩ := H
   go_enter Try.func24, Try.ntmps24
   go_wp2_with (first | ((with_reducible refine gate_dst (N := 15) rfl ?_); refine Kd.N_lit (Kd.slice 3 (Kd.int .i64)) _ 23 ?hg (N' := 15) ?hd (xs := ([l1, l2] : List (List Int))) (inner := [.slice A1 l1.length c1, .slice A2 l2.length c2]) (ok := (fun k_ => ((P1_ k_ ∨ P2_ k_) ∨ w.heap.size ≤ k_))) (okp := (fun k_ => ((P1_ k_ ∨ P2_ k_) ∨ w.heap.size ≤ k_))) ?hr ?hp (fun _ hk => hk) ((show ∀ k_, w.heap.size ≤ k_ → (fun k_ => ((P1_ k_ ∨ P2_ k_) ∨ w.heap.size ≤ k_)) k_ from fun k_ hk => (.inr (Nat.le_trans (below_size (by repeat (first | (with_reducible first | exact HB.out | apply bA | apply bB | apply bC) | exact HB.out))) hk))) _ (Nat.le_refl _)) (Below.refl _ _) (Nat.le_refl _) (by simp) ?_; (case hd => rfl); (case hg => rfl); (case hr => first | (go_simp; done) | (go_simp; rfl)); (case hp => exact (Reps.one (show Kd.FK (Kd.slice 3 (Kd.int .i64)) _ _ l1 [.slice A1 l1.length c1] from (Kd.FK_slice_mk (Kd.V_reads' (Kd.V_mono (ok' := (fun k_ => ((P1_ k_ ∨ P2_ k_) ∨ w.heap.size ≤ k_))) (HO1.out) (fun k_ hk => hk))).2.1 (Kd.V_F (Kd.V_mono (ok' := (fun k_ => ((P1_ k_ ∨ P2_ k_) ∨ w.heap.size ≤ k_))) (HO1.out) (fun k_ hk => hk))))) (Reps.one (show Kd.FK (Kd.slice 3 (Kd.int .i64)) _ _ l2 [.slice A2 l2.length c2] from (Kd.FK_slice_mk (Kd.V_reads' (Kd.V_mono (ok' := (fun k_ => ((P1_ k_ ∨ P2_ k_) ∨ w.heap.size ≤ k_))) (HO2.out) (fun k_ hk => hk))).2.1 (Kd.V_F (Kd.V_mono (ok' := (fun k_ => ((P1_ k_ ∨ P2_ k_) ∨ w.heap.size ≤ k_))) (HO2.out) (fun k_ hk => hk))))) (Reps.none _ _)))); intro v392 w28 ho29 hb hg_ hnew_; clear hg_ hnew_; (first | rw [← Ny391.out] at ho29 | (simp only [Int.reduceToNat] at ho29; rw [← Ny391.out] at ho29)); have n0_ := ak (Kd.V_elder' (by (with_reducible repeat (first | apply vA | apply vB | apply vC)); exact HO1.out) (Kd.N_base ho29) hb); have n1_ := ak (Kd.V_elder' (by (with_reducible repeat (first | apply vA | apply vB | apply vC)); exact HO2.out) (Kd.N_base ho29) hb); have n2_ := ak (Kd.N_lower ho29 (below_size (by repeat (first | (with_reducible first | exact HB.out | apply bA | apply bB | apply bC) | exact HB.out)))); have n3_ := ak (below_step (by repeat (first | (with_reducible first | exact HB.out | apply bA | apply bB | apply bC) | exact HB.out)) hb); clear HO1; clear HO2; clear HB; have HO1 := n0_; have HO2 := n1_; have HO393 := n2_; have HB := n3_; clear n0_ n1_ n2_ n3_; clear hb ho29; obtain ⟨Ao30, co30, eo30⟩ := Kd.N_slice HO393.out; subst eo30) | ((with_reducible refine gate_callee (f := 60) rfl ?_); refine goesL_ (some 16) rfl rfl Try.func60 (by kernel_rfl) rfl #[.int .i64 a0, .slice Ao30 y391.length co30] rfl (by (try simp only [mA, mB, mC]); first | done | rfl | (simp only [lD, lT]; rfl)) ?_; (with_reducible refine (polymod_first.calls k a0 _ _ y391 t394 _ ?side1 ?side2 A4.out).mono ?_); (case side1 => repeat (first | exact (Kd.N_reads' HO393.out).2.2 | (with_reducible first | apply cA | apply cB | apply cC))); (case side2 => exact (Kd.N_reads' HO393.out).2.1); rintro e w31 ⟨rfl, hb⟩; refine ⟨_, rfl, ?_⟩; have n0_ := ak (Kd.V_below (by (with_reducible repeat (first | apply vA | apply vB | apply vC)); exact HO1.out) hb); have n1_ := ak (Kd.V_below (by (with_reducible repeat (first | apply vA | apply vB | apply vC)); exact HO2.out) hb); have n2_ := ak (Kd.N_below (by (with_reducible repeat (first | apply Kd.N_alloc | apply Kd.N_drewN | apply Kd.N_drew)); exact HO393.out) hb); have n3_ := ak (below_step (by repeat (first | (with_reducible first | exact HB.out | apply bA | apply bB | apply bC) | exact HB.out)) hb); clear HO1; clear HO2; clear HO393; clear HB; have HO1 := n0_; have HO2 := n1_; have HO393 := n2_; have HB := n3_; clear n0_ n1_ n2_ n3_; (try clear hb); (try clear hb2); (try clear hk); (try clear hi)))
   go_ret2
   exact ⟨_, by first | rfl | (simp [errW_none, errW_some] <;> rfl) | (simp [*, errW_none, errW_some] <;> rfl), (Kd.V_nil _ _ _ _ _), by repeat (first | (with_reducible first | exact HB.out | apply bA | apply bB | apply bC) | exact HB.out)⟩

/-! ### galoisref04_IsPrime: function 100 -/
def galoisref04_IsPrime.l0 : Nat → Int → Int → Option (Bool)
 | 0, _, _ => none
 | k + 1, x0, x3 => if (wrap64 (x3 * x3)) ≤ x0 then (if x3 = 0 then (none) else (if (Int.tmod x0 x3) = 0 then (some false) else (galoisref04_IsPrime.l0 k x0 (wrap64 (x3 + 1))))) else (some (decide (x0 > 1)))
def galoisref04_IsPrime.f (k : Nat) (a0 : Int) : Option (Bool) := galoisref04_IsPrime.l0 k a0 2
theorem galoisref04_IsPrime.mono_l : ∀ k, (∀ y0 y1, LeO (galoisref04_IsPrime.l0 k y0 y1) (galoisref04_IsPrime.l0 (k + 1) y0 y1))
 | 0 => fun _ _ r h => by simp [galoisref04_IsPrime.l0] at h
 | k + 1 => by
   have ih0 := galoisref04_IsPrime.mono_l k
   · intro y0 y1
     unfold galoisref04_IsPrime.l0
     repeat' first
     | (with_reducible apply ih0)
     | (with_reducible apply LeO.refl)
     | (with_reducible apply LeO.none)
     | (with_reducible refine LeO.ite ?_ ?_)
     | (with_reducible refine LeO.bind ?_ (fun _ => ?_))
theorem galoisref04_IsPrime.mono : ∀ a0 k, LeO (galoisref04_IsPrime.f k a0) (galoisref04_IsPrime.f (k + 1) a0) := by
 intro a0 k
 have ih0 := galoisref04_IsPrime.mono_l k
 unfold galoisref04_IsPrime.f
 repeat' first
  | (with_reducible apply ih0)
  | (with_reducible apply LeO.refl)
  | (with_reducible apply LeO.none)
  | (with_reducible refine LeO.ite ?_ ?_)
  | (with_reducible refine LeO.bind ?_ (fun _ => ?_))
set_option maxHeartbeats 8000000 in
set_option maxRecDepth 100000 in
theorem galoisref04_IsPrime.calls (k : Nat) (a0 : Int) (r : Bool) (w : World) (h : galoisref04_IsPrime.f k a0 = some r) :
 Calls Try.prog 100 #[.int .i64 a0] w fun e w' => e = .returned (.bool r) ∧ Drawn0 w w' := by
 have H : (galoisref04_IsPrime.l0 k a0 2) = some r := h
 clear h
 have H' := ak H
 clear H
 go_enter Try.func100, Try.ntmps100
 go_wp2
 go_loopg [3] k (fun kq v3 w' => ∃ (x3_1 : Int), v3 = .int .i64 x3_1 ∧ Aside0 (galoisref04_IsPrime.l0 kq a0 x3_1 = some r) ∧ Aside0 (kq ≤ k) ∧ Drawn0 w w')
 case atStart => exact ⟨(2), (by first | rfl | (simp; done) | (simp [*]; done)), H', ⟨Nat.le_refl _⟩, by repeat (first | exact Drawn0.refl _ | apply Drawn0.step)⟩
 case round =>
  clear H'
  try clear c1
  obtain ⟨x3_1, rfl, HA, HK1, ⟨m1, rfl⟩⟩ := hrel
  cases gk with
  | zero => exact absurd HA.out (by simp [galoisref04_IsPrime.l0])
  | succ k1 =>
    have H := HA.out
    clear HA
    simp only [galoisref04_IsPrime.l0] at H
    by_cases c2 : (wrap64 (x3_1 * x3_1)) ≤ a0
    · rw [if_pos c2] at H
      have c2b0 : decide ((wrap64 (x3_1 * x3_1)) ≤ a0) = true := decide_eq_true c2
      clear c2
      by_cases c3 : x3_1 = 0
      · rw [if_pos c3] at H
        exact absurd H (by simp)
      · rw [if_neg c3] at H
        have c3b0 : (x3_1 == 0) = false := beq_eq_false_iff_ne.mpr c3
        have c3b1 : (x3_1 != 0) = true := bne_iff_ne.mpr c3
        by_cases c4 : (Int.tmod a0 x3_1) = 0
        · rw [if_pos c4] at H
          have c4b0 : ((Int.tmod a0 x3_1) == 0) = true := beq_iff_eq.mpr c4
          have c4b1 : ((Int.tmod a0 x3_1) != 0) = false := bne_eq_false_iff_eq.mpr c4
          clear c4
          obtain rfl := Option.some.inj H
          go_wp2
          go_ret
          exact ⟨by first | rfl | (simp; done) | (simp [*]; done), by repeat (first | exact Drawn0.refl _ | apply Drawn0.step)⟩
        · rw [if_neg c4] at H
          have c4b0 : ((Int.tmod a0 x3_1) == 0) = false := beq_eq_false_iff_ne.mpr c4
          have c4b1 : ((Int.tmod a0 x3_1) != 0) = true := bne_iff_ne.mpr c4
          have H' := ak H
          clear H
          go_wp2
          (first | go_roundg k1 | (refine Handed.intro k1 ?measure ?_; rotate_left; go_step; (repeat rw [add_plain]); (repeat apply Exists.intro); refine ⟨?rel, rfl⟩))
          case measure => have := HK1.out; omega
          case rel => exact ⟨(wrap64 (x3_1 + 1)), (by first | rfl | (simp; done) | (simp [*]; done)), H', ⟨by have := HK1.out; omega⟩, by repeat (first | exact Drawn0.refl _ | apply Drawn0.step)⟩
    · rw [if_neg c2] at H
      have c2b0 : decide ((wrap64 (x3_1 * x3_1)) ≤ a0) = false := decide_eq_false c2
      clear c2
      obtain rfl := Option.some.inj H
      go_wp2
      go_ret
      exact ⟨by first | rfl | (simp; done) | (simp [*]; done), by repeat (first | exact Drawn0.refl _ | apply Drawn0.step)⟩

/-! ### galoisref09_IsPrime: function 55 -/
def galoisref09_IsPrime.f (k : Nat) (a0 : Int) : Option (Bool) := if a0 ≥ 2 then (if a0 ≤ 65521 then ((galoisref04_IsPrime.f k a0).bind fun t407 => (some t407)) else (some false)) else (some false)
theorem galoisref09_IsPrime.mono : ∀ a0 k, LeO (galoisref09_IsPrime.f k a0) (galoisref09_IsPrime.f (k + 1) a0) := by
 intro a0 k
 unfold galoisref09_IsPrime.f
 repeat' first
  | (with_reducible apply galoisref04_IsPrime.mono)
  | (with_reducible apply LeO.refl)
  | (with_reducible apply LeO.none)
  | (with_reducible refine LeO.ite ?_ ?_)
  | (with_reducible refine LeO.bind ?_ (fun _ => ?_))
set_option maxHeartbeats 8000000 in
set_option maxRecDepth 100000 in
theorem galoisref09_IsPrime.calls (k : Nat) (a0 : Int) (r : Bool) (w : World) (h : galoisref09_IsPrime.f k a0 = some r) :
 Calls Try.prog 55 #[.int .i64 a0] w fun e w' => e = .returned (.bool r) ∧ Drawn0 w w' := by
 have H : (if a0 ≥ 2 then (if a0 ≤ 65521 then ((galoisref04_IsPrime.f k a0).bind fun t407 => (some t407)) else (some false)) else (some false)) = some r := h
 clear h
 by_cases c2 : a0 ≥ 2
 · rw [if_pos c2] at H
   have c2b0 : decide (2 ≤ a0) = true := decide_eq_true c2
   clear c2
   by_cases c3 : a0 ≤ 65521
   · rw [if_pos c3] at H
     have c3b0 : decide (a0 ≤ 65521) = true := decide_eq_true c3
     clear c3
     replace H := Option.bind_eq_some_iff.mp H
     obtain ⟨t407, A40, H⟩ := H
     replace H : (some t407) = some r := H
     have A4 := ak A40
     clear A40
     obtain rfl := Option.some.inj H
     go_enter Try.func55, Try.ntmps55
     go_wp2_with (first | (go_at_call 100; (with_reducible refine (galoisref04_IsPrime.calls k a0 t407 _ A4.out).mono ?_); rintro e w' ⟨rfl, ⟨nd, rfl⟩⟩))
     go_ret
     exact ⟨by first | rfl | (simp; done) | (simp [*]; done), by repeat (first | exact Drawn0.refl _ | apply Drawn0.step)⟩
   · rw [if_neg c3] at H
     have c3b0 : decide (a0 ≤ 65521) = false := decide_eq_false c3
     clear c3
     obtain rfl := Option.some.inj H
     go_enter Try.func55, Try.ntmps55
     go_wp2
     go_ret
     exact ⟨by first | rfl | (simp; done) | (simp [*]; done), by repeat (first | exact Drawn0.refl _ | apply Drawn0.step)⟩
 · rw [if_neg c2] at H
   have c2b0 : decide (2 ≤ a0) = false := decide_eq_false c2
   clear c2
   obtain rfl := Option.some.inj H
   go_enter Try.func55, Try.ntmps55
   go_wp2
   go_ret
   exact ⟨by first | rfl | (simp; done) | (simp [*]; done), by repeat (first | exact Drawn0.refl _ | apply Drawn0.step)⟩

/-! ### galoisref09_Check: function 15 -/
def galoisref09_Check.l0 : Nat → Int → List Int → Int → Option (Int)
 | 0, _, _, _ => none
 | k + 1, x0, x1, x5 => if x5 < (x1.length : Int) then (if 0 ≤ x5 then (if (rd x1 x5) < 0 then (some 1) else (if (rd x1 x5) ≥ x0 then (some 1) else (galoisref09_Check.l0 k x0 x1 (wrap64 (x5 + 1))))) else (none)) else (if (x1.length : Int) > 0 then (if 0 ≤ (wrap64 ((x1.length : Int) - 1)) then (if (wrap64 ((x1.length : Int) - 1)) < (x1.length : Int) then (if (rd x1 (wrap64 ((x1.length : Int) - 1))) = 0 then (some 1) else (some 0)) else (none)) else (none)) else (some 0))
def galoisref09_Check.f (k : Nat) (a0 : Int) (l1 : List Int) : Option (Int) := (galoisref09_IsPrime.f k a0).bind fun t408 => (if t408 = true then (if (l1.length : Int) > 65 then (some 4) else (galoisref09_Check.l0 k a0 l1 0)) else (some 7))
theorem galoisref09_Check.mono_l : ∀ k, (∀ y0 y1 y2, LeO (galoisref09_Check.l0 k y0 y1 y2) (galoisref09_Check.l0 (k + 1) y0 y1 y2))
 | 0 => fun _ _ _ r h => by simp [galoisref09_Check.l0] at h
 | k + 1 => by
   have ih0 := galoisref09_Check.mono_l k
   · intro y0 y1 y2
     unfold galoisref09_Check.l0
     repeat' first
     | (with_reducible apply ih0)
     | (with_reducible apply galoisref09_IsPrime.mono)
     | (with_reducible apply LeO.refl)
     | (with_reducible apply LeO.none)
     | (with_reducible refine LeO.ite ?_ ?_)
     | (with_reducible refine LeO.bind ?_ (fun _ => ?_))
theorem galoisref09_Check.mono : ∀ a0 a1 k, LeO (galoisref09_Check.f k a0 a1) (galoisref09_Check.f (k + 1) a0 a1) := by
 intro a0 a1 k
 have ih0 := galoisref09_Check.mono_l k
 unfold galoisref09_Check.f
 repeat' first
  | (with_reducible apply ih0)
  | (with_reducible apply galoisref09_IsPrime.mono)
  | (with_reducible apply LeO.refl)
  | (with_reducible apply LeO.none)
  | (with_reducible refine LeO.ite ?_ ?_)
  | (with_reducible refine LeO.bind ?_ (fun _ => ?_))
set_option maxHeartbeats 8000000 in
set_option maxRecDepth 100000 in
theorem galoisref09_Check.calls (k : Nat) (a0 : Int) (A1 : Option Addr) (c1 : Nat) (l1 : List Int) (r : Int) (w : World) (hr1 : Kd.C (Kd.int .i64) w A1 l1.length l1) (hc1 : l1.length ≤ c1) (h : galoisref09_Check.f k a0 l1 = some r) :
 Calls Try.prog 15 #[.int .i64 a0, .slice A1 l1.length c1] w fun e w' => e = .returned (.int .i64 r) ∧ Drawn0 w w' := by
 have HR1 := ak hr1
 have HC1 := ak hc1
 clear hr1 hc1
 have H : ((galoisref09_IsPrime.f k a0).bind fun t408 => (if t408 = true then (if (l1.length : Int) > 65 then (some 4) else (galoisref09_Check.l0 k a0 l1 0)) else (some 7))) = some r := h
 clear h
 replace H := Option.bind_eq_some_iff.mp H
 obtain ⟨t408, A30, H⟩ := H
 replace H : (if t408 = true then (if (l1.length : Int) > 65 then (some 4) else (galoisref09_Check.l0 k a0 l1 0)) else (some 7)) = some r := H
 have A3 := ak A30
 clear A30
 by_cases c4 : t408 = true
 · subst c4
   have H1 : (if (l1.length : Int) > 65 then (some 4) else (galoisref09_Check.l0 k a0 l1 0)) = some r := by rw [if_pos rfl] at H; exact H
   clear H
   have H := H1
   clear H1
   by_cases c5 : (l1.length : Int) > 65
   · rw [if_pos c5] at H
     have c5b0 : decide (65 < (l1.length : Int)) = true := decide_eq_true c5
     have c5b1 : decide (65 < l1.length) = true := decide_eq_true (by omega)
     clear c5
     obtain rfl := Option.some.inj H
     go_enter Try.func15, Try.ntmps15
     go_wp2_with (first | ((with_reducible refine gate_callee (f := 55) rfl ?_); refine goesL_ (some 7) rfl rfl Try.func55 (by kernel_rfl) rfl #[.int .i64 a0] rfl (by (try simp only [mA, mB, mC]); first | done | rfl | (simp only [lD, lT]; rfl)) ?_; (with_reducible refine (galoisref09_IsPrime.calls k a0 true _ A3.out).mono ?_); rintro e w' ⟨rfl, ⟨nd, rfl⟩⟩; refine ⟨_, rfl, ?_⟩))
     go_ret
     exact ⟨by first | rfl | (simp; done) | (simp [*]; done), by repeat (first | exact Drawn0.refl _ | apply Drawn0.step)⟩
   · rw [if_neg c5] at H
     have c5b0 : decide (65 < (l1.length : Int)) = false := decide_eq_false c5
     have c5b1 : decide (65 < l1.length) = false := decide_eq_false (by omega)
     clear c5
     have H' := ak H
     clear H
     go_enter Try.func15, Try.ntmps15
     go_wp2_with (first | ((with_reducible refine gate_callee (f := 55) rfl ?_); refine goesL_ (some 7) rfl rfl Try.func55 (by kernel_rfl) rfl #[.int .i64 a0] rfl (by (try simp only [mA, mB, mC]); first | done | rfl | (simp only [lD, lT]; rfl)) ?_; (with_reducible refine (galoisref09_IsPrime.calls k a0 true _ A3.out).mono ?_); rintro e w' ⟨rfl, ⟨nd, rfl⟩⟩; refine ⟨_, rfl, ?_⟩))
     go_loopg [5] k (fun kq v5 w' => ∃ (x5_1 : Int), v5 = .int .i64 x5_1 ∧ Aside0 (galoisref09_Check.l0 kq a0 l1 x5_1 = some r) ∧ Aside0 (kq ≤ k) ∧ Drawn0 w w')
     case atStart => exact ⟨(0), (by first | rfl | (simp; done) | (simp [*]; done)), H', ⟨Nat.le_refl _⟩, by repeat (first | exact Drawn0.refl _ | apply Drawn0.step)⟩
     case round =>
      clear H'
      try clear c1
      try clear p2
      try clear c4
      try clear c5
      try clear c5b0
      try clear c5b1
      obtain ⟨x5_1, rfl, HA, HK1, ⟨m1, rfl⟩⟩ := hrel
      cases gk with
      | zero => exact absurd HA.out (by simp [galoisref09_Check.l0])
      | succ k1 =>
        have H := HA.out
        clear HA
        simp only [galoisref09_Check.l0] at H
        by_cases c6 : x5_1 < (l1.length : Int)
        · rw [if_pos c6] at H
          have c6b0 : decide (x5_1 < (l1.length : Int)) = true := decide_eq_true c6
          clear c6
          by_cases c7 : 0 ≤ x5_1
          · rw [if_pos c7] at H
            have c7b0 : decide (0 ≤ x5_1) = true := decide_eq_true c7
            clear c7
            by_cases c8 : (rd l1 x5_1) < 0
            · rw [if_pos c8] at H
              have c8b0 : decide ((rd l1 x5_1) < 0) = true := decide_eq_true c8
              clear c8
              obtain rfl := Option.some.inj H
              have p409 : 0 ≤ (x5_1 : Int) := of_decide_eq_true (by first | (with_reducible assumption) | assumption)
              have q409 : x5_1 < (l1.length : Int) := of_decide_eq_true (by first | (with_reducible assumption) | assumption)
              obtain ⟨ad409, e409, hx409_0⟩ := Kd.at_int HR1.out x5_1 p409 q409
              cases e409
              replace p409 := eq_true p409
              replace q409 := eq_true q409
              go_wp2
              go_ret
              exact ⟨by first | rfl | (simp; done) | (simp [*]; done), by repeat (first | exact Drawn0.refl _ | apply Drawn0.step)⟩
            · rw [if_neg c8] at H
              have c8b0 : decide ((rd l1 x5_1) < 0) = false := decide_eq_false c8
              clear c8
              by_cases c9 : (rd l1 x5_1) ≥ a0
              · rw [if_pos c9] at H
                have c9b0 : decide (a0 ≤ (rd l1 x5_1)) = true := decide_eq_true c9
                clear c9
                obtain rfl := Option.some.inj H
                have p409 : 0 ≤ (x5_1 : Int) := of_decide_eq_true (by first | (with_reducible assumption) | assumption)
                have q409 : x5_1 < (l1.length : Int) := of_decide_eq_true (by first | (with_reducible assumption) | assumption)
                obtain ⟨ad409, e409, hx409_0⟩ := Kd.at_int HR1.out x5_1 p409 q409
                cases e409
                replace p409 := eq_true p409
                replace q409 := eq_true q409
                have p410 : 0 ≤ (x5_1 : Int) := of_decide_eq_true (by first | (with_reducible assumption) | assumption)
                have q410 : x5_1 < (l1.length : Int) := of_decide_eq_true (by first | (with_reducible assumption) | assumption)
                obtain ⟨ad410, e410, hx410_0⟩ := Kd.at_int HR1.out x5_1 p410 q410
                obtain rfl : ad409 = ad410 := (by injection e410)
                replace p410 := eq_true p410
                replace q410 := eq_true q410
                go_wp2
                go_ret
                exact ⟨by first | rfl | (simp; done) | (simp [*]; done), by repeat (first | exact Drawn0.refl _ | apply Drawn0.step)⟩
              · rw [if_neg c9] at H
                have c9b0 : decide (a0 ≤ (rd l1 x5_1)) = false := decide_eq_false c9
                clear c9
                have H' := ak H
                clear H
                have p409 : 0 ≤ (x5_1 : Int) := of_decide_eq_true (by first | (with_reducible assumption) | assumption)
                have q409 : x5_1 < (l1.length : Int) := of_decide_eq_true (by first | (with_reducible assumption) | assumption)
                obtain ⟨ad409, e409, hx409_0⟩ := Kd.at_int HR1.out x5_1 p409 q409
                cases e409
                replace p409 := eq_true p409
                replace q409 := eq_true q409
                have p410 : 0 ≤ (x5_1 : Int) := of_decide_eq_true (by first | (with_reducible assumption) | assumption)
                have q410 : x5_1 < (l1.length : Int) := of_decide_eq_true (by first | (with_reducible assumption) | assumption)
                obtain ⟨ad410, e410, hx410_0⟩ := Kd.at_int HR1.out x5_1 p410 q410
                obtain rfl : ad409 = ad410 := (by injection e410)
                replace p410 := eq_true p410
                replace q410 := eq_true q410
                go_wp2
                (first | go_roundg k1 | (refine Handed.intro k1 ?measure ?_; rotate_left; go_step; (repeat rw [add_plain]); (repeat apply Exists.intro); refine ⟨?rel, rfl⟩))
                case measure => have := HK1.out; omega
                case rel => exact ⟨(wrap64 (x5_1 + 1)), (by first | rfl | (simp; done) | (simp [*]; done)), H', ⟨by have := HK1.out; omega⟩, by repeat (first | exact Drawn0.refl _ | apply Drawn0.step)⟩
          · rw [if_neg c7] at H
            exact absurd H (by simp)
        · rw [if_neg c6] at H
          have c6b0 : decide (x5_1 < (l1.length : Int)) = false := decide_eq_false c6
          clear c6
          by_cases c10 : (l1.length : Int) > 0
          · rw [if_pos c10] at H
            have c10b0 : decide (0 < (l1.length : Int)) = true := decide_eq_true c10
            have c10b1 : decide (0 < l1.length) = true := decide_eq_true (by omega)
            clear c10
            obtain ⟨ji11, hji11⟩ : ∃ j_ : Int, (wrap64 ((l1.length : Int) - 1)) = j_ := ⟨_, rfl⟩
            replace H : (if 0 ≤ (ji11) then (if (ji11) < (l1.length : Int) then (if (rd l1 (ji11)) = 0 then (some 1) else (some 0)) else (none)) else (none)) = some r := by first | (rw [hji11] at H; exact H) | (simp only [hji11] at H ⊢; exact H)
            have hji11w : (IntKind.i64.wrap ((l1.length : Int) - 1)) = ji11 := (i64_w _).trans hji11
            by_cases c12 : 0 ≤ (ji11)
            · rw [if_pos c12] at H
              have c12b0 : decide (0 ≤ (ji11)) = true := decide_eq_true c12
              clear c12
              by_cases c13 : (ji11) < (l1.length : Int)
              · rw [if_pos c13] at H
                have c13b0 : decide ((ji11) < (l1.length : Int)) = true := decide_eq_true c13
                clear c13
                by_cases c14 : (rd l1 (ji11)) = 0
                · rw [if_pos c14] at H
                  have c14b0 : ((rd l1 (ji11)) == 0) = true := beq_iff_eq.mpr c14
                  have c14b1 : ((rd l1 (ji11)) != 0) = false := bne_eq_false_iff_eq.mpr c14
                  clear c14
                  obtain rfl := Option.some.inj H
                  have p411 : 0 ≤ ((ji11) : Int) := of_decide_eq_true (by first | (with_reducible assumption) | assumption)
                  have q411 : (ji11) < (l1.length : Int) := of_decide_eq_true (by first | (with_reducible assumption) | assumption)
                  obtain ⟨ad411, e411, hx411_0⟩ := Kd.at_int HR1.out (ji11) p411 q411
                  cases e411
                  replace p411 := eq_true p411
                  replace q411 := eq_true q411
                  go_wp2
                  go_ret
                  exact ⟨by first | rfl | (simp; done) | (simp only [← hji11] <;> (first | rfl | simp)) | (simp [*]; done), by repeat (first | exact Drawn0.refl _ | apply Drawn0.step)⟩
                · rw [if_neg c14] at H
                  have c14b0 : ((rd l1 (ji11)) == 0) = false := beq_eq_false_iff_ne.mpr c14
                  have c14b1 : ((rd l1 (ji11)) != 0) = true := bne_iff_ne.mpr c14
                  obtain rfl := Option.some.inj H
                  have p411 : 0 ≤ ((ji11) : Int) := of_decide_eq_true (by first | (with_reducible assumption) | assumption)
                  have q411 : (ji11) < (l1.length : Int) := of_decide_eq_true (by first | (with_reducible assumption) | assumption)
                  obtain ⟨ad411, e411, hx411_0⟩ := Kd.at_int HR1.out (ji11) p411 q411
                  cases e411
                  replace p411 := eq_true p411
                  replace q411 := eq_true q411
                  go_wp2
                  go_ret
                  exact ⟨by first | rfl | (simp; done) | (simp only [← hji11] <;> (first | rfl | simp)) | (simp [*]; done), by repeat (first | exact Drawn0.refl _ | apply Drawn0.step)⟩
              · rw [if_neg c13] at H
                exact absurd H (by simp)
            · rw [if_neg c12] at H
              exact absurd H (by simp)
          · rw [if_neg c10] at H
            have c10b0 : decide (0 < (l1.length : Int)) = false := decide_eq_false c10
            have c10b1 : decide (0 < l1.length) = false := decide_eq_false (by omega)
            clear c10
            obtain rfl := Option.some.inj H
            go_wp2
            go_ret
            exact ⟨by first | rfl | (simp; done) | (simp [*]; done), by repeat (first | exact Drawn0.refl _ | apply Drawn0.step)⟩
 · replace c4 := Bool.eq_false_iff.mpr c4
   subst c4
   have H1 : (some 7) = some r := by rw [if_neg (show ¬ (false = true) by decide)] at H; exact H
   clear H
   have H := H1
   clear H1
   obtain rfl := Option.some.inj H
   go_enter Try.func15, Try.ntmps15
   go_wp2_with (first | ((with_reducible refine gate_callee (f := 55) rfl ?_); refine goesL_ (some 7) rfl rfl Try.func55 (by kernel_rfl) rfl #[.int .i64 a0] rfl (by (try simp only [mA, mB, mC]); first | done | rfl | (simp only [lD, lT]; rfl)) ?_; (with_reducible refine (galoisref09_IsPrime.calls k a0 false _ A3.out).mono ?_); rintro e w' ⟨rfl, ⟨nd, rfl⟩⟩; refine ⟨_, rfl, ?_⟩))
   go_ret
   exact ⟨by first | rfl | (simp; done) | (simp [*]; done), by repeat (first | exact Drawn0.refl _ | apply Drawn0.step)⟩

/-! ### galoislaw09_expected: function 25 -/
def galoislaw09_expected.f (k : Nat) (a0 : Int) (l1 : List Int) (l2 : List Int) : Option (Int) := (galoisref09_Check.f k a0 l1).bind fun t412 => (if t412 = 0 then ((galoisref09_Check.f k a0 l2).bind fun t413 => (some t413)) else ((galoisref09_Check.f k a0 l1).bind fun t414 => (some t414)))
theorem galoislaw09_expected.mono : ∀ a0 a1 a2 k, LeO (galoislaw09_expected.f k a0 a1 a2) (galoislaw09_expected.f (k + 1) a0 a1 a2) := by
 intro a0 a1 a2 k
 unfold galoislaw09_expected.f
 repeat' first
  | (with_reducible apply galoisref09_Check.mono)
  | (with_reducible apply LeO.refl)
  | (with_reducible apply LeO.none)
  | (with_reducible refine LeO.ite ?_ ?_)
  | (with_reducible refine LeO.bind ?_ (fun _ => ?_))
set_option maxHeartbeats 8000000 in
set_option maxRecDepth 100000 in
theorem galoislaw09_expected.calls (k : Nat) (a0 : Int) (A1 : Option Addr) (c1 : Nat) (l1 : List Int) (A2 : Option Addr) (c2 : Nat) (l2 : List Int) (r : Int) (w : World) (hr1 : Kd.C (Kd.int .i64) w A1 l1.length l1) (hc1 : l1.length ≤ c1) (hr2 : Kd.C (Kd.int .i64) w A2 l2.length l2) (hc2 : l2.length ≤ c2) (h : galoislaw09_expected.f k a0 l1 l2 = some r) :
 Calls Try.prog 25 #[.int .i64 a0, .slice A1 l1.length c1, .slice A2 l2.length c2] w fun e w' => e = .returned (.int .i64 r) ∧ Drawn0 w w' := by
 have HR1 := ak hr1
 have HC1 := ak hc1
 clear hr1 hc1
 have HR2 := ak hr2
 have HC2 := ak hc2
 clear hr2 hc2
 have H : ((galoisref09_Check.f k a0 l1).bind fun t412 => (if t412 = 0 then ((galoisref09_Check.f k a0 l2).bind fun t413 => (some t413)) else ((galoisref09_Check.f k a0 l1).bind fun t414 => (some t414)))) = some r := h
 clear h
 replace H := Option.bind_eq_some_iff.mp H
 obtain ⟨t412, A40, H⟩ := H
 replace H : (if t412 = 0 then ((galoisref09_Check.f k a0 l2).bind fun t413 => (some t413)) else ((galoisref09_Check.f k a0 l1).bind fun t414 => (some t414))) = some r := H
 have A4 := ak A40
 clear A40
 by_cases c5 : t412 = 0
 · rw [if_pos c5] at H
   have c5b0 : (t412 == 0) = true := beq_iff_eq.mpr c5
   have c5b1 : (t412 != 0) = false := bne_eq_false_iff_eq.mpr c5
   clear c5
   replace H := Option.bind_eq_some_iff.mp H
   obtain ⟨t413, A60, H⟩ := H
   replace H : (some t413) = some r := H
   have A6 := ak A60
   clear A60
   obtain rfl := Option.some.inj H
   go_enter Try.func25, Try.ntmps25
   go_wp2_with (first | ((with_reducible refine gate_callee (f := 15) rfl ?_); refine goesL_ (some 9) rfl rfl Try.func15 (by kernel_rfl) rfl #[.int .i64 a0, .slice A1 l1.length c1] rfl (by (try simp only [mA, mB, mC]); first | done | rfl | (simp only [lD, lT]; rfl)) ?_; (with_reducible refine (galoisref09_Check.calls k a0 _ _ l1 t412 _ ?side1 ?side2 A4.out).mono ?_); (case side1 => repeat (first | exact HR1.out | (with_reducible first | apply cA | apply cB | apply cC))); (case side2 => exact HC1.out); rintro e w' ⟨rfl, ⟨nd, rfl⟩⟩; refine ⟨_, rfl, ?_⟩) | ((with_reducible refine gate_callee (f := 15) rfl ?_); refine goesL_ (some 16) rfl rfl Try.func15 (by kernel_rfl) rfl #[.int .i64 a0, .slice A2 l2.length c2] rfl (by (try simp only [mA, mB, mC]); first | done | rfl | (simp only [lD, lT]; rfl)) ?_; (with_reducible refine (galoisref09_Check.calls k a0 _ _ l2 t413 _ ?side1 ?side2 A6.out).mono ?_); (case side1 => repeat (first | exact HR2.out | (with_reducible first | apply cA | apply cB | apply cC))); (case side2 => exact HC2.out); rintro e w' ⟨rfl, ⟨nd, rfl⟩⟩; refine ⟨_, rfl, ?_⟩))
   go_ret
   exact ⟨by first | rfl | (simp; done) | (simp [*]; done), by repeat (first | exact Drawn0.refl _ | apply Drawn0.step)⟩
 · rw [if_neg c5] at H
   have c5b0 : (t412 == 0) = false := beq_eq_false_iff_ne.mpr c5
   have c5b1 : (t412 != 0) = true := bne_iff_ne.mpr c5
   replace H := Option.bind_eq_some_iff.mp H
   obtain ⟨t414, A70, H⟩ := H
   replace H : (some t414) = some r := H
   have A7 := ak A70
   clear A70
   obtain rfl := Option.some.inj H
   go_enter Try.func25, Try.ntmps25
   go_wp2_with (first | ((with_reducible refine gate_callee (f := 15) rfl ?_); refine goesL_ (some 9) rfl rfl Try.func15 (by kernel_rfl) rfl #[.int .i64 a0, .slice A1 l1.length c1] rfl (by (try simp only [mA, mB, mC]); first | done | rfl | (simp only [lD, lT]; rfl)) ?_; (with_reducible refine (galoisref09_Check.calls k a0 _ _ l1 t412 _ ?side1 ?side2 A4.out).mono ?_); (case side1 => repeat (first | exact HR1.out | (with_reducible first | apply cA | apply cB | apply cC))); (case side2 => exact HC1.out); rintro e w' ⟨rfl, ⟨nd, rfl⟩⟩; refine ⟨_, rfl, ?_⟩) | ((with_reducible refine gate_callee (f := 15) rfl ?_); refine goesL_ (some 13) rfl rfl Try.func15 (by kernel_rfl) rfl #[.int .i64 a0, .slice A1 l1.length c1] rfl (by (try simp only [mA, mB, mC]); first | done | rfl | (simp only [lD, lT]; rfl)) ?_; (with_reducible refine (galoisref09_Check.calls k a0 _ _ l1 t414 _ ?side1 ?side2 A7.out).mono ?_); (case side1 => repeat (first | exact HR1.out | (with_reducible first | apply cA | apply cB | apply cC))); (case side2 => exact HC1.out); rintro e w' ⟨rfl, ⟨nd, rfl⟩⟩; refine ⟨_, rfl, ?_⟩))
   go_ret
   exact ⟨by first | rfl | (simp; done) | (simp [*]; done), by repeat (first | exact Drawn0.refl _ | apply Drawn0.step)⟩

/-! ### galoisref09_Large: function 76 -/
def galoisref09_Large.f (l0 : List Int) : Option (Int) := if (l0.length : Int) > 65 then (some 4) else (some 0)
set_option maxHeartbeats 8000000 in
set_option maxRecDepth 100000 in
theorem galoisref09_Large.calls (A0 : Option Addr) (c0 : Nat) (l0 : List Int) (r : Int) (w : World) (hr0 : Kd.C (Kd.int .i64) w A0 l0.length l0) (hc0 : l0.length ≤ c0) (h : galoisref09_Large.f l0 = some r) :
 Calls Try.prog 76 #[.slice A0 l0.length c0] w fun e w' => e = .returned (.int .i64 r) ∧ Drawn0 w w' := by
 have HR0 := ak hr0
 have HC0 := ak hc0
 clear hr0 hc0
 have H : (if (l0.length : Int) > 65 then (some 4) else (some 0)) = some r := h
 clear h
 by_cases c2 : (l0.length : Int) > 65
 · rw [if_pos c2] at H
   have c2b0 : decide (65 < (l0.length : Int)) = true := decide_eq_true c2
   have c2b1 : decide (65 < l0.length) = true := decide_eq_true (by omega)
   clear c2
   obtain rfl := Option.some.inj H
   go_enter Try.func76, Try.ntmps76
   go_wp2
   go_ret
   exact ⟨by first | rfl | (simp; done) | (simp [*]; done), by repeat (first | exact Drawn0.refl _ | apply Drawn0.step)⟩
 · rw [if_neg c2] at H
   have c2b0 : decide (65 < (l0.length : Int)) = false := decide_eq_false c2
   have c2b1 : decide (65 < l0.length) = false := decide_eq_false (by omega)
   clear c2
   obtain rfl := Option.some.inj H
   go_enter Try.func76, Try.ntmps76
   go_wp2
   go_ret
   exact ⟨by first | rfl | (simp; done) | (simp [*]; done), by repeat (first | exact Drawn0.refl _ | apply Drawn0.step)⟩

/-! ### galoislaw09_right: function 26 -/
def galoislaw09_right.f (k : Nat) (l0 : List Int) (a1 : Int) (a2 : Int) (l3 : List Int) : Option (Bool) := if a2 = 0 then ((galoisref09_Large.f l3).bind fun t415 => (if t415 = 0 then ((galoisref09_Same.f k l0 l3).bind fun t416 => (if t416 = true then (some (a1 == 0)) else (some false))) else (if (l0.length : Int) = 0 then (some (a1 == t415)) else (some false)))) else (if (l0.length : Int) = 0 then (some (a1 == a2)) else (some false))
theorem galoislaw09_right.mono : ∀ a0 a1 a2 a3 k, LeO (galoislaw09_right.f k a0 a1 a2 a3) (galoislaw09_right.f (k + 1) a0 a1 a2 a3) := by
 intro a0 a1 a2 a3 k
 unfold galoislaw09_right.f
 repeat' first
  | (with_reducible apply galoisref09_Same.mono)
  | (with_reducible apply LeO.refl)
  | (with_reducible apply LeO.none)
  | (with_reducible refine LeO.ite ?_ ?_)
  | (with_reducible refine LeO.bind ?_ (fun _ => ?_))
set_option maxHeartbeats 8000000 in
set_option maxRecDepth 100000 in
theorem galoislaw09_right.calls (k : Nat) (A0 : Option Addr) (c0 : Nat) (l0 : List Int) (a1 : Int) (a2 : Int) (A3 : Option Addr) (c3 : Nat) (l3 : List Int) (r : Bool) (w : World) (hr0 : Kd.C (Kd.int .i64) w A0 l0.length l0) (hc0 : l0.length ≤ c0) (hr3 : Kd.C (Kd.int .i64) w A3 l3.length l3) (hc3 : l3.length ≤ c3) (h : galoislaw09_right.f k l0 a1 a2 l3 = some r) :
 Calls Try.prog 26 #[.slice A0 l0.length c0, .int .i64 a1, .int .i64 a2, .slice A3 l3.length c3] w fun e w' => e = .returned (.bool r) ∧ Drawn0 w w' := by
 have HR0 := ak hr0
 have HC0 := ak hc0
 clear hr0 hc0
 have HR3 := ak hr3
 have HC3 := ak hc3
 clear hr3 hc3
 have H : (if a2 = 0 then ((galoisref09_Large.f l3).bind fun t415 => (if t415 = 0 then ((galoisref09_Same.f k l0 l3).bind fun t416 => (if t416 = true then (some (a1 == 0)) else (some false))) else (if (l0.length : Int) = 0 then (some (a1 == t415)) else (some false)))) else (if (l0.length : Int) = 0 then (some (a1 == a2)) else (some false))) = some r := h
 clear h
 by_cases c5 : a2 = 0
 · rw [if_pos c5] at H
   have c5b0 : (a2 == 0) = true := beq_iff_eq.mpr c5
   have c5b1 : (a2 != 0) = false := bne_eq_false_iff_eq.mpr c5
   clear c5
   replace H := Option.bind_eq_some_iff.mp H
   obtain ⟨t415, A60, H⟩ := H
   replace H : (if t415 = 0 then ((galoisref09_Same.f k l0 l3).bind fun t416 => (if t416 = true then (some (a1 == 0)) else (some false))) else (if (l0.length : Int) = 0 then (some (a1 == t415)) else (some false))) = some r := H
   have A6 := ak A60
   clear A60
   by_cases c7 : t415 = 0
   · rw [if_pos c7] at H
     have c7b0 : (t415 == 0) = true := beq_iff_eq.mpr c7
     have c7b1 : (t415 != 0) = false := bne_eq_false_iff_eq.mpr c7
     clear c7
     replace H := Option.bind_eq_some_iff.mp H
     obtain ⟨t416, A80, H⟩ := H
     replace H : (if t416 = true then (some (a1 == 0)) else (some false)) = some r := H
     have A8 := ak A80
     clear A80
     by_cases c9 : t416 = true
     · subst c9
       have H1 : (some (a1 == 0)) = some r := by rw [if_pos rfl] at H; exact H
       clear H
       have H := H1
       clear H1
       obtain rfl := Option.some.inj H
       go_enter Try.func26, Try.ntmps26
       go_wp2_with (first | ((with_reducible refine gate_callee (f := 76) rfl ?_); refine goesL_ (some 12) rfl rfl Try.func76 (by kernel_rfl) rfl #[.slice A3 l3.length c3] rfl (by (try simp only [mA, mB, mC]); first | done | rfl | (simp only [lD, lT]; rfl)) ?_; (with_reducible refine (galoisref09_Large.calls _ _ l3 t415 _ ?side1 ?side2 A6.out).mono ?_); (case side1 => repeat (first | exact HR3.out | (with_reducible first | apply cA | apply cB | apply cC))); (case side2 => exact HC3.out); rintro e w' ⟨rfl, ⟨nd, rfl⟩⟩; refine ⟨_, rfl, ?_⟩) | ((with_reducible refine gate_callee (f := 37) rfl ?_); refine goesL_ (some 25) rfl rfl Try.func37 (by kernel_rfl) rfl #[.slice A0 l0.length c0, .slice A3 l3.length c3] rfl (by (try simp only [mA, mB, mC]); first | done | rfl | (simp only [lD, lT]; rfl)) ?_; (with_reducible refine (galoisref09_Same.calls k _ _ l0 _ _ l3 true _ ?side1 ?side2 ?side3 ?side4 A8.out).mono ?_); (case side1 => repeat (first | exact HR0.out | (with_reducible first | apply cA | apply cB | apply cC))); (case side2 => exact HC0.out); (case side3 => repeat (first | exact HR3.out | (with_reducible first | apply cA | apply cB | apply cC))); (case side4 => exact HC3.out); rintro e w' ⟨rfl, ⟨nd, rfl⟩⟩; refine ⟨_, rfl, ?_⟩))
       go_ret
       exact ⟨by first | rfl | (simp; done) | (simp [*]; done), by repeat (first | exact Drawn0.refl _ | apply Drawn0.step)⟩
     · replace c9 := Bool.eq_false_iff.mpr c9
       subst c9
       have H1 : (some false) = some r := by rw [if_neg (show ¬ (false = true) by decide)] at H; exact H
       clear H
       have H := H1
       clear H1
       obtain rfl := Option.some.inj H
       go_enter Try.func26, Try.ntmps26
       go_wp2_with (first | ((with_reducible refine gate_callee (f := 76) rfl ?_); refine goesL_ (some 12) rfl rfl Try.func76 (by kernel_rfl) rfl #[.slice A3 l3.length c3] rfl (by (try simp only [mA, mB, mC]); first | done | rfl | (simp only [lD, lT]; rfl)) ?_; (with_reducible refine (galoisref09_Large.calls _ _ l3 t415 _ ?side1 ?side2 A6.out).mono ?_); (case side1 => repeat (first | exact HR3.out | (with_reducible first | apply cA | apply cB | apply cC))); (case side2 => exact HC3.out); rintro e w' ⟨rfl, ⟨nd, rfl⟩⟩; refine ⟨_, rfl, ?_⟩) | ((with_reducible refine gate_callee (f := 37) rfl ?_); refine goesL_ (some 25) rfl rfl Try.func37 (by kernel_rfl) rfl #[.slice A0 l0.length c0, .slice A3 l3.length c3] rfl (by (try simp only [mA, mB, mC]); first | done | rfl | (simp only [lD, lT]; rfl)) ?_; (with_reducible refine (galoisref09_Same.calls k _ _ l0 _ _ l3 false _ ?side1 ?side2 ?side3 ?side4 A8.out).mono ?_); (case side1 => repeat (first | exact HR0.out | (with_reducible first | apply cA | apply cB | apply cC))); (case side2 => exact HC0.out); (case side3 => repeat (first | exact HR3.out | (with_reducible first | apply cA | apply cB | apply cC))); (case side4 => exact HC3.out); rintro e w' ⟨rfl, ⟨nd, rfl⟩⟩; refine ⟨_, rfl, ?_⟩))
       go_ret
       exact ⟨by first | rfl | (simp; done) | (simp [*]; done), by repeat (first | exact Drawn0.refl _ | apply Drawn0.step)⟩
   · rw [if_neg c7] at H
     have c7b0 : (t415 == 0) = false := beq_eq_false_iff_ne.mpr c7
     have c7b1 : (t415 != 0) = true := bne_iff_ne.mpr c7
     by_cases c10 : (l0.length : Int) = 0
     · rw [if_pos c10] at H
       have c10b0 : ((l0.length : Int) == 0) = true := beq_iff_eq.mpr c10
       have c10b1 : ((l0.length : Int) != 0) = false := bne_eq_false_iff_eq.mpr c10
       clear c10
       obtain rfl := Option.some.inj H
       go_enter Try.func26, Try.ntmps26
       go_wp2_with (first | ((with_reducible refine gate_callee (f := 76) rfl ?_); refine goesL_ (some 12) rfl rfl Try.func76 (by kernel_rfl) rfl #[.slice A3 l3.length c3] rfl (by (try simp only [mA, mB, mC]); first | done | rfl | (simp only [lD, lT]; rfl)) ?_; (with_reducible refine (galoisref09_Large.calls _ _ l3 t415 _ ?side1 ?side2 A6.out).mono ?_); (case side1 => repeat (first | exact HR3.out | (with_reducible first | apply cA | apply cB | apply cC))); (case side2 => exact HC3.out); rintro e w' ⟨rfl, ⟨nd, rfl⟩⟩; refine ⟨_, rfl, ?_⟩))
       go_ret
       exact ⟨by first | rfl | (simp; done) | (simp [*]; done), by repeat (first | exact Drawn0.refl _ | apply Drawn0.step)⟩
     · rw [if_neg c10] at H
       have c10b0 : ((l0.length : Int) == 0) = false := beq_eq_false_iff_ne.mpr c10
       have c10b1 : ((l0.length : Int) != 0) = true := bne_iff_ne.mpr c10
       have c10b2 : ¬ (l0 = []) := fun h_ => c10 (by rw [h_]; rfl)
       obtain rfl := Option.some.inj H
       go_enter Try.func26, Try.ntmps26
       go_wp2_with (first | ((with_reducible refine gate_callee (f := 76) rfl ?_); refine goesL_ (some 12) rfl rfl Try.func76 (by kernel_rfl) rfl #[.slice A3 l3.length c3] rfl (by (try simp only [mA, mB, mC]); first | done | rfl | (simp only [lD, lT]; rfl)) ?_; (with_reducible refine (galoisref09_Large.calls _ _ l3 t415 _ ?side1 ?side2 A6.out).mono ?_); (case side1 => repeat (first | exact HR3.out | (with_reducible first | apply cA | apply cB | apply cC))); (case side2 => exact HC3.out); rintro e w' ⟨rfl, ⟨nd, rfl⟩⟩; refine ⟨_, rfl, ?_⟩))
       go_ret
       exact ⟨by first | rfl | (simp; done) | (simp [*]; done), by repeat (first | exact Drawn0.refl _ | apply Drawn0.step)⟩
 · rw [if_neg c5] at H
   have c5b0 : (a2 == 0) = false := beq_eq_false_iff_ne.mpr c5
   have c5b1 : (a2 != 0) = true := bne_iff_ne.mpr c5
   by_cases c11 : (l0.length : Int) = 0
   · rw [if_pos c11] at H
     have c11b0 : ((l0.length : Int) == 0) = true := beq_iff_eq.mpr c11
     have c11b1 : ((l0.length : Int) != 0) = false := bne_eq_false_iff_eq.mpr c11
     clear c11
     obtain rfl := Option.some.inj H
     go_enter Try.func26, Try.ntmps26
     go_wp2
     go_ret
     exact ⟨by first | rfl | (simp; done) | (simp [*]; done), by repeat (first | exact Drawn0.refl _ | apply Drawn0.step)⟩
   · rw [if_neg c11] at H
     have c11b0 : ((l0.length : Int) == 0) = false := beq_eq_false_iff_ne.mpr c11
     have c11b1 : ((l0.length : Int) != 0) = true := bne_iff_ne.mpr c11
     have c11b2 : ¬ (l0 = []) := fun h_ => c11 (by rw [h_]; rfl)
     obtain rfl := Option.some.inj H
     go_enter Try.func26, Try.ntmps26
     go_wp2
     go_ret
     exact ⟨by first | rfl | (simp; done) | (simp [*]; done), by repeat (first | exact Drawn0.refl _ | apply Drawn0.step)⟩

/-! ### galoisref01_Valid: function 77 -/
def galoisref01_Valid.f (a0 : ByteArray) : Option (Bool) := if a0.toList = ([] : List UInt8) then (some true) else (if 0 < (a0.size : Int) then (some ((bt a0 0) != 0)) else (none))
set_option maxHeartbeats 8000000 in
set_option maxRecDepth 100000 in
theorem galoisref01_Valid.calls (a0 : ByteArray) (r : Bool) (w : World) (h : galoisref01_Valid.f a0 = some r) :
 Calls Try.prog 77 #[.string a0] w fun e w' => e = .returned (.bool r) ∧ Drawn0 w w' := by
 have H : (if a0.toList = ([] : List UInt8) then (some true) else (if 0 < (a0.size : Int) then (some ((bt a0 0) != 0)) else (none))) = some r := h
 clear h
 by_cases c2 : a0.toList = ([] : List UInt8)
 · rw [if_pos c2] at H
   have c2b0 : (a0.toList == ([] : List UInt8)) = true := beq_iff_eq.mpr c2
   have c2b1 : (a0.toList != ([] : List UInt8)) = false := bne_eq_false_iff_eq.mpr c2
   clear c2
   obtain rfl := Option.some.inj H
   go_enter Try.func77, Try.ntmps77
   go_wp2
   go_ret
   exact ⟨by first | rfl | (simp; done) | (simp [*]; done), by repeat (first | exact Drawn0.refl _ | apply Drawn0.step)⟩
 · rw [if_neg c2] at H
   have c2b0 : (a0.toList == ([] : List UInt8)) = false := beq_eq_false_iff_ne.mpr c2
   have c2b1 : (a0.toList != ([] : List UInt8)) = true := bne_iff_ne.mpr c2
   by_cases c3 : 0 < (a0.size : Int)
   · rw [if_pos c3] at H
     have c3b0 : decide (0 < (a0.size : Int)) = true := decide_eq_true c3
     have c3b1 : decide (0 < a0.size) = true := decide_eq_true (by omega)
     clear c3
     obtain rfl := Option.some.inj H
     have p4 : 0 ≤ (0 : Int) := (by omega)
     have q4 : 0 < a0.size := (by have : (0 : Int) < (a0.size : Int) := of_decide_eq_true (by first | (with_reducible assumption) | assumption); omega)
     have hx4 : ∀ h : 0 < a0.size, ((a0[0]'h).toNat : Int) = bt a0 0 := bt_at a0 0
     clear p4
     have qi4 : (0 < (a0.size : Int)) = True := eq_true (of_decide_eq_true (by first | (with_reducible assumption) | assumption))
     replace q4 := eq_true q4
     go_enter Try.func77, Try.ntmps77
     go_wp2
     go_ret
     exact ⟨by first | rfl | (simp; done) | (simp [*]; done), by repeat (first | exact Drawn0.refl _ | apply Drawn0.step)⟩
   · rw [if_neg c3] at H
     exact absurd H (by simp)

/-! ### galoisref01_Fits: function 78 -/
def galoisref01_Fits.f (a0 : ByteArray) : Option (Int) := if (a0.size : Int) > 1024 then (some 4) else (some 0)
set_option maxHeartbeats 8000000 in
set_option maxRecDepth 100000 in
theorem galoisref01_Fits.calls (a0 : ByteArray) (r : Int) (w : World) (h : galoisref01_Fits.f a0 = some r) :
 Calls Try.prog 78 #[.string a0] w fun e w' => e = .returned (.int .i64 r) ∧ Drawn0 w w' := by
 have H : (if (a0.size : Int) > 1024 then (some 4) else (some 0)) = some r := h
 clear h
 by_cases c2 : (a0.size : Int) > 1024
 · rw [if_pos c2] at H
   have c2b0 : decide (1024 < (a0.size : Int)) = true := decide_eq_true c2
   have c2b1 : decide (1024 < a0.size) = true := decide_eq_true (by omega)
   clear c2
   obtain rfl := Option.some.inj H
   go_enter Try.func78, Try.ntmps78
   go_wp2
   go_ret
   exact ⟨by first | rfl | (simp; done) | (simp [*]; done), by repeat (first | exact Drawn0.refl _ | apply Drawn0.step)⟩
 · rw [if_neg c2] at H
   have c2b0 : decide (1024 < (a0.size : Int)) = false := decide_eq_false c2
   have c2b1 : decide (1024 < a0.size) = false := decide_eq_false (by omega)
   clear c2
   obtain rfl := Option.some.inj H
   go_enter Try.func78, Try.ntmps78
   go_wp2
   go_ret
   exact ⟨by first | rfl | (simp; done) | (simp [*]; done), by repeat (first | exact Drawn0.refl _ | apply Drawn0.step)⟩

/-! ### galoisref01_Check: function 27 -/
def galoisref01_Check.f (a0 : ByteArray) : Option (Int) := (galoisref01_Valid.f a0).bind fun t417 => (if t417 = true then ((galoisref01_Fits.f a0).bind fun t418 => (some t418)) else (some 1))
set_option maxHeartbeats 8000000 in
set_option maxRecDepth 100000 in
theorem galoisref01_Check.calls (a0 : ByteArray) (r : Int) (w : World) (h : galoisref01_Check.f a0 = some r) :
 Calls Try.prog 27 #[.string a0] w fun e w' => e = .returned (.int .i64 r) ∧ Drawn0 w w' := by
 have H : ((galoisref01_Valid.f a0).bind fun t417 => (if t417 = true then ((galoisref01_Fits.f a0).bind fun t418 => (some t418)) else (some 1))) = some r := h
 clear h
 replace H := Option.bind_eq_some_iff.mp H
 obtain ⟨t417, A20, H⟩ := H
 replace H : (if t417 = true then ((galoisref01_Fits.f a0).bind fun t418 => (some t418)) else (some 1)) = some r := H
 have A2 := ak A20
 clear A20
 by_cases c3 : t417 = true
 · subst c3
   have H1 : ((galoisref01_Fits.f a0).bind fun t418 => (some t418)) = some r := by rw [if_pos rfl] at H; exact H
   clear H
   have H := H1
   clear H1
   replace H := Option.bind_eq_some_iff.mp H
   obtain ⟨t418, A40, H⟩ := H
   replace H : (some t418) = some r := H
   have A4 := ak A40
   clear A40
   obtain rfl := Option.some.inj H
   go_enter Try.func27, Try.ntmps27
   go_wp2_with (first | ((with_reducible refine gate_callee (f := 77) rfl ?_); refine goesL_ (some 4) rfl rfl Try.func77 (by kernel_rfl) rfl #[.string a0] rfl (by (try simp only [mA, mB, mC]); first | done | rfl | (simp only [lD, lT]; rfl)) ?_; (with_reducible refine (galoisref01_Valid.calls a0 true _ A2.out).mono ?_); rintro e w' ⟨rfl, ⟨nd, rfl⟩⟩; refine ⟨_, rfl, ?_⟩) | ((with_reducible refine gate_callee (f := 78) rfl ?_); refine goesL_ (some 7) rfl rfl Try.func78 (by kernel_rfl) rfl #[.string a0] rfl (by (try simp only [mA, mB, mC]); first | done | rfl | (simp only [lD, lT]; rfl)) ?_; (with_reducible refine (galoisref01_Fits.calls a0 t418 _ A4.out).mono ?_); rintro e w' ⟨rfl, ⟨nd, rfl⟩⟩; refine ⟨_, rfl, ?_⟩))
   go_ret
   exact ⟨by first | rfl | (simp; done) | (simp [*]; done), by repeat (first | exact Drawn0.refl _ | apply Drawn0.step)⟩
 · replace c3 := Bool.eq_false_iff.mpr c3
   subst c3
   have H1 : (some 1) = some r := by rw [if_neg (show ¬ (false = true) by decide)] at H; exact H
   clear H
   have H := H1
   clear H1
   obtain rfl := Option.some.inj H
   go_enter Try.func27, Try.ntmps27
   go_wp2_with (first | ((with_reducible refine gate_callee (f := 77) rfl ?_); refine goesL_ (some 4) rfl rfl Try.func77 (by kernel_rfl) rfl #[.string a0] rfl (by (try simp only [mA, mB, mC]); first | done | rfl | (simp only [lD, lT]; rfl)) ?_; (with_reducible refine (galoisref01_Valid.calls a0 false _ A2.out).mono ?_); rintro e w' ⟨rfl, ⟨nd, rfl⟩⟩; refine ⟨_, rfl, ?_⟩))
   go_ret
   exact ⟨by first | rfl | (simp; done) | (simp [*]; done), by repeat (first | exact Drawn0.refl _ | apply Drawn0.step)⟩

end Go.Proofs.Ytmknclgamadphaa.PPolymodPowers
