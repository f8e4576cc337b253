-- WRITTEN BY sprint.py (a program of this repo, over the kit's print.py): nothing here is trusted, Lean checks it.
import Derived.Test.YtmknclgamadphaaPPolymodBezoutx0
import Derived.Test.YtmknclgamadphaaPPolymodBezoutx1
import Derived.Test.YtmknclgamadphaaPPolymodBezoutx2
import Derived.Test.YtmknclgamadphaaPPolymodBezoutx3
namespace Go.Proofs.Ytmknclgamadphaa.PPolymodBezout
open Go.RowKit Go.Proofs.YtmknclgamadphaaW.PrintWords Go.Proofs.YtmknclgamadphaaW.PrintLast Go.Proofs.YtmknclgamadphaaW.PrintMore
attribute [local go_sem] max2_int min2_int max_two min_two max_three min_three max_four min_four   -- for this text's walks alone
set_option linter.unusedVariables false
set_option linter.unusedSimpArgs false

/-! ### polymod_bounded: function 66 -/
def polymod_bounded.f (k : Nat) (l0 : List Int) : Option (List Int × Int) := if (l0.length : Int) > 65 then some ([], 4) else some (l0, 0)
theorem polymod_bounded.mono : ∀ a0 k, LeO (polymod_bounded.f k a0) (polymod_bounded.f (k + 1) a0) := fun _ _ => LeO.refl _
set_option maxHeartbeats 8000000 in
set_option maxRecDepth 100000 in
theorem polymod_bounded.calls (k : Nat) (P0_ : Nat → Prop) (A0 : Option Addr) (c0 : Nat) (l0 : List Int) (r1 : List Int) (r2 : Int) (w : World) (hs0 : Kd.V (Kd.int .i64) 3 w w.heap.size (fun k_ => P0_ k_) (.slice A0 l0.length c0) l0) (h : polymod_bounded.f k l0 = some (r1, r2)) :
 Calls Try.prog 66 #[.slice A0 l0.length c0] w fun e w' => ∃ v0_ : Value, e = .returned (.tuple #[v0_, .int .i64 r2]) ∧ Kd.V (Kd.int .i64) 3 w' w.heap.size (fun k_ => (P0_ k_ ∨ w.heap.size ≤ k_)) v0_ r1 ∧ Below w.heap.size w w' := by
 have HS := Aside0.mk (Kd.V_mono hs0 (fun k_ hk => (.inl hk : P0_ k_ ∨ w.heap.size ≤ k_)))
 clear hs0
 unfold polymod_bounded.f at h
 by_cases c3 : (l0.length : Int) > 65
 · rw [if_pos c3] at h
   have h2 := Option.some.inj h
   clear h
   injection h2 with h3 h4
   subst h3 h4
   have c3b0 : decide (65 < (l0.length : Int)) = true := decide_eq_true c3
   have c3b1 : decide (65 < l0.length) = true := decide_eq_true (by omega)
   clear c3
   go_enter Try.func66, Try.ntmps66
   go_wp2
   go_ret2
   exact ⟨_, rfl, Kd.V_nil _ _ _ _ _, Below.refl _ _⟩
 · rw [if_neg c3] at h
   have h2 := Option.some.inj h
   clear h
   injection h2 with h3 h4
   subst h3 h4
   have c3b0 : decide (65 < (l0.length : Int)) = false := decide_eq_false c3
   have c3b1 : decide (65 < l0.length) = false := decide_eq_false (by omega)
   clear c3
   go_enter Try.func66, Try.ntmps66
   go_wp2
   go_ret2
   exact ⟨_, rfl, HS.out, Below.refl _ _⟩

/-! ### polymod_Mul: function 18 -/
def polymod_Mul.f (k : Nat) (a0 : Int) (l1 : List Int) (l2 : List Int) : Option (List Int × Int) := (polymod_first.f k a0 (([l1, l2] : List (List Int)))).bind fun t355 => (if t355 = 0 then ((fp_Mul.f k a0 l1 l2).bind fun t356 => ((polymod_bounded.f k t356).bind fun bt359 => (some (bt359.1, bt359.2)))) else (some (([] : List Int), t355)))
theorem polymod_Mul.mono : ∀ a0 a1 a2 k, LeO (polymod_Mul.f k a0 a1 a2) (polymod_Mul.f (k + 1) a0 a1 a2) := by
 intro a0 a1 a2 k
 unfold polymod_Mul.f
 repeat' first
  | (with_reducible apply fp_Mul.mono)
  | (with_reducible apply polymod_bounded.mono)
  | (with_reducible apply polymod_first.mono)
  | (with_reducible apply LeO.refl)
  | (with_reducible apply LeO.none)
  | (with_reducible refine LeO.ite ?_ ?_)
  | (with_reducible refine LeO.bind ?_ (fun _ => ?_))
set_option maxHeartbeats 8000000 in
set_option maxRecDepth 100000 in
theorem polymod_Mul.calls (k : Nat) (a0 : Int) (P1_ : Nat → Prop) (A1 : Option Addr) (c1 : Nat) (l1 : List Int) (P2_ : Nat → Prop) (A2 : Option Addr) (c2 : Nat) (l2 : List Int) (r1 : List Int) (r2 : Int) (w : World) (hs1 : Kd.V (Kd.int .i64) 3 w w.heap.size (fun k_ => P1_ k_) (.slice A1 l1.length c1) l1) (hs2 : Kd.V (Kd.int .i64) 3 w w.heap.size (fun k_ => P2_ k_) (.slice A2 l2.length c2) l2) (h : polymod_Mul.f k a0 l1 l2 = some (r1, r2)) :
 Calls Try.prog 18 #[.int .i64 a0, .slice A1 l1.length c1, .slice A2 l2.length c2] w fun e w' => ∃ v0_ : Value, e = .returned (.tuple #[v0_, .int .i64 r2]) ∧ Kd.V (Kd.int .i64) 3 w' w.heap.size (fun k_ => ((P1_ k_ ∨ P2_ k_) ∨ w.heap.size ≤ k_)) v0_ r1 ∧ Below w.heap.size w w' := by
 have HO1 := Aside0.mk (show Kd.V (Kd.int .i64) 3 w w.heap.size (fun k_ => ((P1_ k_ ∨ P2_ k_) ∨ w.heap.size ≤ k_)) (.slice A1 l1.length c1) l1 from Kd.V_mono hs1 (fun k_ hk => .inl (.inl hk)))
 have HO2 := Aside0.mk (show Kd.V (Kd.int .i64) 3 w w.heap.size (fun k_ => ((P1_ k_ ∨ P2_ k_) ∨ w.heap.size ≤ k_)) (.slice A2 l2.length c2) l2 from Kd.V_mono hs2 (fun k_ hk => .inl (.inr hk)))
 have HB := Aside0.mk (Below.refl w.heap.size w)
 have H : ((polymod_first.f k a0 (([l1, l2] : List (List Int)))).bind fun t355 => (if t355 = 0 then ((fp_Mul.f k a0 l1 l2).bind fun t356 => ((polymod_bounded.f k t356).bind fun bt359 => (some (bt359.1, bt359.2)))) else (some (([] : List Int), t355)))) = some (r1, r2) := h
 clear h
 obtain ⟨y352, hy352⟩ : ∃ y_ : List (List Int), y_ = (([l1, l2] : List (List Int))) := ⟨_, rfl⟩
 replace H : ((polymod_first.f k a0 y352).bind fun t355 => (if t355 = 0 then ((fp_Mul.f k a0 l1 l2).bind fun t356 => ((polymod_bounded.f k t356).bind fun bt359 => (some (bt359.1, bt359.2)))) else (some (([] : List Int), t355)))) = some (r1, r2) := by first | (rw [hy352]; with_reducible exact H) | (have H2_ := (Option.bind_some _ _).symm.trans H; rw [hy352]; with_reducible exact H2_) | (have H2_ := (Option.bind_some _ _).symm.trans H; with_reducible exact H2_) | with_reducible exact H | (rw [hy352]; exact H) | exact H
 have Ny352 := Aside0.mk hy352
 clear hy352
 replace H := Option.bind_eq_some_iff.mp H
 obtain ⟨t355, A40, H⟩ := H
 replace H : (if t355 = 0 then ((fp_Mul.f k a0 l1 l2).bind fun t356 => ((polymod_bounded.f k t356).bind fun bt359 => (some (bt359.1, bt359.2)))) else (some (([] : List Int), t355))) = some (r1, r2) := H
 have A4 := Aside0.mk A40
 clear A40
 by_cases c5 : t355 = 0
 · rw [if_pos c5] at H
   have c5b0 : (t355 == 0) = true := beq_iff_eq.mpr c5
   have c5b1 : (t355 != 0) = false := bne_eq_false_iff_eq.mpr c5
   clear c5
   replace H := Option.bind_eq_some_iff.mp H
   obtain ⟨t356, A60, H⟩ := H
   replace H : ((polymod_bounded.f k t356).bind fun bt359 => (some (bt359.1, bt359.2))) = some (r1, r2) := H
   have A6 := Aside0.mk A60
   clear A60
   replace H := Option.bind_eq_some_iff.mp H
   obtain ⟨⟨t359, t362⟩, A70, H⟩ := H
   replace H : (some (t359, t362)) = some (r1, r2) := H
   have A7 := Aside0.mk A70
   clear A70
   simp only [Option.some.injEq, Prod.mk.injEq] at H
   obtain ⟨rfl, rfl⟩ := H
   go_enter Try.func18, Try.ntmps18
   go_wp2_with (first | ((with_reducible refine gate_dst (N := 12) rfl ?_); refine Kd.N_lit (Kd.slice 3 (Kd.int .i64)) _ 23 ?hg (N' := 12) ?hd (xs := ([l1, l2] : List (List Int))) (inner := [.slice A1 l1.length c1, .slice A2 l2.length c2]) (ok := (fun k_ => ((P1_ k_ ∨ P2_ k_) ∨ w.heap.size ≤ k_))) (okp := (fun k_ => ((P1_ k_ ∨ P2_ k_) ∨ w.heap.size ≤ k_))) ?hr ?hp (fun _ hk => hk) ((show ∀ k_, w.heap.size ≤ k_ → (fun k_ => ((P1_ k_ ∨ P2_ k_) ∨ w.heap.size ≤ k_)) k_ from fun k_ hk => (.inr (Nat.le_trans (below_size (by with_reducible repeat (first | exact HB.out | apply bA | apply bB | apply bC))) hk))) _ (Nat.le_refl _)) (Below.refl _ _) (Nat.le_refl _) (by simp) ?_; (case hd => rfl); (case hg => rfl); (case hr => first | (go_simp; done) | (go_simp; rfl)); (case hp => exact (Reps.one (show Kd.FK (Kd.slice 3 (Kd.int .i64)) _ _ l1 [.slice A1 l1.length c1] from (Kd.FK_slice_mk (Kd.V_reads' (Kd.V_mono (ok' := (fun k_ => ((P1_ k_ ∨ P2_ k_) ∨ w.heap.size ≤ k_))) (HO1.out) (fun k_ hk => hk))).2.1 (Kd.V_F (Kd.V_mono (ok' := (fun k_ => ((P1_ k_ ∨ P2_ k_) ∨ w.heap.size ≤ k_))) (HO1.out) (fun k_ hk => hk))))) (Reps.one (show Kd.FK (Kd.slice 3 (Kd.int .i64)) _ _ l2 [.slice A2 l2.length c2] from (Kd.FK_slice_mk (Kd.V_reads' (Kd.V_mono (ok' := (fun k_ => ((P1_ k_ ∨ P2_ k_) ∨ w.heap.size ≤ k_))) (HO2.out) (fun k_ hk => hk))).2.1 (Kd.V_F (Kd.V_mono (ok' := (fun k_ => ((P1_ k_ ∨ P2_ k_) ∨ w.heap.size ≤ k_))) (HO2.out) (fun k_ hk => hk))))) (Reps.none _ _)))); intro v353 w8 ho9 hb hg_ hnew_; clear hg_ hnew_; (first | rw [← Ny352.out] at ho9 | (simp only [Int.reduceToNat] at ho9; rw [← Ny352.out] at ho9)); have n0_ := Aside0.mk (Kd.V_elder' (by (with_reducible repeat (first | apply vA | apply vB | apply vC)); exact HO1.out) (Kd.N_base ho9) hb); have n1_ := Aside0.mk (Kd.V_elder' (by (with_reducible repeat (first | apply vA | apply vB | apply vC)); exact HO2.out) (Kd.N_base ho9) hb); have n2_ := Aside0.mk (Kd.N_lower ho9 (below_size (by with_reducible repeat (first | exact HB.out | apply bA | apply bB | apply bC)))); have n3_ := Aside0.mk (below_step (by with_reducible repeat (first | exact HB.out | apply bA | apply bB | apply bC)) hb); clear HO1; clear HO2; clear HB; have HO1 := n0_; have HO2 := n1_; have HO354 := n2_; have HB := n3_; clear n0_ n1_ n2_ n3_; clear hb ho9; obtain ⟨Ao10, co10, eo10⟩ := Kd.N_slice HO354.out; subst eo10) | ((with_reducible refine gate_callee (f := 60) rfl ?_); refine goesL_ (some 13) rfl rfl Try.func60 (by kernel_rfl) rfl #[.int .i64 a0, .slice Ao10 y352.length co10] rfl (by (try simp only [mA, mB, mC]); first | done | rfl | (simp only [lD, lT]; rfl)) ?_; (with_reducible refine (polymod_first.calls k a0 _ _ y352 t355 _ ?side1 ?side2 A4.out).mono ?_); (case side1 => repeat (first | exact (Kd.N_reads' HO354.out).2.2 | (with_reducible refine Kd.C_alloc ?_ _) | (with_reducible refine Kd.C_drewN ?_ _) | (with_reducible refine Kd.C_drew ?_))); (case side2 => exact (Kd.N_reads' HO354.out).2.1); rintro e w11 ⟨rfl, hb⟩; refine ⟨_, rfl, ?_⟩; have n0_ := Aside0.mk (Kd.V_below (by (with_reducible repeat (first | apply vA | apply vB | apply vC)); exact HO1.out) hb); have n1_ := Aside0.mk (Kd.V_below (by (with_reducible repeat (first | apply vA | apply vB | apply vC)); exact HO2.out) hb); have n2_ := Aside0.mk (Kd.N_below (by (with_reducible repeat (first | apply Kd.N_alloc | apply Kd.N_drewN | apply Kd.N_drew)); exact HO354.out) hb); have n3_ := Aside0.mk (below_step (by with_reducible repeat (first | exact HB.out | apply bA | apply bB | apply bC)) hb); clear HO1; clear HO2; clear HO354; clear HB; have HO1 := n0_; have HO2 := n1_; have HO354 := n2_; have HB := n3_; clear n0_ n1_ n2_ n3_; (try clear hb); (try clear hb2); (try clear hk); (try clear hi)) | ((with_reducible refine gate_callee (f := 67) rfl ?_); refine goesL_ (some 20) rfl rfl Try.func67 (by kernel_rfl) rfl #[.int .i64 a0, .slice A1 l1.length c1, .slice A2 l2.length c2] rfl (by (try simp only [mA, mB, mC]); first | done | rfl | (simp only [lD, lT]; rfl)) ?_; (with_reducible refine (fp_Mul.calls k a0 _ _ l1 _ _ l2 t356 _ ?side1 ?side2 ?side3 ?side4 A6.out).mono ?_); (case side1 => repeat (first | exact (Kd.V_reads' HO1.out).2.2 | (with_reducible refine Kd.C_alloc ?_ _) | (with_reducible refine Kd.C_drewN ?_ _) | (with_reducible refine Kd.C_drew ?_))); (case side2 => exact (Kd.V_reads' HO1.out).2.1); (case side3 => repeat (first | exact (Kd.V_reads' HO2.out).2.2 | (with_reducible refine Kd.C_alloc ?_ _) | (with_reducible refine Kd.C_drewN ?_ _) | (with_reducible refine Kd.C_drew ?_))); (case side4 => exact (Kd.V_reads' HO2.out).2.1); rintro e w12 ⟨v357, rfl, ho0, hb⟩; refine ⟨_, rfl, ?_⟩; have n0_ := Aside0.mk (Kd.V_below (by (with_reducible repeat (first | apply vA | apply vB | apply vC)); exact HO1.out) hb); have n1_ := Aside0.mk (Kd.V_below (by (with_reducible repeat (first | apply vA | apply vB | apply vC)); exact HO2.out) hb); have n2_ := Aside0.mk (Kd.N_below (by (with_reducible repeat (first | apply Kd.N_alloc | apply Kd.N_drewN | apply Kd.N_drew)); exact HO354.out) hb); have n3_ := Aside0.mk (Kd.V_lower (Kd.V_mono (ok' := fun k_ => ((P1_ k_ ∨ P2_ k_) ∨ w.heap.size ≤ k_) ∧ some k_ ≠ (.slice Ao10 y352.length co10 : Value).ownBlock) ho0 (fun k_ hk_ => ⟨(.inr (Nat.le_trans (below_size (by with_reducible repeat (first | exact HB.out | apply bA | apply bB | apply bC))) hk_)), (Kd.fresh' (Kd.N_lt (by (with_reducible repeat (first | apply Kd.N_alloc | apply Kd.N_drewN | apply Kd.N_drew)); exact HO354.out)) k_ hk_)⟩)) (below_size (by with_reducible repeat (first | exact HB.out | apply bA | apply bB | apply bC)))); have n4_ := Aside0.mk (below_step (by with_reducible repeat (first | exact HB.out | apply bA | apply bB | apply bC)) hb); clear HO1; clear HO2; clear HO354; clear HB; have HO1 := n0_; have HO2 := n1_; have HO354 := n2_; have HO358 := n3_; have HB := n4_; clear n0_ n1_ n2_ n3_ n4_; (try clear hb); (try clear hb2); (try clear hk); (try clear hi); (try clear ho0); obtain ⟨Ao13, co13, eo13⟩ := Kd.V_slice HO358.out; subst eo13) | ((with_reducible refine gate_callee (f := 66) rfl ?_); refine goesL_ (some 21) rfl rfl Try.func66 (by kernel_rfl) rfl #[.slice Ao13 t356.length co13] rfl (by (try simp only [mA, mB, mC]); first | done | rfl | (simp only [lD, lT]; rfl)) ?_; (with_reducible refine (polymod_bounded.calls k (fun k_ => (((P1_ k_ ∨ P2_ k_) ∨ w.heap.size ≤ k_) ∧ some k_ ≠ (.slice Ao10 y352.length co10 : Value).ownBlock)) _ _ t356 t359 t362 _ ?side1 A7.out).mono ?_); (case side1 => exact HO358.out); rintro e w14 ⟨v360, rfl, ho0, hb⟩; refine ⟨_, rfl, ?_⟩; have n0_ := Aside0.mk (Kd.V_below (by (with_reducible repeat (first | apply vA | apply vB | apply vC)); exact HO1.out) hb); have n1_ := Aside0.mk (Kd.V_below (by (with_reducible repeat (first | apply vA | apply vB | apply vC)); exact HO2.out) hb); have n2_ := Aside0.mk (Kd.N_below (by (with_reducible repeat (first | apply Kd.N_alloc | apply Kd.N_drewN | apply Kd.N_drew)); exact HO354.out) hb); have n3_ := Aside0.mk (Kd.V_below (by (with_reducible repeat (first | apply vA | apply vB | apply vC)); exact HO358.out) hb); have n4_ := Aside0.mk (Kd.V_lower (Kd.V_mono (ok' := fun k_ => ((P1_ k_ ∨ P2_ k_) ∨ w.heap.size ≤ k_) ∧ some k_ ≠ (.slice Ao10 y352.length co10 : Value).ownBlock) ho0 (fun k_ hk_ => ⟨Or.elim hk_ (fun hs_ => hs_.1) (fun hn_ => (.inr (Nat.le_trans (below_size (by with_reducible repeat (first | exact HB.out | apply bA | apply bB | apply bC))) hn_))), Or.elim hk_ (fun hs_ => hs_.2) (fun hn_ => (Kd.fresh' (Kd.N_lt (by (with_reducible repeat (first | apply Kd.N_alloc | apply Kd.N_drewN | apply Kd.N_drew)); exact HO354.out)) k_ hn_))⟩)) (below_size (by with_reducible repeat (first | exact HB.out | apply bA | apply bB | apply bC)))); have n5_ := Aside0.mk (below_step (by with_reducible repeat (first | exact HB.out | apply bA | apply bB | apply bC)) hb); clear HO1; clear HO2; clear HO354; clear HO358; clear HB; have HO1 := n0_; have HO2 := n1_; have HO354 := n2_; have HO358 := n3_; have HO361 := n4_; have HB := n5_; clear n0_ n1_ n2_ n3_ n4_ n5_; (try clear hb); (try clear hb2); (try clear hk); (try clear hi); (try clear ho0)))
   go_ret2
   exact ⟨_, by first | rfl | (simp [errW_none, errW_some] <;> rfl) | (simp [*, errW_none, errW_some] <;> rfl), by (with_reducible repeat (first | apply vA | apply vB | apply vC)); exact Kd.V_mono HO361.out (fun _ hk => hk.1), by with_reducible repeat (first | exact HB.out | apply bA | apply bB | apply bC)⟩
 · rw [if_neg c5] at H
   have c5b0 : (t355 == 0) = false := beq_eq_false_iff_ne.mpr c5
   have c5b1 : (t355 != 0) = true := bne_iff_ne.mpr c5
   simp only [Option.some.injEq, Prod.mk.injEq] at H
   obtain ⟨rfl, rfl⟩ := H
   go_enter Try.func18, Try.ntmps18
   go_wp2_with (first | ((with_reducible refine gate_dst (N := 12) rfl ?_); refine Kd.N_lit (Kd.slice 3 (Kd.int .i64)) _ 23 ?hg (N' := 12) ?hd (xs := ([l1, l2] : List (List Int))) (inner := [.slice A1 l1.length c1, .slice A2 l2.length c2]) (ok := (fun k_ => ((P1_ k_ ∨ P2_ k_) ∨ w.heap.size ≤ k_))) (okp := (fun k_ => ((P1_ k_ ∨ P2_ k_) ∨ w.heap.size ≤ k_))) ?hr ?hp (fun _ hk => hk) ((show ∀ k_, w.heap.size ≤ k_ → (fun k_ => ((P1_ k_ ∨ P2_ k_) ∨ w.heap.size ≤ k_)) k_ from fun k_ hk => (.inr (Nat.le_trans (below_size (by with_reducible repeat (first | exact HB.out | apply bA | apply bB | apply bC))) hk))) _ (Nat.le_refl _)) (Below.refl _ _) (Nat.le_refl _) (by simp) ?_; (case hd => rfl); (case hg => rfl); (case hr => first | (go_simp; done) | (go_simp; rfl)); (case hp => exact (Reps.one (show Kd.FK (Kd.slice 3 (Kd.int .i64)) _ _ l1 [.slice A1 l1.length c1] from (Kd.FK_slice_mk (Kd.V_reads' (Kd.V_mono (ok' := (fun k_ => ((P1_ k_ ∨ P2_ k_) ∨ w.heap.size ≤ k_))) (HO1.out) (fun k_ hk => hk))).2.1 (Kd.V_F (Kd.V_mono (ok' := (fun k_ => ((P1_ k_ ∨ P2_ k_) ∨ w.heap.size ≤ k_))) (HO1.out) (fun k_ hk => hk))))) (Reps.one (show Kd.FK (Kd.slice 3 (Kd.int .i64)) _ _ l2 [.slice A2 l2.length c2] from (Kd.FK_slice_mk (Kd.V_reads' (Kd.V_mono (ok' := (fun k_ => ((P1_ k_ ∨ P2_ k_) ∨ w.heap.size ≤ k_))) (HO2.out) (fun k_ hk => hk))).2.1 (Kd.V_F (Kd.V_mono (ok' := (fun k_ => ((P1_ k_ ∨ P2_ k_) ∨ w.heap.size ≤ k_))) (HO2.out) (fun k_ hk => hk))))) (Reps.none _ _)))); intro v353 w15 ho16 hb hg_ hnew_; clear hg_ hnew_; (first | rw [← Ny352.out] at ho16 | (simp only [Int.reduceToNat] at ho16; rw [← Ny352.out] at ho16)); have n0_ := Aside0.mk (Kd.V_elder' (by (with_reducible repeat (first | apply vA | apply vB | apply vC)); exact HO1.out) (Kd.N_base ho16) hb); have n1_ := Aside0.mk (Kd.V_elder' (by (with_reducible repeat (first | apply vA | apply vB | apply vC)); exact HO2.out) (Kd.N_base ho16) hb); have n2_ := Aside0.mk (Kd.N_lower ho16 (below_size (by with_reducible repeat (first | exact HB.out | apply bA | apply bB | apply bC)))); have n3_ := Aside0.mk (below_step (by with_reducible repeat (first | exact HB.out | apply bA | apply bB | apply bC)) hb); clear HO1; clear HO2; clear HB; have HO1 := n0_; have HO2 := n1_; have HO354 := n2_; have HB := n3_; clear n0_ n1_ n2_ n3_; clear hb ho16; obtain ⟨Ao17, co17, eo17⟩ := Kd.N_slice HO354.out; subst eo17) | ((with_reducible refine gate_callee (f := 60) rfl ?_); refine goesL_ (some 13) rfl rfl Try.func60 (by kernel_rfl) rfl #[.int .i64 a0, .slice Ao17 y352.length co17] rfl (by (try simp only [mA, mB, mC]); first | done | rfl | (simp only [lD, lT]; rfl)) ?_; (with_reducible refine (polymod_first.calls k a0 _ _ y352 t355 _ ?side1 ?side2 A4.out).mono ?_); (case side1 => repeat (first | exact (Kd.N_reads' HO354.out).2.2 | (with_reducible refine Kd.C_alloc ?_ _) | (with_reducible refine Kd.C_drewN ?_ _) | (with_reducible refine Kd.C_drew ?_))); (case side2 => exact (Kd.N_reads' HO354.out).2.1); rintro e w18 ⟨rfl, hb⟩; refine ⟨_, rfl, ?_⟩; have n0_ := Aside0.mk (Kd.V_below (by (with_reducible repeat (first | apply vA | apply vB | apply vC)); exact HO1.out) hb); have n1_ := Aside0.mk (Kd.V_below (by (with_reducible repeat (first | apply vA | apply vB | apply vC)); exact HO2.out) hb); have n2_ := Aside0.mk (Kd.N_below (by (with_reducible repeat (first | apply Kd.N_alloc | apply Kd.N_drewN | apply Kd.N_drew)); exact HO354.out) hb); have n3_ := Aside0.mk (below_step (by with_reducible repeat (first | exact HB.out | apply bA | apply bB | apply bC)) hb); clear HO1; clear HO2; clear HO354; clear HB; have HO1 := n0_; have HO2 := n1_; have HO354 := n2_; have HB := n3_; clear n0_ n1_ n2_ n3_; (try clear hb); (try clear hb2); (try clear hk); (try clear hi)))
   go_ret2
   exact ⟨_, by first | rfl | (simp [errW_none, errW_some] <;> rfl) | (simp [*, errW_none, errW_some] <;> rfl), (Kd.V_nil _ _ _ _ _), by with_reducible repeat (first | exact HB.out | apply bA | apply bB | apply bC)⟩

/-! ### fp_Xgcd: function 75 -/
def fp_Xgcd.l0 : Nat → Int → List Int → List Int → List Int → List Int → List Int → List Int → Option (List Int × List Int × List Int)
 | 0, _, _, _, _, _, _, _ => none
 | k + 1, x0, x1, x2, x9, x10, x11, x12 => if (x10.length : Int) > 0 then ((fp_DivMod.f k x0 x9 x10).bind fun bt374 => ((fp_Mul.f k x0 bt374.1 x12).bind fun t380 => ((fp_Sub.f k x0 x11 t380).bind fun t383 => (fp_Xgcd.l0 k x0 x1 x2 x10 bt374.2 x12 t383)))) else (if 0 ≤ (wrap64 ((x9.length : Int) - 1)) then (if (wrap64 ((x9.length : Int) - 1)) < (x9.length : Int) then ((fp_Inv.f k x0 (rd x9 (wrap64 ((x9.length : Int) - 1)))).bind fun t387 => ((fp_Scale.f k x0 x9 t387).bind fun t388 => ((fp_DivMod.f k x0 x2 t388).bind fun bt391 => ((fp_Scale.f k x0 x11 t387).bind fun t397 => ((fp_Rem.f k x0 t397 bt391.1).bind fun t400 => ((fp_Mul.f k x0 t400 x1).bind fun t403 => ((fp_Sub.f k x0 t388 t403).bind fun t406 => ((fp_DivMod.f k x0 t406 x2).bind fun bt409 => (some (t388, t400, bt409.1)))))))))) else (none)) else (none))
def fp_Xgcd.f (k : Nat) (a0 : Int) (l1 : List Int) (l2 : List Int) : Option (List Int × List Int × List Int) := if (l2.length : Int) = 0 then (if (l1.length : Int) = 0 then (some (([] : List Int), ([] : List Int), ([] : List Int))) else ((fp_Monic.f k a0 l1).bind fun t363 => (if 0 ≤ (wrap64 ((l1.length : Int) - 1)) then (if (wrap64 ((l1.length : Int) - 1)) < (l1.length : Int) then ((fp_Inv.f k a0 (rd l1 (wrap64 ((l1.length : Int) - 1)))).bind fun t367 => (some (t363, (([t367] : List Int)), ([] : List Int)))) else (none)) else (none)))) else (fp_Xgcd.l0 k a0 l1 l2 l1 l2 (([1] : List Int)) ([] : List Int))
theorem fp_Xgcd.mono_l : ∀ k, (∀ y0 y1 y2 y3 y4 y5 y6, LeO (fp_Xgcd.l0 k y0 y1 y2 y3 y4 y5 y6) (fp_Xgcd.l0 (k + 1) y0 y1 y2 y3 y4 y5 y6))
 | 0 => fun _ _ _ _ _ _ _ r h => by simp [fp_Xgcd.l0] at h
 | k + 1 => by
   have ih0 := fp_Xgcd.mono_l k
   · intro y0 y1 y2 y3 y4 y5 y6
     unfold fp_Xgcd.l0
     repeat' first
     | (with_reducible apply ih0)
     | (with_reducible apply fp_DivMod.mono)
     | (with_reducible apply fp_Inv.mono)
     | (with_reducible apply fp_Monic.mono)
     | (with_reducible apply fp_Mul.mono)
     | (with_reducible apply fp_Rem.mono)
     | (with_reducible apply fp_Scale.mono)
     | (with_reducible apply fp_Sub.mono)
     | (with_reducible apply LeO.refl)
     | (with_reducible apply LeO.none)
     | (with_reducible refine LeO.ite ?_ ?_)
     | (with_reducible refine LeO.bind ?_ (fun _ => ?_))
theorem fp_Xgcd.mono : ∀ a0 a1 a2 k, LeO (fp_Xgcd.f k a0 a1 a2) (fp_Xgcd.f (k + 1) a0 a1 a2) := by
 intro a0 a1 a2 k
 have ih0 := fp_Xgcd.mono_l k
 unfold fp_Xgcd.f
 repeat' first
  | (with_reducible apply ih0)
  | (with_reducible apply fp_DivMod.mono)
  | (with_reducible apply fp_Inv.mono)
  | (with_reducible apply fp_Monic.mono)
  | (with_reducible apply fp_Mul.mono)
  | (with_reducible apply fp_Rem.mono)
  | (with_reducible apply fp_Scale.mono)
  | (with_reducible apply fp_Sub.mono)
  | (with_reducible apply LeO.refl)
  | (with_reducible apply LeO.none)
  | (with_reducible refine LeO.ite ?_ ?_)
  | (with_reducible refine LeO.bind ?_ (fun _ => ?_))
def fp_Xgcd.T4 : Bool × List (List Nat × List Nat) := (true, [([], []), ([], []), ([0, 1], [0, 1]), ([], []), ([], []), ([], []), ([5], [5]), ([6], [6]), ([4, 7], [4, 7]), ([8], [8]), ([3, 9, 2], [3, 9]), ([10], [10]), ([2, 10, 0, 1, 2], [2]), ([11, 12, 0, 1, 2, 3, 4, 5, 6, 7, 8, 9, 10, 11, 12], [11]), ([13, 0, 1, 2, 3, 4, 5, 6, 7, 8, 9, 10, 11, 12, 13], [])])
def fp_Xgcd.B4 : List Nat := [0, 0, 3, 0, 0, 0, 32, 96, 240, 496, 1023, 2047, 2047, 8191, 16383]
theorem fp_Xgcd.tab4 : rtab .any (opsOf Try.f75 4) = fp_Xgcd.T4 := by kernel_rfl
theorem fp_Xgcd.bits4 : waitsOk fp_Xgcd.T4.2 fp_Xgcd.B4 = true := by kernel_rfl
set_option maxHeartbeats 8000000 in
set_option maxRecDepth 100000 in
theorem fp_Xgcd.calls (k : Nat) (a0 : Int) (P1_ : Nat → Prop) (A1 : Option Addr) (c1 : Nat) (l1 : List Int) (P2_ : Nat → Prop) (A2 : Option Addr) (c2 : Nat) (l2 : List Int) (r1 : List Int) (r2 : List Int) (r3 : List Int) (w : World) (hs1 : Kd.V (Kd.int .i64) 3 w w.heap.size (fun k_ => P1_ k_) (.slice A1 l1.length c1) l1) (hs2 : Kd.V (Kd.int .i64) 3 w w.heap.size (fun k_ => P2_ k_) (.slice A2 l2.length c2) l2) (h : fp_Xgcd.f k a0 l1 l2 = some (r1, r2, r3)) :
 Calls Try.prog 75 #[.int .i64 a0, .slice A1 l1.length c1, .slice A2 l2.length c2] w fun e w' => ∃ v0_ v1_ v2_ : Value, e = .returned (.tuple #[v0_, v1_, v2_]) ∧ Kd.V (Kd.int .i64) 3 w' w.heap.size (fun k_ => ((P1_ k_ ∨ P2_ k_) ∨ w.heap.size ≤ k_)) v0_ r1 ∧ Kd.V (Kd.int .i64) 3 w' w.heap.size (fun k_ => ((P1_ k_ ∨ P2_ k_) ∨ w.heap.size ≤ k_)) v1_ r2 ∧ Kd.V (Kd.int .i64) 3 w' w.heap.size (fun k_ => ((P1_ k_ ∨ P2_ k_) ∨ w.heap.size ≤ k_)) v2_ r3 ∧ Below w.heap.size w w' := by
 have HO1 := Aside0.mk (show Kd.V (Kd.int .i64) 3 w w.heap.size (fun k_ => ((P1_ k_ ∨ P2_ k_) ∨ w.heap.size ≤ k_)) (.slice A1 l1.length c1) l1 from Kd.V_mono hs1 (fun k_ hk => .inl (.inl hk)))
 have HO2 := Aside0.mk (show Kd.V (Kd.int .i64) 3 w w.heap.size (fun k_ => ((P1_ k_ ∨ P2_ k_) ∨ w.heap.size ≤ k_)) (.slice A2 l2.length c2) l2 from Kd.V_mono hs2 (fun k_ hk => .inl (.inr hk)))
 have HB := Aside0.mk (Below.refl w.heap.size w)
 have H : (if (l2.length : Int) = 0 then (if (l1.length : Int) = 0 then (some (([] : List Int), ([] : List Int), ([] : List Int))) else ((fp_Monic.f k a0 l1).bind fun t363 => (if 0 ≤ (wrap64 ((l1.length : Int) - 1)) then (if (wrap64 ((l1.length : Int) - 1)) < (l1.length : Int) then ((fp_Inv.f k a0 (rd l1 (wrap64 ((l1.length : Int) - 1)))).bind fun t367 => (some (t363, (([t367] : List Int)), ([] : List Int)))) else (none)) else (none)))) else (fp_Xgcd.l0 k a0 l1 l2 l1 l2 (([1] : List Int)) ([] : List Int))) = some (r1, r2, r3) := h
 clear h
 by_cases c4 : (l2.length : Int) = 0
 · rw [if_pos c4] at H
   have c4b0 : ((l2.length : Int) == 0) = true := beq_iff_eq.mpr c4
   have c4b1 : ((l2.length : Int) != 0) = false := bne_eq_false_iff_eq.mpr c4
   clear c4
   by_cases c5 : (l1.length : Int) = 0
   · rw [if_pos c5] at H
     have c5b0 : ((l1.length : Int) == 0) = true := beq_iff_eq.mpr c5
     have c5b1 : ((l1.length : Int) != 0) = false := bne_eq_false_iff_eq.mpr c5
     clear c5
     simp only [Option.some.injEq, Prod.mk.injEq] at H
     obtain ⟨rfl, rfl, rfl⟩ := H
     go_enter Try.func75, Try.ntmps75
     go_wp2
     go_ret3
     exact ⟨_, _, _, by first | rfl | (simp [errW_none, errW_some] <;> rfl) | (simp [*, errW_none, errW_some] <;> rfl), (Kd.V_nil _ _ _ _ _), (Kd.V_nil _ _ _ _ _), (Kd.V_nil _ _ _ _ _), by with_reducible repeat (first | exact HB.out | apply bA | apply bB | apply bC)⟩
   · rw [if_neg c5] at H
     have c5b0 : ((l1.length : Int) == 0) = false := beq_eq_false_iff_ne.mpr c5
     have c5b1 : ((l1.length : Int) != 0) = true := bne_iff_ne.mpr c5
     have c5b2 : ¬ (l1 = []) := fun h_ => c5 (by rw [h_]; rfl)
     replace H := Option.bind_eq_some_iff.mp H
     obtain ⟨t363, A60, H⟩ := H
     replace H : (if 0 ≤ (wrap64 ((l1.length : Int) - 1)) then (if (wrap64 ((l1.length : Int) - 1)) < (l1.length : Int) then ((fp_Inv.f k a0 (rd l1 (wrap64 ((l1.length : Int) - 1)))).bind fun t367 => (some (t363, (([t367] : List Int)), ([] : List Int)))) else (none)) else (none)) = some (r1, r2, r3) := H
     have A6 := Aside0.mk A60
     clear A60
     obtain ⟨ji7, hji7⟩ : ∃ j_ : Int, (wrap64 ((l1.length : Int) - 1)) = j_ := ⟨_, rfl⟩
     replace H : (if 0 ≤ (ji7) then (if (ji7) < (l1.length : Int) then ((fp_Inv.f k a0 (rd l1 (ji7))).bind fun t367 => (some (t363, (([t367] : List Int)), ([] : List Int)))) else (none)) else (none)) = some (r1, r2, r3) := by first | (rw [hji7] at H; exact H) | (simp only [hji7] at H ⊢; exact H)
     (try rw [hji7] at A6)
     have hji7w : (IntKind.i64.wrap ((l1.length : Int) - 1)) = ji7 := (i64_w _).trans hji7
     by_cases c8 : 0 ≤ (ji7)
     · rw [if_pos c8] at H
       have c8b0 : decide (0 ≤ (ji7)) = true := decide_eq_true c8
       clear c8
       by_cases c9 : (ji7) < (l1.length : Int)
       · rw [if_pos c9] at H
         have c9b0 : decide ((ji7) < (l1.length : Int)) = true := decide_eq_true c9
         clear c9
         replace H := Option.bind_eq_some_iff.mp H
         obtain ⟨t367, A100, H⟩ := H
         replace H : (some (t363, (([t367] : List Int)), ([] : List Int))) = some (r1, r2, r3) := H
         have A10 := Aside0.mk A100
         clear A100
         obtain ⟨y368, hy368⟩ : ∃ y_ : List Int, y_ = (([t367] : List Int)) := ⟨_, rfl⟩
         replace H : (some (t363, y368, ([] : List Int))) = some (r1, r2, r3) := by first | (rw [hy368]; with_reducible exact H) | (have H2_ := (Option.bind_some _ _).symm.trans H; rw [hy368]; with_reducible exact H2_) | (have H2_ := (Option.bind_some _ _).symm.trans H; with_reducible exact H2_) | with_reducible exact H | (rw [hy368]; exact H) | exact H
         have Ny368 := Aside0.mk hy368
         clear hy368
         simp only [Option.some.injEq, Prod.mk.injEq] at H
         obtain ⟨rfl, rfl, rfl⟩ := H
         go_enter Try.func75, Try.ntmps75
         try go_wp2
         have n0_ := Aside0.mk (Kd.V_drew HO1.out)
         have n1_ := Aside0.mk (Kd.V_drew HO2.out)
         have n2_ := Aside0.mk (below_drew1 HB.out)
         clear HO1
         clear HO2
         clear HB
         have HO1 := n0_
         have HO2 := n1_
         have HB := n2_
         clear n0_ n1_ n2_
         have p366 : 0 ≤ ((ji7) : Int) := of_decide_eq_true (by first | (with_reducible assumption) | assumption)
         have q366 : (ji7) < (l1.length : Int) := of_decide_eq_true (by first | (with_reducible assumption) | assumption)
         obtain ⟨ad366, e366, hx366_0⟩ := Kd.at_int (Kd.V_reads' HO1.out).2.2 (ji7) p366 q366
         cases e366
         replace p366 := eq_true p366
         replace q366 := eq_true q366
         refine start_ (n := 15) (S := fun w' => w'.cell? (ad366.add ((ji7)).toNat) = some (.int .i64 (rd l1 (ji7)))) (ds := []) #[false, false, false, false, false, false, false, false, false, false, false, false, false, false, false] (by kernel_rfl) rfl rfl (hx366_0) (fun hHeld => ?_); refine with_tabW fp_Xgcd.tab4 fp_Xgcd.bits4 (fun HT_ HW_ => ?_)
         generalize w.drew = w11 at HO1 HO2 HB hx366_0 hHeld ⊢
         refine pure_ (i := 0) (N := some 27) (v := ?_) (a' := ?_) #[true, false, false, false, false, false, false, false, false, false, false, false, false, false, false] rfl rfl (any_of HT_.out (by kernel_rfl)) (fun _ _ _ h => h) (Or.inl ⟨by rfl, ?_⟩) ?_ ?_
         rotate_left
         · intro w'
           go_simp
           with_reducible rfl
         rotate_left
         · simp only [Act.put, List.setIfInBounds_toArray, List.set_cons_zero, List.set_cons_succ, i64_w, i32_w]
           rfl
         refine pure_ (i := 1) (N := some 28) (v := ?_) (a' := ?_) #[true, true, false, false, false, false, false, false, false, false, false, false, false, false, false] rfl rfl (any_of HT_.out (by kernel_rfl)) (fun _ _ _ h => h) (Or.inl ⟨by rfl, ?_⟩) ?_ ?_
         rotate_left
         · intro w'
           go_simp
           with_reducible rfl
         rotate_left
         · simp only [Act.put, List.setIfInBounds_toArray, List.set_cons_zero, List.set_cons_succ, i64_w, i32_w]
           rfl
         refine pure_ (i := 3) (N := some 30) (v := ?_) (a' := ?_) #[true, true, false, true, false, false, false, false, false, false, false, false, false, false, false] rfl rfl (any_of HT_.out (by kernel_rfl)) (fun _ _ _ h => h) (Or.inl ⟨by rfl, ?_⟩) ?_ ?_
         rotate_left
         · intro w'
           go_simp
           with_reducible rfl
         rotate_left
         · simp only [Act.put, List.setIfInBounds_toArray, List.set_cons_zero, List.set_cons_succ, i64_w, i32_w]
           rfl
         refine pure_ (i := 4) (N := some 31) (v := ?_) (a' := ?_) #[true, true, false, true, true, false, false, false, false, false, false, false, false, false, false] rfl rfl (any_of HT_.out (by kernel_rfl)) (fun _ _ _ h => h) (Or.inl ⟨by rfl, ?_⟩) ?_ ?_
         rotate_left
         · intro w'
           go_simp
           with_reducible rfl
         rotate_left
         · simp only [Act.put, List.setIfInBounds_toArray, List.set_cons_zero, List.set_cons_succ, i64_w, i32_w]
           rfl
         refine pure_ (i := 5) (N := some 32) (v := ?_) (a' := ?_) #[true, true, false, true, true, true, false, false, false, false, false, false, false, false, false] rfl rfl (any_of HT_.out (by kernel_rfl)) (fun _ _ _ h => h) (Or.inl ⟨by rfl, ?_⟩) ?_ ?_
         rotate_left
         · intro w'
           go_simp
           with_reducible rfl
         rotate_left
         · simp only [Act.put, List.setIfInBounds_toArray, List.set_cons_zero, List.set_cons_succ, i64_w, i32_w]
           rfl
         refine pure_ (i := 6) (N := some 33) (v := ?_) (a' := ?_) #[true, true, false, true, true, true, true, false, false, false, false, false, false, false, false] rfl rfl (any_of HT_.out (by kernel_rfl)) (fun _ _ _ h => h) (Or.inl ⟨by rfl, ?_⟩) ?_ ?_
         rotate_left
         · intro w'
           go_simp
           with_reducible rfl
         rotate_left
         · simp only [Act.put, List.setIfInBounds_toArray, List.set_cons_zero, List.set_cons_succ, i64_w, i32_w]
           rfl
         refine pure_ (i := 7) (N := some 34) (v := ?_) (a' := ?_) #[true, true, false, true, true, true, true, true, false, false, false, false, false, false, false] rfl rfl (any_of HT_.out (by kernel_rfl)) (fun _ _ _ h => h) (Or.inl ⟨by rfl, ?_⟩) ?_ ?_
         rotate_left
         · intro w'
           go_simp
           with_reducible rfl
         rotate_left
         · simp only [Act.put, List.setIfInBounds_toArray, List.set_cons_zero, List.set_cons_succ, i64_w, i32_w]
           rfl
         refine pure_ (i := 8) (N := some 35) (v := ?_) (a' := ?_) #[true, true, false, true, true, true, true, true, true, false, false, false, false, false, false] rfl rfl (any_of HT_.out (by kernel_rfl)) (fun _ _ _ h => h) (Or.inl ⟨by rfl, ?_⟩) ?_ ?_
         rotate_left
         · intro w'
           go_simp
           with_reducible rfl
         rotate_left
         · simp only [Act.put, List.setIfInBounds_toArray, List.set_cons_zero, List.set_cons_succ, i64_w, i32_w]
           rfl
         refine take_ (i := 9) (N := some 36) (v := ?_) (a' := ?_) #[true, true, false, true, true, true, true, true, true, true, false, false, false, false, false] rfl rfl (take_ofW HT_.out HW_.out (by kernel_rfl)) (fun _ _ _ h => h) (Or.inl ⟨by rfl, ?_⟩) hHeld ?_ ?_
         rotate_left
         · intro w' s0
           go_simp
           with_reducible rfl
         rotate_left
         · simp only [Act.put, List.setIfInBounds_toArray, List.set_cons_zero, List.set_cons_succ, i64_w, i32_w]
           rfl
         refine one_ (i := 2) (N := some 29) #[true, true, true, true, true, true, true, true, true, true, false, false, false, false, false] rfl rfl (one_of HT_.out (by kernel_rfl)) (by decide) (fun K hK => ?_)
         refine goes_ Try.func80 (by kernel_rfl) rfl #[.int .i64 a0, .slice (some ad366) l1.length c1] (by rfl) rfl rfl (by (try simp only [mA, mB, mC]); first | done | rfl | (simp only [lD, lT]; rfl)) ?_
         with_reducible refine (fp_Monic.calls k a0 _ _ l1 t363 _ ?side1 ?side2 A6.out).mono ?_
         (case side1 => repeat (first | exact (Kd.V_reads' HO1.out).2.2 | (with_reducible refine Kd.C_alloc ?_ _) | (with_reducible refine Kd.C_drewN ?_ _) | (with_reducible refine Kd.C_drew ?_)))
         (case side2 => exact (Kd.V_reads' HO1.out).2.1)
         rintro e w12 ⟨v364, rfl, ho0, hb⟩
         have HS0_ := (hb.cell (World.block_lt_of_cell? _ _ (hHeld))).trans (hHeld)
         refine ⟨_, rfl, ?_⟩
         have n0_ := Aside0.mk (Kd.V_below (by (with_reducible repeat (first | apply vA | apply vB | apply vC)); exact HO1.out) hb)
         have n1_ := Aside0.mk (Kd.V_below (by (with_reducible repeat (first | apply vA | apply vB | apply vC)); exact HO2.out) hb)
         have n2_ := Aside0.mk (Kd.V_lower (Kd.V_mono (ok' := fun k_ => ((P1_ k_ ∨ P2_ k_) ∨ w.heap.size ≤ k_)) ho0 (fun k_ hk_ => (.inr (Nat.le_trans (below_size (by with_reducible repeat (first | exact HB.out | apply bA | apply bB | apply bC))) hk_)))) (below_size (by with_reducible repeat (first | exact HB.out | apply bA | apply bB | apply bC))))
         have n3_ := Aside0.mk (below_step (by with_reducible repeat (first | exact HB.out | apply bA | apply bB | apply bC)) hb)
         clear HO1
         clear HO2
         clear HB
         have HO1 := n0_
         have HO2 := n1_
         have HO365 := n2_
         have HB := n3_
         clear n0_ n1_ n2_ n3_
         (try clear hb)
         (try clear hb2)
         (try clear hk)
         (try clear hi)
         (try clear ho0)
         refine hK.out _ _ (HS0_) (fun hHeld => ?_)
         clear hK K
         refine norm_ (a' := ?_) ?_ ?_
         rotate_left
         · show Act.put _ (some 29) _ = _
           simp only [Act.put, List.setIfInBounds_toArray, List.set_cons_zero, List.set_cons_succ, i64_w, i32_w]
           rfl
         refine one_ (i := 10) (N := some 37) #[true, true, true, true, true, true, true, true, true, true, true, false, false, false, false] rfl rfl (one_of HT_.out (by kernel_rfl)) (by decide) (fun K hK => ?_)
         refine goes_ Try.func108 (by kernel_rfl) rfl #[.int .i64 a0, .int .i64 (rd l1 (ji7))] (by rfl) rfl rfl (by (try simp only [List.map_toArray, List.map_cons, List.map_nil]); first | done | (simp only [hji7]; rfl) | rfl | (simp only [List.length_drop, List.length_take]; rfl)) ?_
         with_reducible refine (fp_Inv.calls k a0 (rd l1 (ji7)) t367 _ A10.out).mono ?_
         rintro e w' ⟨rfl, ⟨nd, rfl⟩⟩
         refine ⟨_, rfl, ?_⟩
         refine hK.out _ _ (hHeld) (fun hHeld => ?_)
         clear hK K
         refine norm_ (a' := ?_) ?_ ?_
         rotate_left
         · show Act.put _ (some 37) _ = _
           simp only [Act.put, List.setIfInBounds_toArray, List.set_cons_zero, List.set_cons_succ, i64_w, i32_w]
           rfl
         refine pure_ (i := 12) (N := some 6) (v := ?_) (a' := ?_) #[true, true, true, true, true, true, true, true, true, true, true, false, true, false, false] rfl rfl (any_of HT_.out (by kernel_rfl)) (fun _ _ _ h => h) (Or.inl ⟨by rfl, ?_⟩) ?_ ?_
         rotate_left
         · intro w'
           go_simp
           with_reducible rfl
         rotate_left
         · simp only [Act.put, List.setIfInBounds_toArray, List.set_cons_zero, List.set_cons_succ, i64_w, i32_w]
           rfl
         refine one_ (i := 11) (N := some 38) #[true, true, true, true, true, true, true, true, true, true, true, true, true, false, false] rfl rfl (one_of HT_.out (by kernel_rfl)) (by decide) (fun K hK => ?_)
         refine Kd.R_lit_step (Kd.int .i64) _ 3 ?hg (N := 38) ?hd (xs := ([t367] : List Int)) (inner := [.int .i64 t367]) (ok := fun _ => True) (okp := fun _ => True) ?hr ?hp (fun _ hk => hk) trivial (Below.refl _ _) (Nat.le_refl _) (by simp) ?_; (case hd => rfl); (case hg => rfl); (case hr => first | (go_simp; done) | (go_simp; rfl)); (case hp => exact (Reps.one (show Kd.M (Kd.int .i64) _ _ _ t367 [.int .i64 t367] from rfl) (Reps.none _ _)))
         intro v369 w13 ho14 hb hg_ hnew_
         have HS0_ := (hb.cell (World.block_lt_of_cell? _ _ (hHeld))).trans (hHeld)
         clear hg_ hnew_
         (first | rw [← Ny368.out] at ho14 | (simp only [Int.reduceToNat] at ho14; rw [← Ny368.out] at ho14))
         have n0_ := Aside0.mk (Kd.V_elder' (by (with_reducible repeat (first | apply vA | apply vB | apply vC)); exact HO1.out) (Kd.R_base ho14) hb)
         have n1_ := Aside0.mk (Kd.V_elder' (by (with_reducible repeat (first | apply vA | apply vB | apply vC)); exact HO2.out) (Kd.R_base ho14) hb)
         have n2_ := Aside0.mk (Kd.V_elder' (by (with_reducible repeat (first | apply vA | apply vB | apply vC)); exact HO365.out) (Kd.R_base ho14) hb)
         have n3_ := Aside0.mk (Kd.R_lower (Kd.R_newM (M := fun k_ => (w.heap.size ≤ k_)) ho14 (below_size (by with_reducible repeat (first | exact HB.out | apply bA | apply bB | apply bC))) (fun k_ h_ => h_)) (below_size (by with_reducible repeat (first | exact HB.out | apply bA | apply bB | apply bC))))
         have n4_ := Aside0.mk (below_step (by with_reducible repeat (first | exact HB.out | apply bA | apply bB | apply bC)) hb)
         clear HO1
         clear HO2
         clear HO365
         clear HB
         have HO1 := n0_
         have HO2 := n1_
         have HO365 := n2_
         have HO370 := n3_
         have HB := n4_
         clear n0_ n1_ n2_ n3_ n4_
         clear hb ho14
         refine hK.out _ _ (HS0_) (fun hHeld => ?_)
         clear hK K
         refine norm_ (a' := ?_) ?_ ?_
         rotate_left
         · show Act.put _ (some 38) _ = _
           simp only [Act.put, List.setIfInBounds_toArray, List.set_cons_zero, List.set_cons_succ, i64_w, i32_w]
           rfl
         refine pure_ (i := 13) (N := some 7) (v := ?_) (a' := ?_) #[true, true, true, true, true, true, true, true, true, true, true, true, true, true, false] rfl rfl (any_of HT_.out (by kernel_rfl)) (fun _ _ _ h => h) (Or.inl ⟨by rfl, ?_⟩) ?_ ?_
         rotate_left
         · intro w'
           go_simp
           with_reducible rfl
         rotate_left
         · simp only [Act.put, List.setIfInBounds_toArray, List.set_cons_zero, List.set_cons_succ, i64_w, i32_w]
           rfl
         refine pure_ (i := 14) (N := some 8) (v := ?_) (a' := ?_) #[true, true, true, true, true, true, true, true, true, true, true, true, true, true, true] rfl rfl (any_of HT_.out (by kernel_rfl)) (fun _ _ _ h => h) (Or.inl ⟨by rfl, ?_⟩) ?_ ?_
         rotate_left
         · intro w'
           go_simp
           with_reducible rfl
         rotate_left
         · simp only [Act.put, List.setIfInBounds_toArray, List.set_cons_zero, List.set_cons_succ, i64_w, i32_w]
           rfl
         refine done_ (done_of HT_.out (by kernel_rfl)) ?_
         try go_wp2
         go_ret3
         exact ⟨_, _, _, by first | rfl | (simp [errW_none, errW_some] <;> rfl) | (simp only [← hji7]; first | rfl | (simp [errW_none, errW_some] <;> rfl)) | (simp [*, errW_none, errW_some] <;> rfl), by (with_reducible repeat (first | apply vA | apply vB | apply vC)); exact Kd.V_mono HO365.out (fun _ hk => hk.1), Kd.V_mono (Kd.R_V (by (with_reducible repeat (first | apply Kd.R_alloc | apply Kd.R_drewN | apply Kd.R_drew)); exact Kd.R_mono HO370.out (fun _ hk => hk.1))) (fun k_ hk => by first | exact ⟨(.inr (hk.1)), hk.2⟩ | exact (.inr (hk))), (Kd.V_nil _ _ _ _ _), by with_reducible repeat (first | exact HB.out | apply bA | apply bB | apply bC)⟩
       · rw [if_neg c9] at H
         exact absurd H (by simp)
     · rw [if_neg c8] at H
       exact absurd H (by simp)
 · rw [if_neg c4] at H
   have c4b0 : ((l2.length : Int) == 0) = false := beq_eq_false_iff_ne.mpr c4
   have c4b1 : ((l2.length : Int) != 0) = true := bne_iff_ne.mpr c4
   have c4b2 : ¬ (l2 = []) := fun h_ => c4 (by rw [h_]; rfl)
   obtain ⟨y371, hy371⟩ : ∃ y_ : List Int, y_ = (([1] : List Int)) := ⟨_, rfl⟩
   replace H : (fp_Xgcd.l0 k a0 l1 l2 l1 l2 y371 ([] : List Int)) = some (r1, r2, r3) := by first | (rw [hy371]; with_reducible exact H) | (have H2_ := (Option.bind_some _ _).symm.trans H; rw [hy371]; with_reducible exact H2_) | (have H2_ := (Option.bind_some _ _).symm.trans H; with_reducible exact H2_) | with_reducible exact H | (rw [hy371]; exact H) | exact H
   have Ny371 := Aside0.mk hy371
   clear hy371
   have H' := Aside0.mk H
   clear H
   go_enter Try.func75, Try.ntmps75
   go_wp2_with (first | ((with_reducible refine gate_dst (N := 41) rfl ?_); refine Kd.R_lit (Kd.int .i64) _ 3 ?hg (N := 41) ?hd (xs := ([1] : List Int)) (inner := [.int .i64 1]) (ok := fun _ => True) (okp := fun _ => True) ?hr ?hp (fun _ hk => hk) trivial (Below.refl _ _) (Nat.le_refl _) (by simp) ?_; (case hd => rfl); (case hg => rfl); (case hr => first | (go_simp; done) | (go_simp; rfl)); (case hp => exact (Reps.one (show Kd.M (Kd.int .i64) _ _ _ 1 [.int .i64 1] from rfl) (Reps.none _ _))); intro v372 w15 ho16 hb hg_ hnew_; clear hg_ hnew_; (first | rw [← Ny371.out] at ho16 | (simp only [Int.reduceToNat] at ho16; rw [← Ny371.out] at ho16)); have n0_ := Aside0.mk (Kd.V_elder' (by (with_reducible repeat (first | apply vA | apply vB | apply vC)); exact HO1.out) (Kd.R_base ho16) hb); have n1_ := Aside0.mk (Kd.V_elder' (by (with_reducible repeat (first | apply vA | apply vB | apply vC)); exact HO2.out) (Kd.R_base ho16) hb); have n2_ := Aside0.mk (Kd.R_lower (Kd.R_newM (M := fun k_ => (w.heap.size ≤ k_)) ho16 (below_size (by with_reducible repeat (first | exact HB.out | apply bA | apply bB | apply bC))) (fun k_ h_ => h_)) (below_size (by with_reducible repeat (first | exact HB.out | apply bA | apply bB | apply bC)))); have n3_ := Aside0.mk (below_step (by with_reducible repeat (first | exact HB.out | apply bA | apply bB | apply bC)) hb); clear HO1; clear HO2; clear HB; have HO1 := n0_; have HO2 := n1_; have HO373 := n2_; have HB := n3_; clear n0_ n1_ n2_ n3_; clear hb ho16))
   go_loopg [9, 10, 11, 12] k (fun kq v9 v10 v11 v12 w' => ∃ (x9_1 : List Int) (x10_1 : List Int) (x11_1 : List Int) (x12_1 : List Int), Aside0 (fp_Xgcd.l0 kq a0 l1 l2 x9_1 x10_1 x11_1 x12_1 = some (r1, r2, r3)) ∧ Aside0 (kq ≤ k) ∧ Aside0 (Kd.V (Kd.int .i64) 3 w' w.heap.size (fun k_ => ((P1_ k_ ∨ P2_ k_) ∨ w.heap.size ≤ k_)) (.slice A1 l1.length c1) l1) ∧ Aside0 (Kd.V (Kd.int .i64) 3 w' w.heap.size (fun k_ => ((P1_ k_ ∨ P2_ k_) ∨ w.heap.size ≤ k_)) (.slice A2 l2.length c2) l2) ∧ Aside0 (Kd.V (Kd.int .i64) 3 w' w.heap.size (fun k_ => ((P1_ k_ ∨ P2_ k_) ∨ w.heap.size ≤ k_)) v9 x9_1) ∧ Aside0 (Kd.V (Kd.int .i64) 3 w' w.heap.size (fun k_ => ((P1_ k_ ∨ P2_ k_) ∨ w.heap.size ≤ k_)) v10 x10_1) ∧ Aside0 (Kd.V (Kd.int .i64) 3 w' w.heap.size (fun k_ => ((P1_ k_ ∨ P2_ k_) ∨ w.heap.size ≤ k_)) v11 x11_1) ∧ Aside0 (Kd.V (Kd.int .i64) 3 w' w.heap.size (fun k_ => ((P1_ k_ ∨ P2_ k_) ∨ w.heap.size ≤ k_)) v12 x12_1) ∧ Aside0 (Below w.heap.size w w'))
   case atStart => exact ⟨(l1), (l2), (y371), (([] : List Int)), H', ⟨Nat.le_refl _⟩, ⟨by (with_reducible repeat (first | apply vA | apply vB | apply vC)); exact Kd.V_mono HO1.out (fun _ hk => hk.1)⟩, ⟨by (with_reducible repeat (first | apply vA | apply vB | apply vC)); exact Kd.V_mono HO2.out (fun _ hk => hk.1)⟩, ⟨by (with_reducible repeat (first | apply vA | apply vB | apply vC)); exact Kd.V_mono HO1.out (fun _ hk => hk.1)⟩, ⟨by (with_reducible repeat (first | apply vA | apply vB | apply vC)); exact Kd.V_mono HO2.out (fun _ hk => hk.1)⟩, ⟨Kd.V_mono (Kd.R_V (by (with_reducible repeat (first | apply Kd.R_alloc | apply Kd.R_drewN | apply Kd.R_drew)); exact Kd.R_mono HO373.out (fun _ hk => hk.1))) (fun k_ hk => by first | exact ⟨(.inr (hk.1)), hk.2⟩ | exact (.inr (hk)))⟩, ⟨(Kd.V_nil _ _ _ _ _)⟩, ⟨by with_reducible repeat (first | exact HB.out | apply bA | apply bB | apply bC)⟩⟩
   case round =>
    clear H'
    try clear c1
    try clear c2
    try clear p2
    try clear p3
    try clear q3
    try clear hx3
    try clear c4
    try clear c4b0
    try clear c4b1
    try clear c4b2
    try clear c5
    try clear c5b0
    try clear c5b1
    try clear c5b2
    try clear p6
    try clear c7
    try clear c8
    try clear c8b0
    try clear c9
    try clear c9b0
    try clear c10
    try clear hx366_0
    try clear p366
    try clear q366
    obtain ⟨x9_1, x10_1, x11_1, x12_1, HA, HK1, HO_1, HO_2, HO_9, HO_10, HO_11, HO_12, HB⟩ := hrel
    cases gk with
    | zero => exact absurd HA.out (by simp [fp_Xgcd.l0])
    | succ k1 =>
      have H := HA.out
      clear HA
      simp only [fp_Xgcd.l0] at H
      by_cases c17 : (x10_1.length : Int) > 0
      · rw [if_pos c17] at H
        have c17b0 : decide (0 < (x10_1.length : Int)) = true := decide_eq_true c17
        have c17b1 : decide (0 < x10_1.length) = true := decide_eq_true (by omega)
        clear c17
        replace H := Option.bind_eq_some_iff.mp H
        obtain ⟨⟨t374, t377⟩, A180, H⟩ := H
        replace H : ((fp_Mul.f k1 a0 t374 x12_1).bind fun t380 => ((fp_Sub.f k1 a0 x11_1 t380).bind fun t383 => (fp_Xgcd.l0 k1 a0 l1 l2 x10_1 t377 x12_1 t383))) = some (r1, r2, r3) := H
        have A18 := Aside0.mk A180
        clear A180
        replace H := Option.bind_eq_some_iff.mp H
        obtain ⟨t380, A190, H⟩ := H
        replace H : ((fp_Sub.f k1 a0 x11_1 t380).bind fun t383 => (fp_Xgcd.l0 k1 a0 l1 l2 x10_1 t377 x12_1 t383)) = some (r1, r2, r3) := H
        have A19 := Aside0.mk A190
        clear A190
        replace H := Option.bind_eq_some_iff.mp H
        obtain ⟨t383, A200, H⟩ := H
        replace H : (fp_Xgcd.l0 k1 a0 l1 l2 x10_1 t377 x12_1 t383) = some (r1, r2, r3) := H
        have A20 := Aside0.mk A200
        clear A200
        have H' := Aside0.mk H
        clear H
        obtain ⟨Ao21, co21, eo21⟩ := Kd.V_slice HO_10.out
        subst eo21
        obtain ⟨Ao22, co22, eo22⟩ := Kd.V_slice HO_9.out
        subst eo22
        go_wp2_with (first | ((with_reducible refine gate_callee (f := 74) rfl ?_); refine goesL_ (some 49) rfl rfl Try.func74 (by kernel_rfl) rfl #[.int .i64 a0, .slice Ao22 x9_1.length co22, .slice Ao21 x10_1.length co21] rfl (by (try simp only [mA, mB, mC]); first | done | rfl | (simp only [lD, lT]; rfl)) ?_; (with_reducible refine (fp_DivMod.calls k1 a0 _ _ x9_1 _ _ x10_1 t374 t377 _ ?side1 ?side2 ?side3 ?side4 A18.out).mono ?_); (case side1 => repeat (first | exact (Kd.V_reads' HO_9.out).2.2 | (with_reducible refine Kd.C_alloc ?_ _) | (with_reducible refine Kd.C_drewN ?_ _) | (with_reducible refine Kd.C_drew ?_))); (case side2 => exact (Kd.V_reads' HO_9.out).2.1); (case side3 => repeat (first | exact (Kd.V_reads' HO_10.out).2.2 | (with_reducible refine Kd.C_alloc ?_ _) | (with_reducible refine Kd.C_drewN ?_ _) | (with_reducible refine Kd.C_drew ?_))); (case side4 => exact (Kd.V_reads' HO_10.out).2.1); rintro e w23 ⟨v375, v378, rfl, ho0, ho1, hb⟩; refine ⟨_, rfl, ?_⟩; have n0_ := Aside0.mk (Kd.V_below (by (with_reducible repeat (first | apply vA | apply vB | apply vC)); exact HO_1.out) hb); have n1_ := Aside0.mk (Kd.V_below (by (with_reducible repeat (first | apply vA | apply vB | apply vC)); exact HO_2.out) hb); have n2_ := Aside0.mk (Kd.V_below (by (with_reducible repeat (first | apply vA | apply vB | apply vC)); exact HO_9.out) hb); have n3_ := Aside0.mk (Kd.V_below (by (with_reducible repeat (first | apply vA | apply vB | apply vC)); exact HO_10.out) hb); have n4_ := Aside0.mk (Kd.V_below (by (with_reducible repeat (first | apply vA | apply vB | apply vC)); exact HO_11.out) hb); have n5_ := Aside0.mk (Kd.V_below (by (with_reducible repeat (first | apply vA | apply vB | apply vC)); exact HO_12.out) hb); have n6_ := Aside0.mk (Kd.V_lower (Kd.V_mono (ok' := fun k_ => ((P1_ k_ ∨ P2_ k_) ∨ w.heap.size ≤ k_)) ho0 (fun k_ hk_ => (.inr (Nat.le_trans (below_size (by with_reducible repeat (first | exact HB.out | apply bA | apply bB | apply bC))) hk_)))) (below_size (by with_reducible repeat (first | exact HB.out | apply bA | apply bB | apply bC)))); have n7_ := Aside0.mk (Kd.V_lower (Kd.V_mono (ok' := fun k_ => ((P1_ k_ ∨ P2_ k_) ∨ w.heap.size ≤ k_)) ho1 (fun k_ hk_ => (.inr (Nat.le_trans (below_size (by with_reducible repeat (first | exact HB.out | apply bA | apply bB | apply bC))) hk_)))) (below_size (by with_reducible repeat (first | exact HB.out | apply bA | apply bB | apply bC)))); have n8_ := Aside0.mk (below_step (by with_reducible repeat (first | exact HB.out | apply bA | apply bB | apply bC)) hb); clear HO_1; clear HO_2; clear HO_9; clear HO_10; clear HO_11; clear HO_12; clear HB; have HO_1 := n0_; have HO_2 := n1_; have HO_9 := n2_; have HO_10 := n3_; have HO_11 := n4_; have HO_12 := n5_; have HO376 := n6_; have HO379 := n7_; have HB := n8_; clear n0_ n1_ n2_ n3_ n4_ n5_ n6_ n7_ n8_; (try clear hb); (try clear hb2); (try clear hk); (try clear hi); (try clear ho0); (try clear ho1); obtain ⟨Ao24, co24, eo24⟩ := Kd.V_slice HO376.out; subst eo24; obtain ⟨Ao25, co25, eo25⟩ := Kd.V_slice HO_12.out; subst eo25) | ((with_reducible refine gate_callee (f := 67) rfl ?_); refine goesL_ (some 60) rfl rfl Try.func67 (by kernel_rfl) rfl #[.int .i64 a0, .slice Ao24 t374.length co24, .slice Ao25 x12_1.length co25] rfl (by (try simp only [mA, mB, mC]); first | done | rfl | (simp only [lD, lT]; rfl)) ?_; (with_reducible refine (fp_Mul.calls k1 a0 _ _ t374 _ _ x12_1 t380 _ ?side1 ?side2 ?side3 ?side4 A19.out).mono ?_); (case side1 => repeat (first | exact (Kd.V_reads' HO376.out).2.2 | (with_reducible refine Kd.C_alloc ?_ _) | (with_reducible refine Kd.C_drewN ?_ _) | (with_reducible refine Kd.C_drew ?_))); (case side2 => exact (Kd.V_reads' HO376.out).2.1); (case side3 => repeat (first | exact (Kd.V_reads' HO_12.out).2.2 | (with_reducible refine Kd.C_alloc ?_ _) | (with_reducible refine Kd.C_drewN ?_ _) | (with_reducible refine Kd.C_drew ?_))); (case side4 => exact (Kd.V_reads' HO_12.out).2.1); rintro e w26 ⟨v381, rfl, ho0, hb⟩; refine ⟨_, rfl, ?_⟩; have n0_ := Aside0.mk (Kd.V_below (by (with_reducible repeat (first | apply vA | apply vB | apply vC)); exact HO_1.out) hb); have n1_ := Aside0.mk (Kd.V_below (by (with_reducible repeat (first | apply vA | apply vB | apply vC)); exact HO_2.out) hb); have n2_ := Aside0.mk (Kd.V_below (by (with_reducible repeat (first | apply vA | apply vB | apply vC)); exact HO_9.out) hb); have n3_ := Aside0.mk (Kd.V_below (by (with_reducible repeat (first | apply vA | apply vB | apply vC)); exact HO_10.out) hb); have n4_ := Aside0.mk (Kd.V_below (by (with_reducible repeat (first | apply vA | apply vB | apply vC)); exact HO_11.out) hb); have n5_ := Aside0.mk (Kd.V_below (by (with_reducible repeat (first | apply vA | apply vB | apply vC)); exact HO_12.out) hb); have n6_ := Aside0.mk (Kd.V_below (by (with_reducible repeat (first | apply vA | apply vB | apply vC)); exact HO376.out) hb); have n7_ := Aside0.mk (Kd.V_below (by (with_reducible repeat (first | apply vA | apply vB | apply vC)); exact HO379.out) hb); have n8_ := Aside0.mk (Kd.V_lower (Kd.V_mono (ok' := fun k_ => ((P1_ k_ ∨ P2_ k_) ∨ w.heap.size ≤ k_)) ho0 (fun k_ hk_ => (.inr (Nat.le_trans (below_size (by with_reducible repeat (first | exact HB.out | apply bA | apply bB | apply bC))) hk_)))) (below_size (by with_reducible repeat (first | exact HB.out | apply bA | apply bB | apply bC)))); have n9_ := Aside0.mk (below_step (by with_reducible repeat (first | exact HB.out | apply bA | apply bB | apply bC)) hb); clear HO_1; clear HO_2; clear HO_9; clear HO_10; clear HO_11; clear HO_12; clear HO376; clear HO379; clear HB; have HO_1 := n0_; have HO_2 := n1_; have HO_9 := n2_; have HO_10 := n3_; have HO_11 := n4_; have HO_12 := n5_; have HO376 := n6_; have HO379 := n7_; have HO382 := n8_; have HB := n9_; clear n0_ n1_ n2_ n3_ n4_ n5_ n6_ n7_ n8_ n9_; (try clear hb); (try clear hb2); (try clear hk); (try clear hi); (try clear ho0); obtain ⟨Ao27, co27, eo27⟩ := Kd.V_slice HO_11.out; subst eo27; obtain ⟨Ao28, co28, eo28⟩ := Kd.V_slice HO382.out; subst eo28) | ((with_reducible refine gate_callee (f := 73) rfl ?_); refine goesL_ (some 61) rfl rfl Try.func73 (by kernel_rfl) rfl #[.int .i64 a0, .slice Ao27 x11_1.length co27, .slice Ao28 t380.length co28] rfl (by (try simp only [mA, mB, mC]); first | done | rfl | (simp only [lD, lT]; rfl)) ?_; (with_reducible refine (fp_Sub.calls k1 a0 _ _ x11_1 _ _ t380 t383 _ ?side1 ?side2 ?side3 ?side4 A20.out).mono ?_); (case side1 => repeat (first | exact (Kd.V_reads' HO_11.out).2.2 | (with_reducible refine Kd.C_alloc ?_ _) | (with_reducible refine Kd.C_drewN ?_ _) | (with_reducible refine Kd.C_drew ?_))); (case side2 => exact (Kd.V_reads' HO_11.out).2.1); (case side3 => repeat (first | exact (Kd.V_reads' HO382.out).2.2 | (with_reducible refine Kd.C_alloc ?_ _) | (with_reducible refine Kd.C_drewN ?_ _) | (with_reducible refine Kd.C_drew ?_))); (case side4 => exact (Kd.V_reads' HO382.out).2.1); rintro e w29 ⟨v384, rfl, ho0, hb⟩; refine ⟨_, rfl, ?_⟩; have n0_ := Aside0.mk (Kd.V_below (by (with_reducible repeat (first | apply vA | apply vB | apply vC)); exact HO_1.out) hb); have n1_ := Aside0.mk (Kd.V_below (by (with_reducible repeat (first | apply vA | apply vB | apply vC)); exact HO_2.out) hb); have n2_ := Aside0.mk (Kd.V_below (by (with_reducible repeat (first | apply vA | apply vB | apply vC)); exact HO_9.out) hb); have n3_ := Aside0.mk (Kd.V_below (by (with_reducible repeat (first | apply vA | apply vB | apply vC)); exact HO_10.out) hb); have n4_ := Aside0.mk (Kd.V_below (by (with_reducible repeat (first | apply vA | apply vB | apply vC)); exact HO_11.out) hb); have n5_ := Aside0.mk (Kd.V_below (by (with_reducible repeat (first | apply vA | apply vB | apply vC)); exact HO_12.out) hb); have n6_ := Aside0.mk (Kd.V_below (by (with_reducible repeat (first | apply vA | apply vB | apply vC)); exact HO376.out) hb); have n7_ := Aside0.mk (Kd.V_below (by (with_reducible repeat (first | apply vA | apply vB | apply vC)); exact HO379.out) hb); have n8_ := Aside0.mk (Kd.V_below (by (with_reducible repeat (first | apply vA | apply vB | apply vC)); exact HO382.out) hb); have n9_ := Aside0.mk (Kd.V_lower (Kd.V_mono (ok' := fun k_ => ((P1_ k_ ∨ P2_ k_) ∨ w.heap.size ≤ k_)) ho0 (fun k_ hk_ => (.inr (Nat.le_trans (below_size (by with_reducible repeat (first | exact HB.out | apply bA | apply bB | apply bC))) hk_)))) (below_size (by with_reducible repeat (first | exact HB.out | apply bA | apply bB | apply bC)))); have n10_ := Aside0.mk (below_step (by with_reducible repeat (first | exact HB.out | apply bA | apply bB | apply bC)) hb); clear HO_1; clear HO_2; clear HO_9; clear HO_10; clear HO_11; clear HO_12; clear HO376; clear HO379; clear HO382; clear HB; have HO_1 := n0_; have HO_2 := n1_; have HO_9 := n2_; have HO_10 := n3_; have HO_11 := n4_; have HO_12 := n5_; have HO376 := n6_; have HO379 := n7_; have HO382 := n8_; have HO385 := n9_; have HB := n10_; clear n0_ n1_ n2_ n3_ n4_ n5_ n6_ n7_ n8_ n9_ n10_; (try clear hb); (try clear hb2); (try clear hk); (try clear hi); (try clear ho0)))
        (first | go_roundg k1 | (refine Handed.intro k1 ?measure ?_; rotate_left; go_step; (repeat rw [add_plain]); (repeat apply Exists.intro); refine ⟨?rel, rfl⟩))
        case measure => have := HK1.out; omega
        case rel => exact ⟨(x10_1), (t377), (x12_1), (t383), H', ⟨by have := HK1.out; omega⟩, ⟨by (with_reducible repeat (first | apply vA | apply vB | apply vC)); exact HO_1.out⟩, ⟨by (with_reducible repeat (first | apply vA | apply vB | apply vC)); exact HO_2.out⟩, ⟨by (with_reducible repeat (first | apply vA | apply vB | apply vC)); exact HO_10.out⟩, ⟨by (with_reducible repeat (first | apply vA | apply vB | apply vC)); exact HO379.out⟩, ⟨by (with_reducible repeat (first | apply vA | apply vB | apply vC)); exact HO_12.out⟩, ⟨by (with_reducible repeat (first | apply vA | apply vB | apply vC)); exact HO385.out⟩, ⟨by with_reducible repeat (first | exact HB.out | apply bA | apply bB | apply bC)⟩⟩
      · rw [if_neg c17] at H
        have c17b0 : decide (0 < (x10_1.length : Int)) = false := decide_eq_false c17
        have c17b1 : decide (0 < x10_1.length) = false := decide_eq_false (by omega)
        clear c17
        obtain ⟨ji30, hji30⟩ : ∃ j_ : Int, (wrap64 ((x9_1.length : Int) - 1)) = j_ := ⟨_, rfl⟩
        replace H : (if 0 ≤ (ji30) then (if (ji30) < (x9_1.length : Int) then ((fp_Inv.f k1 a0 (rd x9_1 (ji30))).bind fun t387 => ((fp_Scale.f k1 a0 x9_1 t387).bind fun t388 => ((fp_DivMod.f k1 a0 l2 t388).bind fun bt391 => ((fp_Scale.f k1 a0 x11_1 t387).bind fun t397 => ((fp_Rem.f k1 a0 t397 bt391.1).bind fun t400 => ((fp_Mul.f k1 a0 t400 l1).bind fun t403 => ((fp_Sub.f k1 a0 t388 t403).bind fun t406 => ((fp_DivMod.f k1 a0 t406 l2).bind fun bt409 => (some (t388, t400, bt409.1)))))))))) else (none)) else (none)) = some (r1, r2, r3) := by first | (rw [hji30] at H; exact H) | (simp only [hji30] at H ⊢; exact H)
        have hji30w : (IntKind.i64.wrap ((x9_1.length : Int) - 1)) = ji30 := (i64_w _).trans hji30
        by_cases c31 : 0 ≤ (ji30)
        · rw [if_pos c31] at H
          have c31b0 : decide (0 ≤ (ji30)) = true := decide_eq_true c31
          clear c31
          by_cases c32 : (ji30) < (x9_1.length : Int)
          · rw [if_pos c32] at H
            have c32b0 : decide ((ji30) < (x9_1.length : Int)) = true := decide_eq_true c32
            clear c32
            replace H := Option.bind_eq_some_iff.mp H
            obtain ⟨t387, A330, H⟩ := H
            replace H : ((fp_Scale.f k1 a0 x9_1 t387).bind fun t388 => ((fp_DivMod.f k1 a0 l2 t388).bind fun bt391 => ((fp_Scale.f k1 a0 x11_1 t387).bind fun t397 => ((fp_Rem.f k1 a0 t397 bt391.1).bind fun t400 => ((fp_Mul.f k1 a0 t400 l1).bind fun t403 => ((fp_Sub.f k1 a0 t388 t403).bind fun t406 => ((fp_DivMod.f k1 a0 t406 l2).bind fun bt409 => (some (t388, t400, bt409.1))))))))) = some (r1, r2, r3) := H
            have A33 := Aside0.mk A330
            clear A330
            replace H := Option.bind_eq_some_iff.mp H
            obtain ⟨t388, A340, H⟩ := H
            replace H : ((fp_DivMod.f k1 a0 l2 t388).bind fun bt391 => ((fp_Scale.f k1 a0 x11_1 t387).bind fun t397 => ((fp_Rem.f k1 a0 t397 bt391.1).bind fun t400 => ((fp_Mul.f k1 a0 t400 l1).bind fun t403 => ((fp_Sub.f k1 a0 t388 t403).bind fun t406 => ((fp_DivMod.f k1 a0 t406 l2).bind fun bt409 => (some (t388, t400, bt409.1)))))))) = some (r1, r2, r3) := H
            have A34 := Aside0.mk A340
            clear A340
            replace H := Option.bind_eq_some_iff.mp H
            obtain ⟨⟨t391, t394⟩, A350, H⟩ := H
            replace H : ((fp_Scale.f k1 a0 x11_1 t387).bind fun t397 => ((fp_Rem.f k1 a0 t397 t391).bind fun t400 => ((fp_Mul.f k1 a0 t400 l1).bind fun t403 => ((fp_Sub.f k1 a0 t388 t403).bind fun t406 => ((fp_DivMod.f k1 a0 t406 l2).bind fun bt409 => (some (t388, t400, bt409.1))))))) = some (r1, r2, r3) := H
            have A35 := Aside0.mk A350
            clear A350
            replace H := Option.bind_eq_some_iff.mp H
            obtain ⟨t397, A360, H⟩ := H
            replace H : ((fp_Rem.f k1 a0 t397 t391).bind fun t400 => ((fp_Mul.f k1 a0 t400 l1).bind fun t403 => ((fp_Sub.f k1 a0 t388 t403).bind fun t406 => ((fp_DivMod.f k1 a0 t406 l2).bind fun bt409 => (some (t388, t400, bt409.1)))))) = some (r1, r2, r3) := H
            have A36 := Aside0.mk A360
            clear A360
            replace H := Option.bind_eq_some_iff.mp H
            obtain ⟨t400, A370, H⟩ := H
            replace H : ((fp_Mul.f k1 a0 t400 l1).bind fun t403 => ((fp_Sub.f k1 a0 t388 t403).bind fun t406 => ((fp_DivMod.f k1 a0 t406 l2).bind fun bt409 => (some (t388, t400, bt409.1))))) = some (r1, r2, r3) := H
            have A37 := Aside0.mk A370
            clear A370
            replace H := Option.bind_eq_some_iff.mp H
            obtain ⟨t403, A380, H⟩ := H
            replace H : ((fp_Sub.f k1 a0 t388 t403).bind fun t406 => ((fp_DivMod.f k1 a0 t406 l2).bind fun bt409 => (some (t388, t400, bt409.1)))) = some (r1, r2, r3) := H
            have A38 := Aside0.mk A380
            clear A380
            replace H := Option.bind_eq_some_iff.mp H
            obtain ⟨t406, A390, H⟩ := H
            replace H : ((fp_DivMod.f k1 a0 t406 l2).bind fun bt409 => (some (t388, t400, bt409.1))) = some (r1, r2, r3) := H
            have A39 := Aside0.mk A390
            clear A390
            replace H := Option.bind_eq_some_iff.mp H
            obtain ⟨⟨t409, t412⟩, A400, H⟩ := H
            replace H : (some (t388, t400, t409)) = some (r1, r2, r3) := H
            have A40 := Aside0.mk A400
            clear A400
            simp only [Option.some.injEq, Prod.mk.injEq] at H
            obtain ⟨rfl, rfl, rfl⟩ := H
            obtain ⟨Ao41, co41, eo41⟩ := Kd.V_slice HO_10.out
            subst eo41
            obtain ⟨Ao42, co42, eo42⟩ := Kd.V_slice HO_9.out
            subst eo42
            have p386 : 0 ≤ ((ji30) : Int) := of_decide_eq_true (by first | (with_reducible assumption) | assumption)
            have q386 : (ji30) < (x9_1.length : Int) := of_decide_eq_true (by first | (with_reducible assumption) | assumption)
            obtain ⟨ad386, e386, hx386_0⟩ := Kd.at_int (Kd.V_reads' HO_9.out).2.2 (ji30) p386 q386
            cases e386
            replace p386 := eq_true p386
            replace q386 := eq_true q386
            go_wp2_with (first | ((with_reducible refine gate_callee (f := 108) rfl ?_); refine goesL_ (some 69) rfl rfl Try.func108 (by kernel_rfl) rfl #[.int .i64 a0, .int .i64 (rd x9_1 (ji30))] rfl (by (try simp only [List.map_toArray, List.map_cons, List.map_nil]); first | done | (simp only [hji30]; rfl) | rfl | (simp only [List.length_drop, List.length_take]; rfl)) ?_; (with_reducible refine (fp_Inv.calls k1 a0 (rd x9_1 (ji30)) t387 _ A33.out).mono ?_); rintro e w' ⟨rfl, ⟨nd, rfl⟩⟩; refine ⟨_, rfl, ?_⟩) | ((with_reducible refine gate_callee (f := 90) rfl ?_); refine goesL_ (some 73) rfl rfl Try.func90 (by kernel_rfl) rfl #[.int .i64 a0, .slice (some ad386) x9_1.length co42, .int .i64 t387] rfl (by (try simp only [mA, mB, mC]); first | done | rfl | (simp only [lD, lT]; rfl)) ?_; (with_reducible refine (fp_Scale.calls k1 a0 _ _ x9_1 t387 t388 _ ?side1 ?side2 A34.out).mono ?_); (case side1 => repeat (first | exact (Kd.V_reads' HO_9.out).2.2 | (with_reducible refine Kd.C_alloc ?_ _) | (with_reducible refine Kd.C_drewN ?_ _) | (with_reducible refine Kd.C_drew ?_))); (case side2 => exact (Kd.V_reads' HO_9.out).2.1); rintro e w43 ⟨v389, rfl, ho0, hb⟩; refine ⟨_, rfl, ?_⟩; have n0_ := Aside0.mk (Kd.V_below (by (with_reducible repeat (first | apply vA | apply vB | apply vC)); exact HO_1.out) hb); have n1_ := Aside0.mk (Kd.V_below (by (with_reducible repeat (first | apply vA | apply vB | apply vC)); exact HO_2.out) hb); have n2_ := Aside0.mk (Kd.V_below (by (with_reducible repeat (first | apply vA | apply vB | apply vC)); exact HO_9.out) hb); have n3_ := Aside0.mk (Kd.V_below (by (with_reducible repeat (first | apply vA | apply vB | apply vC)); exact HO_10.out) hb); have n4_ := Aside0.mk (Kd.V_below (by (with_reducible repeat (first | apply vA | apply vB | apply vC)); exact HO_11.out) hb); have n5_ := Aside0.mk (Kd.V_below (by (with_reducible repeat (first | apply vA | apply vB | apply vC)); exact HO_12.out) hb); have n6_ := Aside0.mk (Kd.V_lower (Kd.V_mono (ok' := fun k_ => ((P1_ k_ ∨ P2_ k_) ∨ w.heap.size ≤ k_)) ho0 (fun k_ hk_ => (.inr (Nat.le_trans (below_size (by with_reducible repeat (first | exact HB.out | apply bA | apply bB | apply bC))) hk_)))) (below_size (by with_reducible repeat (first | exact HB.out | apply bA | apply bB | apply bC)))); have n7_ := Aside0.mk (below_step (by with_reducible repeat (first | exact HB.out | apply bA | apply bB | apply bC)) hb); clear HO_1; clear HO_2; clear HO_9; clear HO_10; clear HO_11; clear HO_12; clear HB; have HO_1 := n0_; have HO_2 := n1_; have HO_9 := n2_; have HO_10 := n3_; have HO_11 := n4_; have HO_12 := n5_; have HO390 := n6_; have HB := n7_; clear n0_ n1_ n2_ n3_ n4_ n5_ n6_ n7_; (try clear hb); (try clear hb2); (try clear hk); (try clear hi); (try clear ho0); obtain ⟨Ao44, co44, eo44⟩ := Kd.V_slice HO390.out; subst eo44) | ((with_reducible refine gate_callee (f := 74) rfl ?_); refine goesL_ (some 78) rfl rfl Try.func74 (by kernel_rfl) rfl #[.int .i64 a0, .slice A2 l2.length c2, .slice Ao44 t388.length co44] rfl (by (try simp only [mA, mB, mC]); first | done | rfl | (simp only [lD, lT]; rfl)) ?_; (with_reducible refine (fp_DivMod.calls k1 a0 _ _ l2 _ _ t388 t391 t394 _ ?side1 ?side2 ?side3 ?side4 A35.out).mono ?_); (case side1 => repeat (first | exact (Kd.V_reads' HO_2.out).2.2 | (with_reducible refine Kd.C_alloc ?_ _) | (with_reducible refine Kd.C_drewN ?_ _) | (with_reducible refine Kd.C_drew ?_))); (case side2 => exact (Kd.V_reads' HO_2.out).2.1); (case side3 => repeat (first | exact (Kd.V_reads' HO390.out).2.2 | (with_reducible refine Kd.C_alloc ?_ _) | (with_reducible refine Kd.C_drewN ?_ _) | (with_reducible refine Kd.C_drew ?_))); (case side4 => exact (Kd.V_reads' HO390.out).2.1); rintro e w45 ⟨v392, v395, rfl, ho0, ho1, hb⟩; refine ⟨_, rfl, ?_⟩; have n0_ := Aside0.mk (Kd.V_below (by (with_reducible repeat (first | apply vA | apply vB | apply vC)); exact HO_1.out) hb); have n1_ := Aside0.mk (Kd.V_below (by (with_reducible repeat (first | apply vA | apply vB | apply vC)); exact HO_2.out) hb); have n2_ := Aside0.mk (Kd.V_below (by (with_reducible repeat (first | apply vA | apply vB | apply vC)); exact HO_9.out) hb); have n3_ := Aside0.mk (Kd.V_below (by (with_reducible repeat (first | apply vA | apply vB | apply vC)); exact HO_10.out) hb); have n4_ := Aside0.mk (Kd.V_below (by (with_reducible repeat (first | apply vA | apply vB | apply vC)); exact HO_11.out) hb); have n5_ := Aside0.mk (Kd.V_below (by (with_reducible repeat (first | apply vA | apply vB | apply vC)); exact HO_12.out) hb); have n6_ := Aside0.mk (Kd.V_below (by (with_reducible repeat (first | apply vA | apply vB | apply vC)); exact HO390.out) hb); have n7_ := Aside0.mk (Kd.V_lower (Kd.V_mono (ok' := fun k_ => ((P1_ k_ ∨ P2_ k_) ∨ w.heap.size ≤ k_)) ho0 (fun k_ hk_ => (.inr (Nat.le_trans (below_size (by with_reducible repeat (first | exact HB.out | apply bA | apply bB | apply bC))) hk_)))) (below_size (by with_reducible repeat (first | exact HB.out | apply bA | apply bB | apply bC)))); have n8_ := Aside0.mk (Kd.V_lower (Kd.V_mono (ok' := fun k_ => ((P1_ k_ ∨ P2_ k_) ∨ w.heap.size ≤ k_)) ho1 (fun k_ hk_ => (.inr (Nat.le_trans (below_size (by with_reducible repeat (first | exact HB.out | apply bA | apply bB | apply bC))) hk_)))) (below_size (by with_reducible repeat (first | exact HB.out | apply bA | apply bB | apply bC)))); have n9_ := Aside0.mk (below_step (by with_reducible repeat (first | exact HB.out | apply bA | apply bB | apply bC)) hb); clear HO_1; clear HO_2; clear HO_9; clear HO_10; clear HO_11; clear HO_12; clear HO390; clear HB; have HO_1 := n0_; have HO_2 := n1_; have HO_9 := n2_; have HO_10 := n3_; have HO_11 := n4_; have HO_12 := n5_; have HO390 := n6_; have HO393 := n7_; have HO396 := n8_; have HB := n9_; clear n0_ n1_ n2_ n3_ n4_ n5_ n6_ n7_ n8_ n9_; (try clear hb); (try clear hb2); (try clear hk); (try clear hi); (try clear ho0); (try clear ho1); obtain ⟨Ao46, co46, eo46⟩ := Kd.V_slice HO_11.out; subst eo46) | ((with_reducible refine gate_callee (f := 90) rfl ?_); refine goesL_ (some 85) rfl rfl Try.func90 (by kernel_rfl) rfl #[.int .i64 a0, .slice Ao46 x11_1.length co46, .int .i64 t387] rfl (by (try simp only [mA, mB, mC]); first | done | rfl | (simp only [lD, lT]; rfl)) ?_; (with_reducible refine (fp_Scale.calls k1 a0 _ _ x11_1 t387 t397 _ ?side1 ?side2 A36.out).mono ?_); (case side1 => repeat (first | exact (Kd.V_reads' HO_11.out).2.2 | (with_reducible refine Kd.C_alloc ?_ _) | (with_reducible refine Kd.C_drewN ?_ _) | (with_reducible refine Kd.C_drew ?_))); (case side2 => exact (Kd.V_reads' HO_11.out).2.1); rintro e w47 ⟨v398, rfl, ho0, hb⟩; refine ⟨_, rfl, ?_⟩; have n0_ := Aside0.mk (Kd.V_below (by (with_reducible repeat (first | apply vA | apply vB | apply vC)); exact HO_1.out) hb); have n1_ := Aside0.mk (Kd.V_below (by (with_reducible repeat (first | apply vA | apply vB | apply vC)); exact HO_2.out) hb); have n2_ := Aside0.mk (Kd.V_below (by (with_reducible repeat (first | apply vA | apply vB | apply vC)); exact HO_9.out) hb); have n3_ := Aside0.mk (Kd.V_below (by (with_reducible repeat (first | apply vA | apply vB | apply vC)); exact HO_10.out) hb); have n4_ := Aside0.mk (Kd.V_below (by (with_reducible repeat (first | apply vA | apply vB | apply vC)); exact HO_11.out) hb); have n5_ := Aside0.mk (Kd.V_below (by (with_reducible repeat (first | apply vA | apply vB | apply vC)); exact HO_12.out) hb); have n6_ := Aside0.mk (Kd.V_below (by (with_reducible repeat (first | apply vA | apply vB | apply vC)); exact HO390.out) hb); have n7_ := Aside0.mk (Kd.V_below (by (with_reducible repeat (first | apply vA | apply vB | apply vC)); exact HO393.out) hb); have n8_ := Aside0.mk (Kd.V_below (by (with_reducible repeat (first | apply vA | apply vB | apply vC)); exact HO396.out) hb); have n9_ := Aside0.mk (Kd.V_lower (Kd.V_mono (ok' := fun k_ => ((P1_ k_ ∨ P2_ k_) ∨ w.heap.size ≤ k_)) ho0 (fun k_ hk_ => (.inr (Nat.le_trans (below_size (by with_reducible repeat (first | exact HB.out | apply bA | apply bB | apply bC))) hk_)))) (below_size (by with_reducible repeat (first | exact HB.out | apply bA | apply bB | apply bC)))); have n10_ := Aside0.mk (below_step (by with_reducible repeat (first | exact HB.out | apply bA | apply bB | apply bC)) hb); clear HO_1; clear HO_2; clear HO_9; clear HO_10; clear HO_11; clear HO_12; clear HO390; clear HO393; clear HO396; clear HB; have HO_1 := n0_; have HO_2 := n1_; have HO_9 := n2_; have HO_10 := n3_; have HO_11 := n4_; have HO_12 := n5_; have HO390 := n6_; have HO393 := n7_; have HO396 := n8_; have HO399 := n9_; have HB := n10_; clear n0_ n1_ n2_ n3_ n4_ n5_ n6_ n7_ n8_ n9_ n10_; (try clear hb); (try clear hb2); (try clear hk); (try clear hi); (try clear ho0); obtain ⟨Ao48, co48, eo48⟩ := Kd.V_slice HO399.out; subst eo48; obtain ⟨Ao49, co49, eo49⟩ := Kd.V_slice HO393.out; subst eo49) | ((with_reducible refine gate_callee (f := 70) rfl ?_); refine goesL_ (some 87) rfl rfl Try.func70 (by kernel_rfl) rfl #[.int .i64 a0, .slice Ao48 t397.length co48, .slice Ao49 t391.length co49] rfl (by (try simp only [mA, mB, mC]); first | done | rfl | (simp only [lD, lT]; rfl)) ?_; (with_reducible refine (fp_Rem.calls k1 a0 _ _ t397 _ _ t391 t400 _ ?side1 ?side2 ?side3 ?side4 A37.out).mono ?_); (case side1 => repeat (first | exact (Kd.V_reads' HO399.out).2.2 | (with_reducible refine Kd.C_alloc ?_ _) | (with_reducible refine Kd.C_drewN ?_ _) | (with_reducible refine Kd.C_drew ?_))); (case side2 => exact (Kd.V_reads' HO399.out).2.1); (case side3 => repeat (first | exact (Kd.V_reads' HO393.out).2.2 | (with_reducible refine Kd.C_alloc ?_ _) | (with_reducible refine Kd.C_drewN ?_ _) | (with_reducible refine Kd.C_drew ?_))); (case side4 => exact (Kd.V_reads' HO393.out).2.1); rintro e w50 ⟨v401, rfl, ho0, hb⟩; refine ⟨_, rfl, ?_⟩; have n0_ := Aside0.mk (Kd.V_below (by (with_reducible repeat (first | apply vA | apply vB | apply vC)); exact HO_1.out) hb); have n1_ := Aside0.mk (Kd.V_below (by (with_reducible repeat (first | apply vA | apply vB | apply vC)); exact HO_2.out) hb); have n2_ := Aside0.mk (Kd.V_below (by (with_reducible repeat (first | apply vA | apply vB | apply vC)); exact HO_9.out) hb); have n3_ := Aside0.mk (Kd.V_below (by (with_reducible repeat (first | apply vA | apply vB | apply vC)); exact HO_10.out) hb); have n4_ := Aside0.mk (Kd.V_below (by (with_reducible repeat (first | apply vA | apply vB | apply vC)); exact HO_11.out) hb); have n5_ := Aside0.mk (Kd.V_below (by (with_reducible repeat (first | apply vA | apply vB | apply vC)); exact HO_12.out) hb); have n6_ := Aside0.mk (Kd.V_below (by (with_reducible repeat (first | apply vA | apply vB | apply vC)); exact HO390.out) hb); have n7_ := Aside0.mk (Kd.V_below (by (with_reducible repeat (first | apply vA | apply vB | apply vC)); exact HO393.out) hb); have n8_ := Aside0.mk (Kd.V_below (by (with_reducible repeat (first | apply vA | apply vB | apply vC)); exact HO396.out) hb); have n9_ := Aside0.mk (Kd.V_below (by (with_reducible repeat (first | apply vA | apply vB | apply vC)); exact HO399.out) hb); have n10_ := Aside0.mk (Kd.V_lower (Kd.V_mono (ok' := fun k_ => ((P1_ k_ ∨ P2_ k_) ∨ w.heap.size ≤ k_)) ho0 (fun k_ hk_ => (.inr (Nat.le_trans (below_size (by with_reducible repeat (first | exact HB.out | apply bA | apply bB | apply bC))) hk_)))) (below_size (by with_reducible repeat (first | exact HB.out | apply bA | apply bB | apply bC)))); have n11_ := Aside0.mk (below_step (by with_reducible repeat (first | exact HB.out | apply bA | apply bB | apply bC)) hb); clear HO_1; clear HO_2; clear HO_9; clear HO_10; clear HO_11; clear HO_12; clear HO390; clear HO393; clear HO396; clear HO399; clear HB; have HO_1 := n0_; have HO_2 := n1_; have HO_9 := n2_; have HO_10 := n3_; have HO_11 := n4_; have HO_12 := n5_; have HO390 := n6_; have HO393 := n7_; have HO396 := n8_; have HO399 := n9_; have HO402 := n10_; have HB := n11_; clear n0_ n1_ n2_ n3_ n4_ n5_ n6_ n7_ n8_ n9_ n10_ n11_; (try clear hb); (try clear hb2); (try clear hk); (try clear hi); (try clear ho0); obtain ⟨Ao51, co51, eo51⟩ := Kd.V_slice HO402.out; subst eo51) | ((with_reducible refine gate_callee (f := 67) rfl ?_); refine goesL_ (some 95) rfl rfl Try.func67 (by kernel_rfl) rfl #[.int .i64 a0, .slice Ao51 t400.length co51, .slice A1 l1.length c1] rfl (by (try simp only [mA, mB, mC]); first | done | rfl | (simp only [lD, lT]; rfl)) ?_; (with_reducible refine (fp_Mul.calls k1 a0 _ _ t400 _ _ l1 t403 _ ?side1 ?side2 ?side3 ?side4 A38.out).mono ?_); (case side1 => repeat (first | exact (Kd.V_reads' HO402.out).2.2 | (with_reducible refine Kd.C_alloc ?_ _) | (with_reducible refine Kd.C_drewN ?_ _) | (with_reducible refine Kd.C_drew ?_))); (case side2 => exact (Kd.V_reads' HO402.out).2.1); (case side3 => repeat (first | exact (Kd.V_reads' HO_1.out).2.2 | (with_reducible refine Kd.C_alloc ?_ _) | (with_reducible refine Kd.C_drewN ?_ _) | (with_reducible refine Kd.C_drew ?_))); (case side4 => exact (Kd.V_reads' HO_1.out).2.1); rintro e w52 ⟨v404, rfl, ho0, hb⟩; refine ⟨_, rfl, ?_⟩; have n0_ := Aside0.mk (Kd.V_below (by (with_reducible repeat (first | apply vA | apply vB | apply vC)); exact HO_1.out) hb); have n1_ := Aside0.mk (Kd.V_below (by (with_reducible repeat (first | apply vA | apply vB | apply vC)); exact HO_2.out) hb); have n2_ := Aside0.mk (Kd.V_below (by (with_reducible repeat (first | apply vA | apply vB | apply vC)); exact HO_9.out) hb); have n3_ := Aside0.mk (Kd.V_below (by (with_reducible repeat (first | apply vA | apply vB | apply vC)); exact HO_10.out) hb); have n4_ := Aside0.mk (Kd.V_below (by (with_reducible repeat (first | apply vA | apply vB | apply vC)); exact HO_11.out) hb); have n5_ := Aside0.mk (Kd.V_below (by (with_reducible repeat (first | apply vA | apply vB | apply vC)); exact HO_12.out) hb); have n6_ := Aside0.mk (Kd.V_below (by (with_reducible repeat (first | apply vA | apply vB | apply vC)); exact HO390.out) hb); have n7_ := Aside0.mk (Kd.V_below (by (with_reducible repeat (first | apply vA | apply vB | apply vC)); exact HO393.out) hb); have n8_ := Aside0.mk (Kd.V_below (by (with_reducible repeat (first | apply vA | apply vB | apply vC)); exact HO396.out) hb); have n9_ := Aside0.mk (Kd.V_below (by (with_reducible repeat (first | apply vA | apply vB | apply vC)); exact HO399.out) hb); have n10_ := Aside0.mk (Kd.V_below (by (with_reducible repeat (first | apply vA | apply vB | apply vC)); exact HO402.out) hb); have n11_ := Aside0.mk (Kd.V_lower (Kd.V_mono (ok' := fun k_ => ((P1_ k_ ∨ P2_ k_) ∨ w.heap.size ≤ k_)) ho0 (fun k_ hk_ => (.inr (Nat.le_trans (below_size (by with_reducible repeat (first | exact HB.out | apply bA | apply bB | apply bC))) hk_)))) (below_size (by with_reducible repeat (first | exact HB.out | apply bA | apply bB | apply bC)))); have n12_ := Aside0.mk (below_step (by with_reducible repeat (first | exact HB.out | apply bA | apply bB | apply bC)) hb); clear HO_1; clear HO_2; clear HO_9; clear HO_10; clear HO_11; clear HO_12; clear HO390; clear HO393; clear HO396; clear HO399; clear HO402; clear HB; have HO_1 := n0_; have HO_2 := n1_; have HO_9 := n2_; have HO_10 := n3_; have HO_11 := n4_; have HO_12 := n5_; have HO390 := n6_; have HO393 := n7_; have HO396 := n8_; have HO399 := n9_; have HO402 := n10_; have HO405 := n11_; have HB := n12_; clear n0_ n1_ n2_ n3_ n4_ n5_ n6_ n7_ n8_ n9_ n10_ n11_ n12_; (try clear hb); (try clear hb2); (try clear hk); (try clear hi); (try clear ho0); obtain ⟨Ao53, co53, eo53⟩ := Kd.V_slice HO405.out; subst eo53) | ((with_reducible refine gate_callee (f := 73) rfl ?_); refine goesL_ (some 96) rfl rfl Try.func73 (by kernel_rfl) rfl #[.int .i64 a0, .slice Ao44 t388.length co44, .slice Ao53 t403.length co53] rfl (by (try simp only [mA, mB, mC]); first | done | rfl | (simp only [lD, lT]; rfl)) ?_; (with_reducible refine (fp_Sub.calls k1 a0 _ _ t388 _ _ t403 t406 _ ?side1 ?side2 ?side3 ?side4 A39.out).mono ?_); (case side1 => repeat (first | exact (Kd.V_reads' HO390.out).2.2 | (with_reducible refine Kd.C_alloc ?_ _) | (with_reducible refine Kd.C_drewN ?_ _) | (with_reducible refine Kd.C_drew ?_))); (case side2 => exact (Kd.V_reads' HO390.out).2.1); (case side3 => repeat (first | exact (Kd.V_reads' HO405.out).2.2 | (with_reducible refine Kd.C_alloc ?_ _) | (with_reducible refine Kd.C_drewN ?_ _) | (with_reducible refine Kd.C_drew ?_))); (case side4 => exact (Kd.V_reads' HO405.out).2.1); rintro e w54 ⟨v407, rfl, ho0, hb⟩; refine ⟨_, rfl, ?_⟩; have n0_ := Aside0.mk (Kd.V_below (by (with_reducible repeat (first | apply vA | apply vB | apply vC)); exact HO_1.out) hb); have n1_ := Aside0.mk (Kd.V_below (by (with_reducible repeat (first | apply vA | apply vB | apply vC)); exact HO_2.out) hb); have n2_ := Aside0.mk (Kd.V_below (by (with_reducible repeat (first | apply vA | apply vB | apply vC)); exact HO_9.out) hb); have n3_ := Aside0.mk (Kd.V_below (by (with_reducible repeat (first | apply vA | apply vB | apply vC)); exact HO_10.out) hb); have n4_ := Aside0.mk (Kd.V_below (by (with_reducible repeat (first | apply vA | apply vB | apply vC)); exact HO_11.out) hb); have n5_ := Aside0.mk (Kd.V_below (by (with_reducible repeat (first | apply vA | apply vB | apply vC)); exact HO_12.out) hb); have n6_ := Aside0.mk (Kd.V_below (by (with_reducible repeat (first | apply vA | apply vB | apply vC)); exact HO390.out) hb); have n7_ := Aside0.mk (Kd.V_below (by (with_reducible repeat (first | apply vA | apply vB | apply vC)); exact HO393.out) hb); have n8_ := Aside0.mk (Kd.V_below (by (with_reducible repeat (first | apply vA | apply vB | apply vC)); exact HO396.out) hb); have n9_ := Aside0.mk (Kd.V_below (by (with_reducible repeat (first | apply vA | apply vB | apply vC)); exact HO399.out) hb); have n10_ := Aside0.mk (Kd.V_below (by (with_reducible repeat (first | apply vA | apply vB | apply vC)); exact HO402.out) hb); have n11_ := Aside0.mk (Kd.V_below (by (with_reducible repeat (first | apply vA | apply vB | apply vC)); exact HO405.out) hb); have n12_ := Aside0.mk (Kd.V_lower (Kd.V_mono (ok' := fun k_ => ((P1_ k_ ∨ P2_ k_) ∨ w.heap.size ≤ k_)) ho0 (fun k_ hk_ => (.inr (Nat.le_trans (below_size (by with_reducible repeat (first | exact HB.out | apply bA | apply bB | apply bC))) hk_)))) (below_size (by with_reducible repeat (first | exact HB.out | apply bA | apply bB | apply bC)))); have n13_ := Aside0.mk (below_step (by with_reducible repeat (first | exact HB.out | apply bA | apply bB | apply bC)) hb); clear HO_1; clear HO_2; clear HO_9; clear HO_10; clear HO_11; clear HO_12; clear HO390; clear HO393; clear HO396; clear HO399; clear HO402; clear HO405; clear HB; have HO_1 := n0_; have HO_2 := n1_; have HO_9 := n2_; have HO_10 := n3_; have HO_11 := n4_; have HO_12 := n5_; have HO390 := n6_; have HO393 := n7_; have HO396 := n8_; have HO399 := n9_; have HO402 := n10_; have HO405 := n11_; have HO408 := n12_; have HB := n13_; clear n0_ n1_ n2_ n3_ n4_ n5_ n6_ n7_ n8_ n9_ n10_ n11_ n12_ n13_; (try clear hb); (try clear hb2); (try clear hk); (try clear hi); (try clear ho0); obtain ⟨Ao55, co55, eo55⟩ := Kd.V_slice HO408.out; subst eo55) | ((with_reducible refine gate_callee (f := 74) rfl ?_); refine goesL_ (some 98) rfl rfl Try.func74 (by kernel_rfl) rfl #[.int .i64 a0, .slice Ao55 t406.length co55, .slice A2 l2.length c2] rfl (by (try simp only [mA, mB, mC]); first | done | rfl | (simp only [lD, lT]; rfl)) ?_; (with_reducible refine (fp_DivMod.calls k1 a0 _ _ t406 _ _ l2 t409 t412 _ ?side1 ?side2 ?side3 ?side4 A40.out).mono ?_); (case side1 => repeat (first | exact (Kd.V_reads' HO408.out).2.2 | (with_reducible refine Kd.C_alloc ?_ _) | (with_reducible refine Kd.C_drewN ?_ _) | (with_reducible refine Kd.C_drew ?_))); (case side2 => exact (Kd.V_reads' HO408.out).2.1); (case side3 => repeat (first | exact (Kd.V_reads' HO_2.out).2.2 | (with_reducible refine Kd.C_alloc ?_ _) | (with_reducible refine Kd.C_drewN ?_ _) | (with_reducible refine Kd.C_drew ?_))); (case side4 => exact (Kd.V_reads' HO_2.out).2.1); rintro e w56 ⟨v410, v413, rfl, ho0, ho1, hb⟩; refine ⟨_, rfl, ?_⟩; have n0_ := Aside0.mk (Kd.V_below (by (with_reducible repeat (first | apply vA | apply vB | apply vC)); exact HO_1.out) hb); have n1_ := Aside0.mk (Kd.V_below (by (with_reducible repeat (first | apply vA | apply vB | apply vC)); exact HO_2.out) hb); have n2_ := Aside0.mk (Kd.V_below (by (with_reducible repeat (first | apply vA | apply vB | apply vC)); exact HO_9.out) hb); have n3_ := Aside0.mk (Kd.V_below (by (with_reducible repeat (first | apply vA | apply vB | apply vC)); exact HO_10.out) hb); have n4_ := Aside0.mk (Kd.V_below (by (with_reducible repeat (first | apply vA | apply vB | apply vC)); exact HO_11.out) hb); have n5_ := Aside0.mk (Kd.V_below (by (with_reducible repeat (first | apply vA | apply vB | apply vC)); exact HO_12.out) hb); have n6_ := Aside0.mk (Kd.V_below (by (with_reducible repeat (first | apply vA | apply vB | apply vC)); exact HO390.out) hb); have n7_ := Aside0.mk (Kd.V_below (by (with_reducible repeat (first | apply vA | apply vB | apply vC)); exact HO393.out) hb); have n8_ := Aside0.mk (Kd.V_below (by (with_reducible repeat (first | apply vA | apply vB | apply vC)); exact HO396.out) hb); have n9_ := Aside0.mk (Kd.V_below (by (with_reducible repeat (first | apply vA | apply vB | apply vC)); exact HO399.out) hb); have n10_ := Aside0.mk (Kd.V_below (by (with_reducible repeat (first | apply vA | apply vB | apply vC)); exact HO402.out) hb); have n11_ := Aside0.mk (Kd.V_below (by (with_reducible repeat (first | apply vA | apply vB | apply vC)); exact HO405.out) hb); have n12_ := Aside0.mk (Kd.V_below (by (with_reducible repeat (first | apply vA | apply vB | apply vC)); exact HO408.out) hb); have n13_ := Aside0.mk (Kd.V_lower (Kd.V_mono (ok' := fun k_ => ((P1_ k_ ∨ P2_ k_) ∨ w.heap.size ≤ k_)) ho0 (fun k_ hk_ => (.inr (Nat.le_trans (below_size (by with_reducible repeat (first | exact HB.out | apply bA | apply bB | apply bC))) hk_)))) (below_size (by with_reducible repeat (first | exact HB.out | apply bA | apply bB | apply bC)))); have n14_ := Aside0.mk (Kd.V_lower (Kd.V_mono (ok' := fun k_ => ((P1_ k_ ∨ P2_ k_) ∨ w.heap.size ≤ k_)) ho1 (fun k_ hk_ => (.inr (Nat.le_trans (below_size (by with_reducible repeat (first | exact HB.out | apply bA | apply bB | apply bC))) hk_)))) (below_size (by with_reducible repeat (first | exact HB.out | apply bA | apply bB | apply bC)))); have n15_ := Aside0.mk (below_step (by with_reducible repeat (first | exact HB.out | apply bA | apply bB | apply bC)) hb); clear HO_1; clear HO_2; clear HO_9; clear HO_10; clear HO_11; clear HO_12; clear HO390; clear HO393; clear HO396; clear HO399; clear HO402; clear HO405; clear HO408; clear HB; have HO_1 := n0_; have HO_2 := n1_; have HO_9 := n2_; have HO_10 := n3_; have HO_11 := n4_; have HO_12 := n5_; have HO390 := n6_; have HO393 := n7_; have HO396 := n8_; have HO399 := n9_; have HO402 := n10_; have HO405 := n11_; have HO408 := n12_; have HO411 := n13_; have HO414 := n14_; have HB := n15_; clear n0_ n1_ n2_ n3_ n4_ n5_ n6_ n7_ n8_ n9_ n10_ n11_ n12_ n13_ n14_ n15_; (try clear hb); (try clear hb2); (try clear hk); (try clear hi); (try clear ho0); (try clear ho1)))
            go_ret3
            exact ⟨_, _, _, by first | rfl | (simp [errW_none, errW_some] <;> rfl) | (simp only [← hji30]; first | rfl | (simp [errW_none, errW_some] <;> rfl)) | (simp [*, errW_none, errW_some] <;> rfl), by (with_reducible repeat (first | apply vA | apply vB | apply vC)); exact HO390.out, by (with_reducible repeat (first | apply vA | apply vB | apply vC)); exact HO402.out, by (with_reducible repeat (first | apply vA | apply vB | apply vC)); exact HO411.out, by with_reducible repeat (first | exact HB.out | apply bA | apply bB | apply bC)⟩
          · rw [if_neg c32] at H
            exact absurd H (by simp)
        · rw [if_neg c31] at H
          exact absurd H (by simp)

/-! ### polymod_Xgcd: function 32 -/
def polymod_Xgcd.f (k : Nat) (a0 : Int) (l1 : List Int) (l2 : List Int) : Option (List Int × List Int × List Int × Int) := (polymod_first.f k a0 (([l1, l2] : List (List Int)))).bind fun t418 => (if t418 = 0 then ((fp_Xgcd.f k a0 l1 l2).bind fun bt419 => (some (bt419.1, bt419.2.1, bt419.2.2, 0))) else (some (([] : List Int), ([] : List Int), ([] : List Int), t418)))
theorem polymod_Xgcd.mono : ∀ a0 a1 a2 k, LeO (polymod_Xgcd.f k a0 a1 a2) (polymod_Xgcd.f (k + 1) a0 a1 a2) := by
 intro a0 a1 a2 k
 unfold polymod_Xgcd.f
 repeat' first
  | (with_reducible apply fp_Xgcd.mono)
  | (with_reducible apply polymod_first.mono)
  | (with_reducible apply LeO.refl)
  | (with_reducible apply LeO.none)
  | (with_reducible refine LeO.ite ?_ ?_)
  | (with_reducible refine LeO.bind ?_ (fun _ => ?_))
set_option maxHeartbeats 8000000 in
set_option maxRecDepth 100000 in
theorem polymod_Xgcd.calls (k : Nat) (a0 : Int) (P1_ : Nat → Prop) (A1 : Option Addr) (c1 : Nat) (l1 : List Int) (P2_ : Nat → Prop) (A2 : Option Addr) (c2 : Nat) (l2 : List Int) (r1 : List Int) (r2 : List Int) (r3 : List Int) (r4 : Int) (w : World) (hs1 : Kd.V (Kd.int .i64) 3 w w.heap.size (fun k_ => P1_ k_) (.slice A1 l1.length c1) l1) (hs2 : Kd.V (Kd.int .i64) 3 w w.heap.size (fun k_ => P2_ k_) (.slice A2 l2.length c2) l2) (h : polymod_Xgcd.f k a0 l1 l2 = some (r1, r2, r3, r4)) :
 Calls Try.prog 32 #[.int .i64 a0, .slice A1 l1.length c1, .slice A2 l2.length c2] w fun e w' => ∃ v0_ v1_ v2_ : Value, e = .returned (.tuple #[v0_, v1_, v2_, .int .i64 r4]) ∧ Kd.V (Kd.int .i64) 3 w' w.heap.size (fun k_ => ((P1_ k_ ∨ P2_ k_) ∨ w.heap.size ≤ k_)) v0_ r1 ∧ Kd.V (Kd.int .i64) 3 w' w.heap.size (fun k_ => ((P1_ k_ ∨ P2_ k_) ∨ w.heap.size ≤ k_)) v1_ r2 ∧ Kd.V (Kd.int .i64) 3 w' w.heap.size (fun k_ => ((P1_ k_ ∨ P2_ k_) ∨ w.heap.size ≤ k_)) v2_ r3 ∧ Below w.heap.size w w' := by
 have HO1 := Aside0.mk (show Kd.V (Kd.int .i64) 3 w w.heap.size (fun k_ => ((P1_ k_ ∨ P2_ k_) ∨ w.heap.size ≤ k_)) (.slice A1 l1.length c1) l1 from Kd.V_mono hs1 (fun k_ hk => .inl (.inl hk)))
 have HO2 := Aside0.mk (show Kd.V (Kd.int .i64) 3 w w.heap.size (fun k_ => ((P1_ k_ ∨ P2_ k_) ∨ w.heap.size ≤ k_)) (.slice A2 l2.length c2) l2 from Kd.V_mono hs2 (fun k_ hk => .inl (.inr hk)))
 have HB := Aside0.mk (Below.refl w.heap.size w)
 have H : ((polymod_first.f k a0 (([l1, l2] : List (List Int)))).bind fun t418 => (if t418 = 0 then ((fp_Xgcd.f k a0 l1 l2).bind fun bt419 => (some (bt419.1, bt419.2.1, bt419.2.2, 0))) else (some (([] : List Int), ([] : List Int), ([] : List Int), t418)))) = some (r1, r2, r3, r4) := h
 clear h
 obtain ⟨y415, hy415⟩ : ∃ y_ : List (List Int), y_ = (([l1, l2] : List (List Int))) := ⟨_, rfl⟩
 replace H : ((polymod_first.f k a0 y415).bind fun t418 => (if t418 = 0 then ((fp_Xgcd.f k a0 l1 l2).bind fun bt419 => (some (bt419.1, bt419.2.1, bt419.2.2, 0))) else (some (([] : List Int), ([] : List Int), ([] : List Int), t418)))) = some (r1, r2, r3, r4) := by first | (rw [hy415]; with_reducible exact H) | (have H2_ := (Option.bind_some _ _).symm.trans H; rw [hy415]; with_reducible exact H2_) | (have H2_ := (Option.bind_some _ _).symm.trans H; with_reducible exact H2_) | with_reducible exact H | (rw [hy415]; exact H) | exact H
 have Ny415 := Aside0.mk hy415
 clear hy415
 replace H := Option.bind_eq_some_iff.mp H
 obtain ⟨t418, A40, H⟩ := H
 replace H : (if t418 = 0 then ((fp_Xgcd.f k a0 l1 l2).bind fun bt419 => (some (bt419.1, bt419.2.1, bt419.2.2, 0))) else (some (([] : List Int), ([] : List Int), ([] : List Int), t418))) = some (r1, r2, r3, r4) := H
 have A4 := Aside0.mk A40
 clear A40
 by_cases c5 : t418 = 0
 · rw [if_pos c5] at H
   have c5b0 : (t418 == 0) = true := beq_iff_eq.mpr c5
   have c5b1 : (t418 != 0) = false := bne_eq_false_iff_eq.mpr c5
   clear c5
   replace H := Option.bind_eq_some_iff.mp H
   obtain ⟨⟨t419, t422, t425⟩, A60, H⟩ := H
   replace H : (some (t419, t422, t425, 0)) = some (r1, r2, r3, r4) := H
   have A6 := Aside0.mk A60
   clear A60
   simp only [Option.some.injEq, Prod.mk.injEq] at H
   obtain ⟨rfl, rfl, rfl, rfl⟩ := H
   go_enter Try.func32, Try.ntmps32
   go_wp2_with (first | ((with_reducible refine gate_dst (N := 17) rfl ?_); refine Kd.N_lit (Kd.slice 3 (Kd.int .i64)) _ 23 ?hg (N' := 17) ?hd (xs := ([l1, l2] : List (List Int))) (inner := [.slice A1 l1.length c1, .slice A2 l2.length c2]) (ok := (fun k_ => ((P1_ k_ ∨ P2_ k_) ∨ w.heap.size ≤ k_))) (okp := (fun k_ => ((P1_ k_ ∨ P2_ k_) ∨ w.heap.size ≤ k_))) ?hr ?hp (fun _ hk => hk) ((show ∀ k_, w.heap.size ≤ k_ → (fun k_ => ((P1_ k_ ∨ P2_ k_) ∨ w.heap.size ≤ k_)) k_ from fun k_ hk => (.inr (Nat.le_trans (below_size (by with_reducible repeat (first | exact HB.out | apply bA | apply bB | apply bC))) hk))) _ (Nat.le_refl _)) (Below.refl _ _) (Nat.le_refl _) (by simp) ?_; (case hd => rfl); (case hg => rfl); (case hr => first | (go_simp; done) | (go_simp; rfl)); (case hp => exact (Reps.one (show Kd.FK (Kd.slice 3 (Kd.int .i64)) _ _ l1 [.slice A1 l1.length c1] from (Kd.FK_slice_mk (Kd.V_reads' (Kd.V_mono (ok' := (fun k_ => ((P1_ k_ ∨ P2_ k_) ∨ w.heap.size ≤ k_))) (HO1.out) (fun k_ hk => hk))).2.1 (Kd.V_F (Kd.V_mono (ok' := (fun k_ => ((P1_ k_ ∨ P2_ k_) ∨ w.heap.size ≤ k_))) (HO1.out) (fun k_ hk => hk))))) (Reps.one (show Kd.FK (Kd.slice 3 (Kd.int .i64)) _ _ l2 [.slice A2 l2.length c2] from (Kd.FK_slice_mk (Kd.V_reads' (Kd.V_mono (ok' := (fun k_ => ((P1_ k_ ∨ P2_ k_) ∨ w.heap.size ≤ k_))) (HO2.out) (fun k_ hk => hk))).2.1 (Kd.V_F (Kd.V_mono (ok' := (fun k_ => ((P1_ k_ ∨ P2_ k_) ∨ w.heap.size ≤ k_))) (HO2.out) (fun k_ hk => hk))))) (Reps.none _ _)))); intro v416 w7 ho8 hb hg_ hnew_; clear hg_ hnew_; (first | rw [← Ny415.out] at ho8 | (simp only [Int.reduceToNat] at ho8; rw [← Ny415.out] at ho8)); have n0_ := Aside0.mk (Kd.V_elder' (by (with_reducible repeat (first | apply vA | apply vB | apply vC)); exact HO1.out) (Kd.N_base ho8) hb); have n1_ := Aside0.mk (Kd.V_elder' (by (with_reducible repeat (first | apply vA | apply vB | apply vC)); exact HO2.out) (Kd.N_base ho8) hb); have n2_ := Aside0.mk (Kd.N_lower ho8 (below_size (by with_reducible repeat (first | exact HB.out | apply bA | apply bB | apply bC)))); have n3_ := Aside0.mk (below_step (by with_reducible repeat (first | exact HB.out | apply bA | apply bB | apply bC)) hb); clear HO1; clear HO2; clear HB; have HO1 := n0_; have HO2 := n1_; have HO417 := n2_; have HB := n3_; clear n0_ n1_ n2_ n3_; clear hb ho8; obtain ⟨Ao9, co9, eo9⟩ := Kd.N_slice HO417.out; subst eo9) | ((with_reducible refine gate_callee (f := 60) rfl ?_); refine goesL_ (some 18) rfl rfl Try.func60 (by kernel_rfl) rfl #[.int .i64 a0, .slice Ao9 y415.length co9] rfl (by (try simp only [mA, mB, mC]); first | done | rfl | (simp only [lD, lT]; rfl)) ?_; (with_reducible refine (polymod_first.calls k a0 _ _ y415 t418 _ ?side1 ?side2 A4.out).mono ?_); (case side1 => repeat (first | exact (Kd.N_reads' HO417.out).2.2 | (with_reducible refine Kd.C_alloc ?_ _) | (with_reducible refine Kd.C_drewN ?_ _) | (with_reducible refine Kd.C_drew ?_))); (case side2 => exact (Kd.N_reads' HO417.out).2.1); rintro e w10 ⟨rfl, hb⟩; refine ⟨_, rfl, ?_⟩; have n0_ := Aside0.mk (Kd.V_below (by (with_reducible repeat (first | apply vA | apply vB | apply vC)); exact HO1.out) hb); have n1_ := Aside0.mk (Kd.V_below (by (with_reducible repeat (first | apply vA | apply vB | apply vC)); exact HO2.out) hb); have n2_ := Aside0.mk (Kd.N_below (by (with_reducible repeat (first | apply Kd.N_alloc | apply Kd.N_drewN | apply Kd.N_drew)); exact HO417.out) hb); have n3_ := Aside0.mk (below_step (by with_reducible repeat (first | exact HB.out | apply bA | apply bB | apply bC)) hb); clear HO1; clear HO2; clear HO417; clear HB; have HO1 := n0_; have HO2 := n1_; have HO417 := n2_; have HB := n3_; clear n0_ n1_ n2_ n3_; (try clear hb); (try clear hb2); (try clear hk); (try clear hi)) | ((with_reducible refine gate_callee (f := 75) rfl ?_); refine goesL_ (some 26) rfl rfl Try.func75 (by kernel_rfl) rfl #[.int .i64 a0, .slice A1 l1.length c1, .slice A2 l2.length c2] rfl (by (try simp only [mA, mB, mC]); first | done | rfl | (simp only [lD, lT]; rfl)) ?_; (with_reducible refine (fp_Xgcd.calls k a0 (fun k_ => (((P1_ k_ ∨ P2_ k_) ∨ w.heap.size ≤ k_) ∧ some k_ ≠ (.slice Ao9 y415.length co9 : Value).ownBlock)) _ _ l1 (fun k_ => (((P1_ k_ ∨ P2_ k_) ∨ w.heap.size ≤ k_) ∧ some k_ ≠ (.slice Ao9 y415.length co9 : Value).ownBlock)) _ _ l2 t419 t422 t425 _ ?side1 ?side2 A6.out).mono ?_); (case side1 => exact HO1.out); (case side2 => exact HO2.out); rintro e w11 ⟨v420, v423, v426, rfl, ho0, ho1, ho2, hb⟩; refine ⟨_, rfl, ?_⟩; have n0_ := Aside0.mk (Kd.V_below (by (with_reducible repeat (first | apply vA | apply vB | apply vC)); exact HO1.out) hb); have n1_ := Aside0.mk (Kd.V_below (by (with_reducible repeat (first | apply vA | apply vB | apply vC)); exact HO2.out) hb); have n2_ := Aside0.mk (Kd.N_below (by (with_reducible repeat (first | apply Kd.N_alloc | apply Kd.N_drewN | apply Kd.N_drew)); exact HO417.out) hb); have n3_ := Aside0.mk (Kd.V_lower (Kd.V_mono (ok' := fun k_ => ((P1_ k_ ∨ P2_ k_) ∨ w.heap.size ≤ k_) ∧ some k_ ≠ (.slice Ao9 y415.length co9 : Value).ownBlock) ho0 (fun k_ hk_ => ⟨Or.elim hk_ (fun hs_ => Or.elim hs_ (fun hs_ => hs_.1) (fun hs_ => hs_.1)) (fun hn_ => (.inr (Nat.le_trans (below_size (by with_reducible repeat (first | exact HB.out | apply bA | apply bB | apply bC))) hn_))), Or.elim hk_ (fun hs_ => Or.elim hs_ (fun hs_ => hs_.2) (fun hs_ => hs_.2)) (fun hn_ => (Kd.fresh' (Kd.N_lt (by (with_reducible repeat (first | apply Kd.N_alloc | apply Kd.N_drewN | apply Kd.N_drew)); exact HO417.out)) k_ hn_))⟩)) (below_size (by with_reducible repeat (first | exact HB.out | apply bA | apply bB | apply bC)))); have n4_ := Aside0.mk (Kd.V_lower (Kd.V_mono (ok' := fun k_ => ((P1_ k_ ∨ P2_ k_) ∨ w.heap.size ≤ k_) ∧ some k_ ≠ (.slice Ao9 y415.length co9 : Value).ownBlock) ho1 (fun k_ hk_ => ⟨Or.elim hk_ (fun hs_ => Or.elim hs_ (fun hs_ => hs_.1) (fun hs_ => hs_.1)) (fun hn_ => (.inr (Nat.le_trans (below_size (by with_reducible repeat (first | exact HB.out | apply bA | apply bB | apply bC))) hn_))), Or.elim hk_ (fun hs_ => Or.elim hs_ (fun hs_ => hs_.2) (fun hs_ => hs_.2)) (fun hn_ => (Kd.fresh' (Kd.N_lt (by (with_reducible repeat (first | apply Kd.N_alloc | apply Kd.N_drewN | apply Kd.N_drew)); exact HO417.out)) k_ hn_))⟩)) (below_size (by with_reducible repeat (first | exact HB.out | apply bA | apply bB | apply bC)))); have n5_ := Aside0.mk (Kd.V_lower (Kd.V_mono (ok' := fun k_ => ((P1_ k_ ∨ P2_ k_) ∨ w.heap.size ≤ k_) ∧ some k_ ≠ (.slice Ao9 y415.length co9 : Value).ownBlock) ho2 (fun k_ hk_ => ⟨Or.elim hk_ (fun hs_ => Or.elim hs_ (fun hs_ => hs_.1) (fun hs_ => hs_.1)) (fun hn_ => (.inr (Nat.le_trans (below_size (by with_reducible repeat (first | exact HB.out | apply bA | apply bB | apply bC))) hn_))), Or.elim hk_ (fun hs_ => Or.elim hs_ (fun hs_ => hs_.2) (fun hs_ => hs_.2)) (fun hn_ => (Kd.fresh' (Kd.N_lt (by (with_reducible repeat (first | apply Kd.N_alloc | apply Kd.N_drewN | apply Kd.N_drew)); exact HO417.out)) k_ hn_))⟩)) (below_size (by with_reducible repeat (first | exact HB.out | apply bA | apply bB | apply bC)))); have n6_ := Aside0.mk (below_step (by with_reducible repeat (first | exact HB.out | apply bA | apply bB | apply bC)) hb); clear HO1; clear HO2; clear HO417; clear HB; have HO1 := n0_; have HO2 := n1_; have HO417 := n2_; have HO421 := n3_; have HO424 := n4_; have HO427 := n5_; have HB := n6_; clear n0_ n1_ n2_ n3_ n4_ n5_ n6_; (try clear hb); (try clear hb2); (try clear hk); (try clear hi); (try clear ho0); (try clear ho1); (try clear ho2)))
   refine bodyPost_ret (results_list (rs := [.tmp 6, .tmp 7, .tmp 8, .tmp 9]) rfl (by simp) (.tmp (.tmp (.tmp (.tmp .nil))))) rfl ?_
   exact ⟨_, _, _, by first | rfl | (simp [errW_none, errW_some] <;> rfl) | (simp [*, errW_none, errW_some] <;> rfl), by (with_reducible repeat (first | apply vA | apply vB | apply vC)); exact Kd.V_mono HO421.out (fun _ hk => hk.1), by (with_reducible repeat (first | apply vA | apply vB | apply vC)); exact Kd.V_mono HO424.out (fun _ hk => hk.1), by (with_reducible repeat (first | apply vA | apply vB | apply vC)); exact Kd.V_mono HO427.out (fun _ hk => hk.1), by with_reducible repeat (first | exact HB.out | apply bA | apply bB | apply bC)⟩
 · rw [if_neg c5] at H
   have c5b0 : (t418 == 0) = false := beq_eq_false_iff_ne.mpr c5
   have c5b1 : (t418 != 0) = true := bne_iff_ne.mpr c5
   simp only [Option.some.injEq, Prod.mk.injEq] at H
   obtain ⟨rfl, rfl, rfl, rfl⟩ := H
   go_enter Try.func32, Try.ntmps32
   go_wp2_with (first | ((with_reducible refine gate_dst (N := 17) rfl ?_); refine Kd.N_lit (Kd.slice 3 (Kd.int .i64)) _ 23 ?hg (N' := 17) ?hd (xs := ([l1, l2] : List (List Int))) (inner := [.slice A1 l1.length c1, .slice A2 l2.length c2]) (ok := (fun k_ => ((P1_ k_ ∨ P2_ k_) ∨ w.heap.size ≤ k_))) (okp := (fun k_ => ((P1_ k_ ∨ P2_ k_) ∨ w.heap.size ≤ k_))) ?hr ?hp (fun _ hk => hk) ((show ∀ k_, w.heap.size ≤ k_ → (fun k_ => ((P1_ k_ ∨ P2_ k_) ∨ w.heap.size ≤ k_)) k_ from fun k_ hk => (.inr (Nat.le_trans (below_size (by with_reducible repeat (first | exact HB.out | apply bA | apply bB | apply bC))) hk))) _ (Nat.le_refl _)) (Below.refl _ _) (Nat.le_refl _) (by simp) ?_; (case hd => rfl); (case hg => rfl); (case hr => first | (go_simp; done) | (go_simp; rfl)); (case hp => exact (Reps.one (show Kd.FK (Kd.slice 3 (Kd.int .i64)) _ _ l1 [.slice A1 l1.length c1] from (Kd.FK_slice_mk (Kd.V_reads' (Kd.V_mono (ok' := (fun k_ => ((P1_ k_ ∨ P2_ k_) ∨ w.heap.size ≤ k_))) (HO1.out) (fun k_ hk => hk))).2.1 (Kd.V_F (Kd.V_mono (ok' := (fun k_ => ((P1_ k_ ∨ P2_ k_) ∨ w.heap.size ≤ k_))) (HO1.out) (fun k_ hk => hk))))) (Reps.one (show Kd.FK (Kd.slice 3 (Kd.int .i64)) _ _ l2 [.slice A2 l2.length c2] from (Kd.FK_slice_mk (Kd.V_reads' (Kd.V_mono (ok' := (fun k_ => ((P1_ k_ ∨ P2_ k_) ∨ w.heap.size ≤ k_))) (HO2.out) (fun k_ hk => hk))).2.1 (Kd.V_F (Kd.V_mono (ok' := (fun k_ => ((P1_ k_ ∨ P2_ k_) ∨ w.heap.size ≤ k_))) (HO2.out) (fun k_ hk => hk))))) (Reps.none _ _)))); intro v416 w12 ho13 hb hg_ hnew_; clear hg_ hnew_; (first | rw [← Ny415.out] at ho13 | (simp only [Int.reduceToNat] at ho13; rw [← Ny415.out] at ho13)); have n0_ := Aside0.mk (Kd.V_elder' (by (with_reducible repeat (first | apply vA | apply vB | apply vC)); exact HO1.out) (Kd.N_base ho13) hb); have n1_ := Aside0.mk (Kd.V_elder' (by (with_reducible repeat (first | apply vA | apply vB | apply vC)); exact HO2.out) (Kd.N_base ho13) hb); have n2_ := Aside0.mk (Kd.N_lower ho13 (below_size (by with_reducible repeat (first | exact HB.out | apply bA | apply bB | apply bC)))); have n3_ := Aside0.mk (below_step (by with_reducible repeat (first | exact HB.out | apply bA | apply bB | apply bC)) hb); clear HO1; clear HO2; clear HB; have HO1 := n0_; have HO2 := n1_; have HO417 := n2_; have HB := n3_; clear n0_ n1_ n2_ n3_; clear hb ho13; obtain ⟨Ao14, co14, eo14⟩ := Kd.N_slice HO417.out; subst eo14) | ((with_reducible refine gate_callee (f := 60) rfl ?_); refine goesL_ (some 18) rfl rfl Try.func60 (by kernel_rfl) rfl #[.int .i64 a0, .slice Ao14 y415.length co14] rfl (by (try simp only [mA, mB, mC]); first | done | rfl | (simp only [lD, lT]; rfl)) ?_; (with_reducible refine (polymod_first.calls k a0 _ _ y415 t418 _ ?side1 ?side2 A4.out).mono ?_); (case side1 => repeat (first | exact (Kd.N_reads' HO417.out).2.2 | (with_reducible refine Kd.C_alloc ?_ _) | (with_reducible refine Kd.C_drewN ?_ _) | (with_reducible refine Kd.C_drew ?_))); (case side2 => exact (Kd.N_reads' HO417.out).2.1); rintro e w15 ⟨rfl, hb⟩; refine ⟨_, rfl, ?_⟩; have n0_ := Aside0.mk (Kd.V_below (by (with_reducible repeat (first | apply vA | apply vB | apply vC)); exact HO1.out) hb); have n1_ := Aside0.mk (Kd.V_below (by (with_reducible repeat (first | apply vA | apply vB | apply vC)); exact HO2.out) hb); have n2_ := Aside0.mk (Kd.N_below (by (with_reducible repeat (first | apply Kd.N_alloc | apply Kd.N_drewN | apply Kd.N_drew)); exact HO417.out) hb); have n3_ := Aside0.mk (below_step (by with_reducible repeat (first | exact HB.out | apply bA | apply bB | apply bC)) hb); clear HO1; clear HO2; clear HO417; clear HB; have HO1 := n0_; have HO2 := n1_; have HO417 := n2_; have HB := n3_; clear n0_ n1_ n2_ n3_; (try clear hb); (try clear hb2); (try clear hk); (try clear hi)))
   refine bodyPost_ret (results_list (rs := [.tmp 6, .tmp 7, .tmp 8, .tmp 9]) rfl (by simp) (.tmp (.tmp (.tmp (.tmp .nil))))) rfl ?_
   exact ⟨_, _, _, by first | rfl | (simp [errW_none, errW_some] <;> rfl) | (simp [*, errW_none, errW_some] <;> rfl), (Kd.V_nil _ _ _ _ _), (Kd.V_nil _ _ _ _ _), (Kd.V_nil _ _ _ _ _), by with_reducible repeat (first | exact HB.out | apply bA | apply bB | apply bC)⟩

/-! ### fp_Add: function 85 -/
def fp_Add.l0 : Nat → Int → List Int → List Int → List Int → Int → Int → Option (List Int)
 | 0, _, _, _, _, _, _ => none
 | k + 1, x0, x1, x2, x7, x16, x17 => if x17 < x16 then ((fp_at.f x1 x17).bind fun t431 => ((fp_at.f x2 x17).bind fun t432 => (if x0 = 0 then (none) else (if 0 ≤ x17 then (if x17 < (x7.length : Int) then (fp_Add.l0 k x0 x1 x2 (x7.set (x17 : Int).toNat (Int.tmod (wrap64 (t431 + t432)) x0)) x16 (wrap64 (x17 + 1))) else (none)) else (none))))) else ((fp_Trim.f k x7).bind fun t434 => (some t434))
def fp_Add.f (k : Nat) (a0 : Int) (l1 : List Int) (l2 : List Int) : Option (List Int) := if 0 ≤ (mx (l1.length : Int) (l2.length : Int)) then (if (mx (l1.length : Int) (l2.length : Int) : Int).toNat ≤ 35184372088832 then ((some (List.replicate (mx (l1.length : Int) (l2.length : Int) : Int).toNat 0 : List Int)).bind fun y428 => (fp_Add.l0 k a0 l1 l2 y428 (y428.length : Int) 0)) else (none)) else (none)
theorem fp_Add.mono_l : ∀ k, (∀ y0 y1 y2 y3 y4 y5, LeO (fp_Add.l0 k y0 y1 y2 y3 y4 y5) (fp_Add.l0 (k + 1) y0 y1 y2 y3 y4 y5))
 | 0 => fun _ _ _ _ _ _ r h => by simp [fp_Add.l0] at h
 | k + 1 => by
   have ih0 := fp_Add.mono_l k
   · intro y0 y1 y2 y3 y4 y5
     unfold fp_Add.l0
     repeat' first
     | (with_reducible apply ih0)
     | (with_reducible apply fp_Trim.mono)
     | (with_reducible apply LeO.refl)
     | (with_reducible apply LeO.none)
     | (with_reducible refine LeO.ite ?_ ?_)
     | (with_reducible refine LeO.bind ?_ (fun _ => ?_))
theorem fp_Add.mono : ∀ a0 a1 a2 k, LeO (fp_Add.f k a0 a1 a2) (fp_Add.f (k + 1) a0 a1 a2) := by
 intro a0 a1 a2 k
 have ih0 := fp_Add.mono_l k
 unfold fp_Add.f
 repeat' first
  | (with_reducible apply ih0)
  | (with_reducible apply fp_Trim.mono)
  | (with_reducible apply LeO.refl)
  | (with_reducible apply LeO.none)
  | (with_reducible refine LeO.ite ?_ ?_)
  | (with_reducible refine LeO.bind ?_ (fun _ => ?_))
set_option maxHeartbeats 8000000 in
set_option maxRecDepth 100000 in
theorem fp_Add.calls (k : Nat) (a0 : Int) (A1 : Option Addr) (c1 : Nat) (l1 : List Int) (A2 : Option Addr) (c2 : Nat) (l2 : List Int) (r : List Int) (w : World) (hr1 : Kd.C (Kd.int .i64) w A1 l1.length l1) (hc1 : l1.length ≤ c1) (hr2 : Kd.C (Kd.int .i64) w A2 l2.length l2) (hc2 : l2.length ≤ c2) (h : fp_Add.f k a0 l1 l2 = some r) :
 Calls Try.prog 85 #[.int .i64 a0, .slice A1 l1.length c1, .slice A2 l2.length c2] w fun e w' => ∃ v0_ : Value, e = .returned (v0_) ∧ Kd.V (Kd.int .i64) 3 w' w.heap.size (fun k_ => (w.heap.size ≤ k_)) v0_ r ∧ Below w.heap.size w w' := by
 have HR1 := Aside0.mk hr1
 have HC1 := Aside0.mk hc1
 clear hr1 hc1
 have HR2 := Aside0.mk hr2
 have HC2 := Aside0.mk hc2
 clear hr2 hc2
 have HB := Aside0.mk (Below.refl w.heap.size w)
 have H : (if 0 ≤ (mx (l1.length : Int) (l2.length : Int)) then (if (mx (l1.length : Int) (l2.length : Int) : Int).toNat ≤ 35184372088832 then ((some (List.replicate (mx (l1.length : Int) (l2.length : Int) : Int).toNat 0 : List Int)).bind fun y428 => (fp_Add.l0 k a0 l1 l2 y428 (y428.length : Int) 0)) else (none)) else (none)) = some r := h
 clear h
 obtain ⟨ji4, hji4⟩ : ∃ j_ : Int, (mx (l1.length : Int) (l2.length : Int)) = j_ := ⟨_, rfl⟩
 replace H : (if 0 ≤ (ji4) then (if (ji4 : Int).toNat ≤ 35184372088832 then ((some (List.replicate (ji4 : Int).toNat 0 : List Int)).bind fun y428 => (fp_Add.l0 k a0 l1 l2 y428 (y428.length : Int) 0)) else (none)) else (none)) = some r := by first | (rw [hji4] at H; exact H) | (simp only [hji4] at H ⊢; exact H)
 (try (have hji4l : 0 ≤ ji4 := by (rw [← hji4]; unfold mx; (repeat' split) <;> omega)))
 (try (have hji4m : 0 ≤ ji4 := by omega))
 have hji4_ : (if (l1.length : Int) < (l2.length : Int) then (l2.length : Int) else (l1.length : Int)) = ji4 := hji4
 (try (have hji4n_ : (if l1.length < l2.length then (l2.length : Int) else (l1.length : Int)) = ji4 := by rw [← hji4_]; simp only [Int.ofNat_lt]))
 by_cases c5 : 0 ≤ (ji4)
 · rw [if_pos c5] at H
   have c5b0 := eq_true c5
   have c5b1 : decide (0 ≤ (ji4)) = true := decide_eq_true c5
   clear c5
   by_cases c6 : (ji4 : Int).toNat ≤ 35184372088832
   · rw [if_pos c6] at H
     have c6b0 := eq_true c6
     have c6b1 : decide ((ji4 : Int).toNat ≤ 35184372088832) = true := decide_eq_true c6
     clear c6
     obtain ⟨y428, hy428⟩ : ∃ y_ : List Int, y_ = (List.replicate (ji4 : Int).toNat 0) := ⟨_, rfl⟩
     replace H : (fp_Add.l0 k a0 l1 l2 y428 (y428.length : Int) 0) = some r := by first | (rw [hy428]; with_reducible exact H) | (have H2_ := (Option.bind_some _ _).symm.trans H; rw [hy428]; with_reducible exact H2_) | (have H2_ := (Option.bind_some _ _).symm.trans H; with_reducible exact H2_) | with_reducible exact H | (rw [hy428]; exact H) | exact H
     have Ny428 := Aside0.mk hy428
     clear hy428
     have H' := Aside0.mk H
     clear H
     go_enter Try.func85, Try.ntmps85
     go_wp2_with (first | ((with_reducible refine gate_dst (N := 14) rfl ?_); refine Kd.R_make (Kd.int .i64) _ 3 rfl (N := 14) rfl 23 _ _ rfl ji4 rfl rfl Try.underlying23 (.int .i64 0) 8 info3 rfl (by decide) (by omega) 0 (ok := fun _ => True) (okp := fun _ => True) rfl (fun _ hk => hk) trivial (of_decide_eq_true (by first | (with_reducible assumption) | assumption)) (Nat.le_trans (Nat.mul_le_mul_right _ (of_decide_eq_true (by first | (with_reducible assumption) | assumption) : ji4.toNat ≤ 35184372088832)) (by omega)) (Below.refl _ _) (Nat.le_refl _) ?_; intro v429 w7 ho8 hb hg_ hnew_; clear hg_ hnew_; (first | rw [← Ny428.out] at ho8 | (simp only [Int.reduceToNat] at ho8; rw [← Ny428.out] at ho8)); have n0_ := Aside0.mk (Kd.R_lower (Kd.R_newM (M := fun k_ => (w.heap.size ≤ k_)) ho8 (below_size (by with_reducible repeat (first | exact HB.out | apply bA | apply bB | apply bC))) (fun k_ h_ => h_)) (below_size (by with_reducible repeat (first | exact HB.out | apply bA | apply bB | apply bC)))); have n1_ := Aside0.mk (below_step (by with_reducible repeat (first | exact HB.out | apply bA | apply bB | apply bC)) hb); clear HB; have HO430 := n0_; have HB := n1_; clear n0_ n1_; clear hb ho8; obtain ⟨Ao9, co9, eo9⟩ := Kd.R_slice HO430.out; subst eo9))
     go_loopg [17] k (fun kq v17 w' => ∃ (x7_1 : List Int) (x17_1 : Int), v17 = .int .i64 x17_1 ∧ Aside0 (fp_Add.l0 kq a0 l1 l2 x7_1 (y428.length : Int) x17_1 = some r) ∧ Aside0 (kq ≤ k) ∧ Aside0 (Kd.R (Kd.int .i64) 3 w' w.heap.size (fun k_ => (w.heap.size ≤ k_)) (.slice Ao9 y428.length co9) x7_1) ∧ Aside0 (Below w.heap.size w w'))
     case atStart => exact ⟨(y428), (0), (by first | rfl | (simp; done) | (simp [*]; done)), H', ⟨Nat.le_refl _⟩, ⟨by (with_reducible repeat (first | apply Kd.R_alloc | apply Kd.R_drewN | apply Kd.R_drew)); exact Kd.R_mono HO430.out (fun _ hk => hk.1)⟩, ⟨by with_reducible repeat (first | exact HB.out | apply bA | apply bB | apply bC)⟩⟩
     case round =>
      clear H'
      try clear c1
      try clear c2
      try clear p2
      try clear c5
      try clear c5b0
      try clear c5b1
      try clear c6
      try clear c6b0
      try clear c6b1
      try clear c8
      obtain ⟨x7_1, x17_1, rfl, HA, HK1, HO_7, HB⟩ := hrel
      have hl7_1 := (Kd.R_reads' HO_7.out).1
      rw [hl7_1] at HO_7
      (try simp only [hl7_1])
      cases gk with
      | zero => exact absurd HA.out (by simp [fp_Add.l0])
      | succ k1 =>
        have H := HA.out
        clear HA
        simp only [fp_Add.l0] at H
        by_cases c10 : x17_1 < (y428.length : Int)
        · rw [if_pos c10] at H
          have c10b0 : decide (x17_1 < (y428.length : Int)) = true := decide_eq_true c10
          (try rw [hl7_1] at c10b0)
          clear c10
          replace H := Option.bind_eq_some_iff.mp H
          obtain ⟨t431, A110, H⟩ := H
          replace H : ((fp_at.f l2 x17_1).bind fun t432 => (if a0 = 0 then (none) else (if 0 ≤ x17_1 then (if x17_1 < (x7_1.length : Int) then (fp_Add.l0 k1 a0 l1 l2 (x7_1.set (x17_1 : Int).toNat (Int.tmod (wrap64 (t431 + t432)) a0)) (y428.length : Int) (wrap64 (x17_1 + 1))) else (none)) else (none)))) = some r := H
          have A11 := Aside0.mk A110
          clear A110
          replace H := Option.bind_eq_some_iff.mp H
          obtain ⟨t432, A120, H⟩ := H
          replace H : (if a0 = 0 then (none) else (if 0 ≤ x17_1 then (if x17_1 < (x7_1.length : Int) then (fp_Add.l0 k1 a0 l1 l2 (x7_1.set (x17_1 : Int).toNat (Int.tmod (wrap64 (t431 + t432)) a0)) (y428.length : Int) (wrap64 (x17_1 + 1))) else (none)) else (none))) = some r := H
          have A12 := Aside0.mk A120
          clear A120
          by_cases c13 : a0 = 0
          · rw [if_pos c13] at H
            exact absurd H (by simp)
          · rw [if_neg c13] at H
            have c13b0 : (a0 == 0) = false := beq_eq_false_iff_ne.mpr c13
            have c13b1 : (a0 != 0) = true := bne_iff_ne.mpr c13
            by_cases c14 : 0 ≤ x17_1
            · rw [if_pos c14] at H
              have c14b0 : decide (0 ≤ x17_1) = true := decide_eq_true c14
              clear c14
              by_cases c15 : x17_1 < (x7_1.length : Int)
              · rw [if_pos c15] at H
                have c15b0 : decide (x17_1 < (x7_1.length : Int)) = true := decide_eq_true c15
                clear c15
                obtain ⟨y433, hy433⟩ : ∃ y_ : List Int, y_ = (x7_1.set (x17_1 : Int).toNat (Int.tmod (wrap64 (t431 + t432)) a0)) := ⟨_, rfl⟩
                replace H : (fp_Add.l0 k1 a0 l1 l2 y433 (y428.length : Int) (wrap64 (x17_1 + 1))) = some r := by first | (rw [hy433]; with_reducible exact H) | (have H2_ := (Option.bind_some _ _).symm.trans H; rw [hy433]; with_reducible exact H2_) | (have H2_ := (Option.bind_some _ _).symm.trans H; with_reducible exact H2_) | with_reducible exact H | (rw [hy433]; exact H) | exact H
                have Ny433 := Aside0.mk hy433
                clear hy433
                have H' := Aside0.mk H
                clear H
                go_wp2_with (first | ((with_reducible refine gate_callee (f := 107) rfl ?_); refine goesL_ (some 24) rfl rfl Try.func107 (by kernel_rfl) rfl #[.slice A1 l1.length c1, .int .i64 x17_1] rfl (by (try simp only [mA, mB, mC]); first | done | rfl | (simp only [lD, lT]; rfl)) ?_; (with_reducible refine (fp_at.calls _ _ l1 x17_1 t431 _ ?side1 ?side2 A11.out).mono ?_); (case side1 => repeat (first | exact (Kd.C_below HR1.out HB.out) | (with_reducible refine Kd.C_alloc ?_ _) | (with_reducible refine Kd.C_drewN ?_ _) | (with_reducible refine Kd.C_drew ?_))); (case side2 => exact HC1.out); rintro e w' ⟨rfl, ⟨nd, rfl⟩⟩; refine ⟨_, rfl, ?_⟩; (try (rw [drewN_self wr]; generalize hq_ : World.drewN wr _ = wr; have n0_ : Aside0 (Kd.R (Kd.int .i64) 3 wr w.heap.size (fun k_ => (w.heap.size ≤ k_)) (.slice Ao9 x7_1.length co9) x7_1) := ⟨by rw [← hq_]; exact (by (with_reducible repeat (first | apply Kd.R_alloc | apply Kd.R_drewN | apply Kd.R_drew)); exact HO_7.out)⟩; have n1_ : Aside0 (Below w.heap.size w wr) := ⟨by rw [← hq_]; exact (by with_reducible repeat (first | exact HB.out | apply bA | apply bB | apply bC))⟩; clear HO_7 HB hq_; have HO_7 := n0_; have HB := n1_; clear n0_ n1_))) | ((with_reducible refine gate_callee (f := 107) rfl ?_); refine goesL_ (some 27) rfl rfl Try.func107 (by kernel_rfl) rfl #[.slice A2 l2.length c2, .int .i64 x17_1] rfl (by (try simp only [mA, mB, mC]); first | done | rfl | (simp only [lD, lT]; rfl)) ?_; (with_reducible refine (fp_at.calls _ _ l2 x17_1 t432 _ ?side1 ?side2 A12.out).mono ?_); (case side1 => repeat (first | exact (Kd.C_below HR2.out HB.out) | (with_reducible refine Kd.C_alloc ?_ _) | (with_reducible refine Kd.C_drewN ?_ _) | (with_reducible refine Kd.C_drew ?_))); (case side2 => exact HC2.out); rintro e w' ⟨rfl, ⟨nd, rfl⟩⟩; refine ⟨_, rfl, ?_⟩; (try (rw [drewN_self wr]; generalize hq_ : World.drewN wr _ = wr; have n0_ : Aside0 (Kd.R (Kd.int .i64) 3 wr w.heap.size (fun k_ => (w.heap.size ≤ k_)) (.slice Ao9 x7_1.length co9) x7_1) := ⟨by rw [← hq_]; exact (by (with_reducible repeat (first | apply Kd.R_alloc | apply Kd.R_drewN | apply Kd.R_drew)); exact HO_7.out)⟩; have n1_ : Aside0 (Below w.heap.size w wr) := ⟨by rw [← hq_]; exact (by with_reducible repeat (first | exact HB.out | apply bA | apply bB | apply bC))⟩; clear HO_7 HB hq_; have HO_7 := n0_; have HB := n1_; clear n0_ n1_)); have p16 : 0 ≤ (x17_1 : Int) := of_decide_eq_true (by first | (with_reducible assumption) | assumption); have q16 : (x17_1 : Int) < ((x7_1.length : Int) : Int) := of_decide_eq_true (by first | (with_reducible assumption) | assumption); obtain ⟨go16, co16, eo16, gb16, gl16, cl16, HG16⟩ := Kd.R_form HO_7.out (by omega); (first | cases eo16 | (injection eo16 with ea_ en_ ec_; (first | subst ea_ | (injection ea_ with ea_; subst ea_)); subst ec_; clear en_)); have GB16 := Aside0.mk gb16; have GG16 := Aside0.mk HG16; clear gb16 gl16 HG16; obtain ⟨hx16_0, hf16_0⟩ := Kd.R_celln 0 HO_7.out (x17_1 : Int) p16 q16; replace p16 := eq_true p16; replace q16 := eq_true q16; obtain ⟨hy17_, hz17_⟩ := Kd.R_celln 0 HO_7.out (x17_1 : Int) (of_decide_eq_true (by first | (with_reducible assumption) | assumption)) (of_decide_eq_true (by first | (with_reducible assumption) | assumption)); have HP17 := Kd.R_putg HO_7.out (x17_1 : Int) (Int.tmod (wrap64 (t431 + t432)) a0)) | ((with_reducible refine gate_store (t := 3) (p := 31) rfl ?_); refine store_event (t := 3) (p := 31) (v := ?vo_w18) (w1 := (wr.setCell ⟨go16, (x17_1 : Int).toNat, none⟩ (.int .i64 (Int.tmod (wrap64 (t431 + t432)) a0)))) ?hg ?ho ?hn ?hr ?_; (case ho => rfl); (case hg => rfl); (case hn => rfl); (case hr => first | (go_simp; done) | (go_simp; rfl)); intro w18 hw; have hg : wr.grownBy w18 (some go16) := (by rw [hw]; exact HP17.2); have hp_ : Kd.R (Kd.int .i64) 3 w18 w.heap.size (fun k_ => (w.heap.size ≤ k_)) (.slice (some ⟨go16, 0, none⟩) x7_1.length co9) y433 := (by rw [hw, Ny433.out]; exact HP17.1); clear HP17; have n0_ := Aside0.mk (hp_); have n1_ := Aside0.mk ((by rw [hw]; exact below_set (HB.out) GB16.out : Below w.heap.size w w18)); clear HO_7; clear HB; have HO_7 := n0_; have HB := n1_; clear n0_ n1_; clear hg hw hp_))
                (try simp only [← hl7_1])
                (first | go_roundg k1 | (refine Handed.intro k1 ?measure ?_; rotate_left; go_step; (repeat rw [add_plain]); (repeat apply Exists.intro); refine ⟨?rel, rfl⟩))
                case measure => have := HK1.out; omega
                case rel => exact ⟨(y433), (wrap64 (x17_1 + 1)), (by first | rfl | (simp; done) | (simp [*]; done)), H', ⟨by have := HK1.out; omega⟩, ⟨by (try simp only [hl7_1]); (with_reducible repeat (first | apply Kd.R_alloc | apply Kd.R_drewN | apply Kd.R_drew)); exact HO_7.out⟩, ⟨by with_reducible repeat (first | exact HB.out | apply bA | apply bB | apply bC)⟩⟩
              · rw [if_neg c15] at H
                exact absurd H (by simp)
            · rw [if_neg c14] at H
              exact absurd H (by simp)
        · rw [if_neg c10] at H
          have c10b0 : decide (x17_1 < (y428.length : Int)) = false := decide_eq_false c10
          (try rw [hl7_1] at c10b0)
          clear c10
          replace H := Option.bind_eq_some_iff.mp H
          obtain ⟨t434, A190, H⟩ := H
          replace H : (some t434) = some r := H
          have A19 := Aside0.mk A190
          clear A190
          obtain rfl := Option.some.inj H
          go_wp2_with (first | ((with_reducible refine gate_callee (f := 88) rfl ?_); refine goesL_ (some 34) rfl rfl Try.func88 (by kernel_rfl) rfl #[.slice Ao9 x7_1.length co9] rfl (by (try simp only [mA, mB, mC]); first | done | rfl | (simp only [lD, lT]; rfl)) ?_; (with_reducible refine (fp_Trim.calls k1 (fun k_ => some k_ = (.slice Ao9 x7_1.length co9 : Value).ownBlock) _ _ x7_1 t434 _ ?side1 A19.out).mono ?_); (case side1 => exact Kd.R_V (Kd.R_tight rfl (HO_7.out))); rintro e w20 ⟨v435, rfl, ho0, hb⟩; refine ⟨_, rfl, ?_⟩; have n0_ := Aside0.mk (Kd.R_below (by (with_reducible repeat (first | apply Kd.R_alloc | apply Kd.R_drewN | apply Kd.R_drew)); exact HO_7.out) hb); have n1_ := Aside0.mk (Kd.V_lower (Kd.V_mono (ok' := fun k_ => (w.heap.size ≤ k_)) ho0 (fun k_ hk_ => Or.elim hk_ (fun hs_ => ((HO_7.out).1 k_ hs_.symm)) (fun hn_ => (Nat.le_trans (below_size (by with_reducible repeat (first | exact HB.out | apply bA | apply bB | apply bC))) hn_)))) (below_size (by with_reducible repeat (first | exact HB.out | apply bA | apply bB | apply bC)))); have n2_ := Aside0.mk (below_step (by with_reducible repeat (first | exact HB.out | apply bA | apply bB | apply bC)) hb); clear HO_7; clear HB; have HO_7 := n0_; have HO436 := n1_; have HB := n2_; clear n0_ n1_ n2_; (try clear hb); (try clear hb2); (try clear hk); (try clear hi); (try clear ho0)))
          go_ret
          exact ⟨_, by first | rfl | (simp [errW_none, errW_some] <;> rfl) | (simp only [← hji4]; first | rfl | (simp [errW_none, errW_some] <;> rfl)) | (simp [*, errW_none, errW_some] <;> rfl), by (with_reducible repeat (first | apply vA | apply vB | apply vC)); exact HO436.out, by with_reducible repeat (first | exact HB.out | apply bA | apply bB | apply bC)⟩
   · rw [if_neg c6] at H
     exact absurd H (by simp)
 · rw [if_neg c5] at H
   exact absurd H (by simp)

end Go.Proofs.Ytmknclgamadphaa.PPolymodBezout
