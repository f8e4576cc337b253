-- WRITTEN BY sprint.py (a program of this repo, over the kit's print.py): nothing here is trusted, Lean checks it.
import Derived.Test.YtmknclgamadphaaPPolymodDivisionsx0
import Derived.Test.YtmknclgamadphaaPPolymodDivisionsx1
import Derived.Test.YtmknclgamadphaaPPolymodDivisionsx2
import Derived.Test.YtmknclgamadphaaPPolymodDivisionsx3
import Derived.Test.YtmknclgamadphaaPPolymodDivisionsx5
import Derived.Test.YtmknclgamadphaaPPolymodDivisionsx6
namespace Go.Proofs.Ytmknclgamadphaa.PPolymodDivisions
open Go.RowKit Go.Proofs.YtmknclgamadphaaW.PrintWords Go.Proofs.YtmknclgamadphaaW.PrintLast Go.Proofs.YtmknclgamadphaaW.PrintMore
attribute [local go_sem] max2_int min2_int max_two min_two max_three min_three max_four min_four   -- for this text's walks alone
set_option linter.unusedVariables false
set_option linter.unusedSimpArgs false

/-! ### galoislaw09_right: function 26 -/
def galoislaw09_right.f (k : Nat) (l0 : List Int) (a1 : Int) (a2 : Int) (l3 : List Int) : Option (Bool) := if a2 = 0 then ((galoisref09_Large.f l3).bind fun t347 => (if t347 = 0 then ((galoisref09_Same.f k l0 l3).bind fun t348 => (if t348 = true then (some (a1 == 0)) else (some false))) else (if (l0.length : Int) = 0 then (some (a1 == t347)) else (some false)))) else (if (l0.length : Int) = 0 then (some (a1 == a2)) else (some false))
theorem galoislaw09_right.mono : ∀ a0 a1 a2 a3 k, LeO (galoislaw09_right.f k a0 a1 a2 a3) (galoislaw09_right.f (k + 1) a0 a1 a2 a3) := by
 intro a0 a1 a2 a3 k
 unfold galoislaw09_right.f
 repeat' first
  | (with_reducible apply galoisref09_Same.mono)
  | (with_reducible apply LeO.refl)
  | (with_reducible apply LeO.none)
  | (with_reducible refine LeO.ite ?_ ?_)
  | (with_reducible refine LeO.bind ?_ (fun _ => ?_))
set_option maxHeartbeats 8000000 in
set_option maxRecDepth 100000 in
theorem galoislaw09_right.calls (k : Nat) (A0 : Option Addr) (c0 : Nat) (l0 : List Int) (a1 : Int) (a2 : Int) (A3 : Option Addr) (c3 : Nat) (l3 : List Int) (r : Bool) (w : World) (hr0 : Kd.C (Kd.int .i64) w A0 l0.length l0) (hc0 : l0.length ≤ c0) (hr3 : Kd.C (Kd.int .i64) w A3 l3.length l3) (hc3 : l3.length ≤ c3) (h : galoislaw09_right.f k l0 a1 a2 l3 = some r) :
 Calls Try.prog 26 #[.slice A0 l0.length c0, .int .i64 a1, .int .i64 a2, .slice A3 l3.length c3] w fun e w' => e = .returned (.bool r) ∧ Drawn0 w w' := by
 have HR0 := ak hr0
 have HC0 := ak hc0
 clear hr0 hc0
 have HR3 := ak hr3
 have HC3 := ak hc3
 clear hr3 hc3
 have H : (if a2 = 0 then ((galoisref09_Large.f l3).bind fun t347 => (if t347 = 0 then ((galoisref09_Same.f k l0 l3).bind fun t348 => (if t348 = true then (some (a1 == 0)) else (some false))) else (if (l0.length : Int) = 0 then (some (a1 == t347)) else (some false)))) else (if (l0.length : Int) = 0 then (some (a1 == a2)) else (some false))) = some r := h
 clear h
 by_cases c5 : a2 = 0
 · rw [if_pos c5] at H
   have c5b0 : (a2 == 0) = true := beq_iff_eq.mpr c5
   have c5b1 : (a2 != 0) = false := bne_eq_false_iff_eq.mpr c5
   clear c5
   replace H := Option.bind_eq_some_iff.mp H
   obtain ⟨t347, A60, H⟩ := H
   replace H : (if t347 = 0 then ((galoisref09_Same.f k l0 l3).bind fun t348 => (if t348 = true then (some (a1 == 0)) else (some false))) else (if (l0.length : Int) = 0 then (some (a1 == t347)) else (some false))) = some r := H
   have A6 := ak A60
   clear A60
   by_cases c7 : t347 = 0
   · rw [if_pos c7] at H
     have c7b0 : (t347 == 0) = true := beq_iff_eq.mpr c7
     have c7b1 : (t347 != 0) = false := bne_eq_false_iff_eq.mpr c7
     clear c7
     replace H := Option.bind_eq_some_iff.mp H
     obtain ⟨t348, A80, H⟩ := H
     replace H : (if t348 = true then (some (a1 == 0)) else (some false)) = some r := H
     have A8 := ak A80
     clear A80
     by_cases c9 : t348 = true
     · subst c9
       have H1 : (some (a1 == 0)) = some r := by rw [if_pos rfl] at H; exact H
       clear H
       have H := H1
       clear H1
       obtain rfl := Option.some.inj H
       go_enter Try.func26, Try.ntmps26
       go_wp2_with (first | ((with_reducible refine gate_callee (f := 76) rfl ?_); refine goesL_ (some 12) rfl rfl Try.func76 (by kernel_rfl) rfl #[.slice A3 l3.length c3] rfl mX ?_; (with_reducible refine (galoisref09_Large.calls _ _ l3 t347 _ ?side1 ?side2 A6.out).mono ?_); (case side1 => repeat (first | exact HR3.out | (with_reducible first | apply cA | apply cB | apply cC))); (case side2 => exact HC3.out); rintro e w' ⟨rfl, ⟨nd, rfl⟩⟩; refine ⟨_, rfl, ?_⟩) | ((with_reducible refine gate_callee (f := 37) rfl ?_); refine goesL_ (some 25) rfl rfl Try.func37 (by kernel_rfl) rfl #[.slice A0 l0.length c0, .slice A3 l3.length c3] rfl mX ?_; (with_reducible refine (galoisref09_Same.calls k _ _ l0 _ _ l3 true _ ?side1 ?side2 ?side3 ?side4 A8.out).mono ?_); (case side1 => repeat (first | exact HR0.out | (with_reducible first | apply cA | apply cB | apply cC))); (case side2 => exact HC0.out); (case side3 => repeat (first | exact HR3.out | (with_reducible first | apply cA | apply cB | apply cC))); (case side4 => exact HC3.out); rintro e w' ⟨rfl, ⟨nd, rfl⟩⟩; refine ⟨_, rfl, ?_⟩))
       go_ret
       exact ⟨by first | rfl | (simp; done) | (simp [*]; done), by repeat (first | exact Drawn0.refl _ | apply Drawn0.step)⟩
     · replace c9 := Bool.eq_false_iff.mpr c9
       subst c9
       have H1 : (some false) = some r := by rw [if_neg (show ¬ (false = true) by decide)] at H; exact H
       clear H
       have H := H1
       clear H1
       obtain rfl := Option.some.inj H
       go_enter Try.func26, Try.ntmps26
       go_wp2_with (first | ((with_reducible refine gate_callee (f := 76) rfl ?_); refine goesL_ (some 12) rfl rfl Try.func76 (by kernel_rfl) rfl #[.slice A3 l3.length c3] rfl mX ?_; (with_reducible refine (galoisref09_Large.calls _ _ l3 t347 _ ?side1 ?side2 A6.out).mono ?_); (case side1 => repeat (first | exact HR3.out | (with_reducible first | apply cA | apply cB | apply cC))); (case side2 => exact HC3.out); rintro e w' ⟨rfl, ⟨nd, rfl⟩⟩; refine ⟨_, rfl, ?_⟩) | ((with_reducible refine gate_callee (f := 37) rfl ?_); refine goesL_ (some 25) rfl rfl Try.func37 (by kernel_rfl) rfl #[.slice A0 l0.length c0, .slice A3 l3.length c3] rfl mX ?_; (with_reducible refine (galoisref09_Same.calls k _ _ l0 _ _ l3 false _ ?side1 ?side2 ?side3 ?side4 A8.out).mono ?_); (case side1 => repeat (first | exact HR0.out | (with_reducible first | apply cA | apply cB | apply cC))); (case side2 => exact HC0.out); (case side3 => repeat (first | exact HR3.out | (with_reducible first | apply cA | apply cB | apply cC))); (case side4 => exact HC3.out); rintro e w' ⟨rfl, ⟨nd, rfl⟩⟩; refine ⟨_, rfl, ?_⟩))
       go_ret
       exact ⟨by first | rfl | (simp; done) | (simp [*]; done), by repeat (first | exact Drawn0.refl _ | apply Drawn0.step)⟩
   · rw [if_neg c7] at H
     have c7b0 : (t347 == 0) = false := beq_eq_false_iff_ne.mpr c7
     have c7b1 : (t347 != 0) = true := bne_iff_ne.mpr c7
     by_cases c10 : (l0.length : Int) = 0
     · rw [if_pos c10] at H
       have c10b0 : ((l0.length : Int) == 0) = true := beq_iff_eq.mpr c10
       have c10b1 : ((l0.length : Int) != 0) = false := bne_eq_false_iff_eq.mpr c10
       clear c10
       obtain rfl := Option.some.inj H
       go_enter Try.func26, Try.ntmps26
       go_wp2_with (first | ((with_reducible refine gate_callee (f := 76) rfl ?_); refine goesL_ (some 12) rfl rfl Try.func76 (by kernel_rfl) rfl #[.slice A3 l3.length c3] rfl mX ?_; (with_reducible refine (galoisref09_Large.calls _ _ l3 t347 _ ?side1 ?side2 A6.out).mono ?_); (case side1 => repeat (first | exact HR3.out | (with_reducible first | apply cA | apply cB | apply cC))); (case side2 => exact HC3.out); rintro e w' ⟨rfl, ⟨nd, rfl⟩⟩; refine ⟨_, rfl, ?_⟩))
       go_ret
       exact ⟨by first | rfl | (simp; done) | (simp [*]; done), by repeat (first | exact Drawn0.refl _ | apply Drawn0.step)⟩
     · rw [if_neg c10] at H
       have c10b0 : ((l0.length : Int) == 0) = false := beq_eq_false_iff_ne.mpr c10
       have c10b1 : ((l0.length : Int) != 0) = true := bne_iff_ne.mpr c10
       have c10b2 : ¬ (l0 = []) := fun h_ => c10 (by rw [h_]; rfl)
       obtain rfl := Option.some.inj H
       go_enter Try.func26, Try.ntmps26
       go_wp2_with (first | ((with_reducible refine gate_callee (f := 76) rfl ?_); refine goesL_ (some 12) rfl rfl Try.func76 (by kernel_rfl) rfl #[.slice A3 l3.length c3] rfl mX ?_; (with_reducible refine (galoisref09_Large.calls _ _ l3 t347 _ ?side1 ?side2 A6.out).mono ?_); (case side1 => repeat (first | exact HR3.out | (with_reducible first | apply cA | apply cB | apply cC))); (case side2 => exact HC3.out); rintro e w' ⟨rfl, ⟨nd, rfl⟩⟩; refine ⟨_, rfl, ?_⟩))
       go_ret
       exact ⟨by first | rfl | (simp; done) | (simp [*]; done), by repeat (first | exact Drawn0.refl _ | apply Drawn0.step)⟩
 · rw [if_neg c5] at H
   have c5b0 : (a2 == 0) = false := beq_eq_false_iff_ne.mpr c5
   have c5b1 : (a2 != 0) = true := bne_iff_ne.mpr c5
   by_cases c11 : (l0.length : Int) = 0
   · rw [if_pos c11] at H
     have c11b0 : ((l0.length : Int) == 0) = true := beq_iff_eq.mpr c11
     have c11b1 : ((l0.length : Int) != 0) = false := bne_eq_false_iff_eq.mpr c11
     clear c11
     obtain rfl := Option.some.inj H
     go_enter Try.func26, Try.ntmps26
     go_wp2
     go_ret
     exact ⟨by first | rfl | (simp; done) | (simp [*]; done), by repeat (first | exact Drawn0.refl _ | apply Drawn0.step)⟩
   · rw [if_neg c11] at H
     have c11b0 : ((l0.length : Int) == 0) = false := beq_eq_false_iff_ne.mpr c11
     have c11b1 : ((l0.length : Int) != 0) = true := bne_iff_ne.mpr c11
     have c11b2 : ¬ (l0 = []) := fun h_ => c11 (by rw [h_]; rfl)
     obtain rfl := Option.some.inj H
     go_enter Try.func26, Try.ntmps26
     go_wp2
     go_ret
     exact ⟨by first | rfl | (simp; done) | (simp [*]; done), by repeat (first | exact Drawn0.refl _ | apply Drawn0.step)⟩

/-! ### polymod_Monic: function 30 -/
def polymod_Monic.f (k : Nat) (a0 : Int) (l1 : List Int) : Option (List Int × Int) := (polymod_first.f k a0 (([l1] : List (List Int)))).bind fun t352 => (if t352 = 0 then ((fp_Monic.f k a0 l1).bind fun t353 => (some (t353, 0))) else (some (([] : List Int), t352)))
theorem polymod_Monic.mono : ∀ a0 a1 k, LeO (polymod_Monic.f k a0 a1) (polymod_Monic.f (k + 1) a0 a1) := by
 intro a0 a1 k
 unfold polymod_Monic.f
 repeat' first
  | (with_reducible apply fp_Monic.mono)
  | (with_reducible apply polymod_first.mono)
  | (with_reducible apply LeO.refl)
  | (with_reducible apply LeO.none)
  | (with_reducible refine LeO.ite ?_ ?_)
  | (with_reducible refine LeO.bind ?_ (fun _ => ?_))
set_option maxHeartbeats 8000000 in
set_option maxRecDepth 100000 in
theorem polymod_Monic.calls (k : Nat) (a0 : Int) (P1_ : Nat → Prop) (A1 : Option Addr) (c1 : Nat) (l1 : List Int) (r1 : List Int) (r2 : Int) (w : World) (hs1 : Kd.V (Kd.int .i64) 3 w w.heap.size (fun k_ => P1_ k_) (.slice A1 l1.length c1) l1) (h : polymod_Monic.f k a0 l1 = some (r1, r2)) :
 Calls Try.prog 30 #[.int .i64 a0, .slice A1 l1.length c1] w fun e w' => ∃ v0_ : Value, e = .returned (.tuple #[v0_, .int .i64 r2]) ∧ Kd.V (Kd.int .i64) 3 w' w.heap.size (fun k_ => (P1_ k_ ∨ w.heap.size ≤ k_)) v0_ r1 ∧ Below w.heap.size w w' := by
 have HO1 := ak (show Kd.V (Kd.int .i64) 3 w w.heap.size (fun k_ => (P1_ k_ ∨ w.heap.size ≤ k_)) (.slice A1 l1.length c1) l1 from Kd.V_mono hs1 (fun k_ hk => .inl hk))
 have HB := ak (Below.refl w.heap.size w)
 have H : ((polymod_first.f k a0 (([l1] : List (List Int)))).bind fun t352 => (if t352 = 0 then ((fp_Monic.f k a0 l1).bind fun t353 => (some (t353, 0))) else (some (([] : List Int), t352)))) = some (r1, r2) := h
 clear h
 obtain ⟨y349, hy349⟩ : ∃ y_ : List (List Int), y_ = (([l1] : List (List Int))) := ⟨_, rfl⟩
 replace H : ((polymod_first.f k a0 y349).bind fun t352 => (if t352 = 0 then ((fp_Monic.f k a0 l1).bind fun t353 => (some (t353, 0))) else (some (([] : List Int), t352)))) = some (r1, r2) := by first | (rw [hy349]; with_reducible exact H) | (have H2_ := (Option.bind_some _ _).symm.trans H; rw [hy349]; with_reducible exact H2_) | (have H2_ := (Option.bind_some _ _).symm.trans H; with_reducible exact H2_) | with_reducible exact H | (rw [hy349]; exact H) | exact H
 have Ny349 := ak hy349
 clear hy349
 replace H := Option.bind_eq_some_iff.mp H
 obtain ⟨t352, A30, H⟩ := H
 replace H : (if t352 = 0 then ((fp_Monic.f k a0 l1).bind fun t353 => (some (t353, 0))) else (some (([] : List Int), t352))) = some (r1, r2) := H
 have A3 := ak A30
 clear A30
 by_cases c4 : t352 = 0
 · rw [if_pos c4] at H
   have c4b0 : (t352 == 0) = true := beq_iff_eq.mpr c4
   have c4b1 : (t352 != 0) = false := bne_eq_false_iff_eq.mpr c4
   clear c4
   replace H := Option.bind_eq_some_iff.mp H
   obtain ⟨t353, A50, H⟩ := H
   replace H : (some (t353, 0)) = some (r1, r2) := H
   have A5 := ak A50
   clear A50
   simp only [Option.some.injEq, Prod.mk.injEq] at H
   obtain ⟨rfl, rfl⟩ := H
   go_enter Try.func30, Try.ntmps30
   go_wp2_with (first | ((with_reducible refine gate_dst (N := 9) rfl ?_); refine Kd.N_lit (Kd.slice 3 (Kd.int .i64)) _ 23 ?hg (N' := 9) ?hd (xs := ([l1] : List (List Int))) (inner := [.slice A1 l1.length c1]) (ok := (fun k_ => (P1_ k_ ∨ w.heap.size ≤ k_))) (okp := (fun k_ => (P1_ k_ ∨ w.heap.size ≤ k_))) ?hr ?hp (fun _ hk => hk) ((show ∀ k_, w.heap.size ≤ k_ → (fun k_ => (P1_ k_ ∨ w.heap.size ≤ k_)) k_ from fun k_ hk => (.inr (Nat.le_trans (below_size bX) hk))) _ (Nat.le_refl _)) (Below.refl _ _) (Nat.le_refl _) (by simp) ?_; (case hd => rfl); (case hg => rfl); (case hr => first | (go_simp; done) | (go_simp; rfl)); (case hp => exact (Reps.one (show Kd.FK (Kd.slice 3 (Kd.int .i64)) _ _ l1 [.slice A1 l1.length c1] from (Kd.FK_slice_mk (Kd.V_reads' (Kd.V_mono (ok' := (fun k_ => (P1_ k_ ∨ w.heap.size ≤ k_))) (HO1.out) (fun k_ hk => hk))).2.1 (Kd.V_F (Kd.V_mono (ok' := (fun k_ => (P1_ k_ ∨ w.heap.size ≤ k_))) (HO1.out) (fun k_ hk => hk))))) (Reps.none _ _))); intro v350 w6 ho7 hb hg_ hnew_; clear hg_ hnew_; (first | rw [← Ny349.out] at ho7 | (simp only [Int.reduceToNat] at ho7; rw [← Ny349.out] at ho7)); have n0_ := ak (Kd.V_elder' (vX HO1.out) (Kd.N_base ho7) hb); have n1_ := ak (Kd.N_lower ho7 (below_size bX)); have n2_ := ak (below_step bX hb); clear HO1; clear HB; have HO1 := n0_; have HO351 := n1_; have HB := n2_; clear n0_ n1_ n2_; clear hb ho7; obtain ⟨Ao8, co8, eo8⟩ := Kd.N_slice HO351.out; subst eo8) | ((with_reducible refine gate_callee (f := 60) rfl ?_); refine goesL_ (some 10) rfl rfl Try.func60 (by kernel_rfl) rfl #[.int .i64 a0, .slice Ao8 y349.length co8] rfl mX ?_; (with_reducible refine (polymod_first.calls k a0 _ _ y349 t352 _ ?side1 ?side2 A3.out).mono ?_); (case side1 => exact cX (Kd.N_reads' HO351.out).2.2); (case side2 => exact (Kd.N_reads' HO351.out).2.1); rintro e w9 ⟨rfl, hb⟩; refine ⟨_, rfl, ?_⟩; have n0_ := ak (Kd.V_below (vX HO1.out) hb); have n1_ := ak (Kd.N_below (by (with_reducible repeat (first | apply Kd.N_alloc | apply Kd.N_drewN | apply Kd.N_drew)); exact HO351.out) hb); have n2_ := ak (below_step bX hb); clear HO1; clear HO351; clear HB; have HO1 := n0_; have HO351 := n1_; have HB := n2_; clear n0_ n1_ n2_; (try clear hb); (try clear hb2); (try clear hk); (try clear hi)) | ((with_reducible refine gate_callee (f := 80) rfl ?_); refine goesL_ (some 16) rfl rfl Try.func80 (by kernel_rfl) rfl #[.int .i64 a0, .slice A1 l1.length c1] rfl mX ?_; (with_reducible refine (fp_Monic.calls k a0 _ _ l1 t353 _ ?side1 ?side2 A5.out).mono ?_); (case side1 => exact cX (Kd.V_reads' HO1.out).2.2); (case side2 => exact (Kd.V_reads' HO1.out).2.1); rintro e w10 ⟨v354, rfl, ho0, hb⟩; refine ⟨_, rfl, ?_⟩; have n0_ := ak (Kd.V_below (vX HO1.out) hb); have n1_ := ak (Kd.N_below (by (with_reducible repeat (first | apply Kd.N_alloc | apply Kd.N_drewN | apply Kd.N_drew)); exact HO351.out) hb); have n2_ := ak (Kd.V_lower (Kd.V_mono (ok' := fun k_ => (P1_ k_ ∨ w.heap.size ≤ k_) ∧ some k_ ≠ (.slice Ao8 y349.length co8 : Value).ownBlock) ho0 (fun k_ hk_ => ⟨(.inr (Nat.le_trans (below_size bX) hk_)), (Kd.fresh' (Kd.N_lt (by (with_reducible repeat (first | apply Kd.N_alloc | apply Kd.N_drewN | apply Kd.N_drew)); exact HO351.out)) k_ hk_)⟩)) (below_size bX)); have n3_ := ak (below_step bX hb); clear HO1; clear HO351; clear HB; have HO1 := n0_; have HO351 := n1_; have HO355 := n2_; have HB := n3_; clear n0_ n1_ n2_ n3_; (try clear hb); (try clear hb2); (try clear hk); (try clear hi); (try clear ho0)))
   go_ret2
   exact ⟨_, by first | rfl | (simp [errW_none, errW_some] <;> rfl) | (simp [*, errW_none, errW_some] <;> rfl), by (with_reducible repeat (first | apply vA | apply vB | apply vC)); exact Kd.V_mono HO355.out (fun _ hk => hk.1), by repeat (first | (with_reducible first | exact HB.out | apply bA | apply bB | apply bC) | exact HB.out)⟩
 · rw [if_neg c4] at H
   have c4b0 : (t352 == 0) = false := beq_eq_false_iff_ne.mpr c4
   have c4b1 : (t352 != 0) = true := bne_iff_ne.mpr c4
   simp only [Option.some.injEq, Prod.mk.injEq] at H
   obtain ⟨rfl, rfl⟩ := H
   go_enter Try.func30, Try.ntmps30
   go_wp2_with (first | ((with_reducible refine gate_dst (N := 9) rfl ?_); refine Kd.N_lit (Kd.slice 3 (Kd.int .i64)) _ 23 ?hg (N' := 9) ?hd (xs := ([l1] : List (List Int))) (inner := [.slice A1 l1.length c1]) (ok := (fun k_ => (P1_ k_ ∨ w.heap.size ≤ k_))) (okp := (fun k_ => (P1_ k_ ∨ w.heap.size ≤ k_))) ?hr ?hp (fun _ hk => hk) ((show ∀ k_, w.heap.size ≤ k_ → (fun k_ => (P1_ k_ ∨ w.heap.size ≤ k_)) k_ from fun k_ hk => (.inr (Nat.le_trans (below_size bX) hk))) _ (Nat.le_refl _)) (Below.refl _ _) (Nat.le_refl _) (by simp) ?_; (case hd => rfl); (case hg => rfl); (case hr => first | (go_simp; done) | (go_simp; rfl)); (case hp => exact (Reps.one (show Kd.FK (Kd.slice 3 (Kd.int .i64)) _ _ l1 [.slice A1 l1.length c1] from (Kd.FK_slice_mk (Kd.V_reads' (Kd.V_mono (ok' := (fun k_ => (P1_ k_ ∨ w.heap.size ≤ k_))) (HO1.out) (fun k_ hk => hk))).2.1 (Kd.V_F (Kd.V_mono (ok' := (fun k_ => (P1_ k_ ∨ w.heap.size ≤ k_))) (HO1.out) (fun k_ hk => hk))))) (Reps.none _ _))); intro v350 w11 ho12 hb hg_ hnew_; clear hg_ hnew_; (first | rw [← Ny349.out] at ho12 | (simp only [Int.reduceToNat] at ho12; rw [← Ny349.out] at ho12)); have n0_ := ak (Kd.V_elder' (vX HO1.out) (Kd.N_base ho12) hb); have n1_ := ak (Kd.N_lower ho12 (below_size bX)); have n2_ := ak (below_step bX hb); clear HO1; clear HB; have HO1 := n0_; have HO351 := n1_; have HB := n2_; clear n0_ n1_ n2_; clear hb ho12; obtain ⟨Ao13, co13, eo13⟩ := Kd.N_slice HO351.out; subst eo13) | ((with_reducible refine gate_callee (f := 60) rfl ?_); refine goesL_ (some 10) rfl rfl Try.func60 (by kernel_rfl) rfl #[.int .i64 a0, .slice Ao13 y349.length co13] rfl mX ?_; (with_reducible refine (polymod_first.calls k a0 _ _ y349 t352 _ ?side1 ?side2 A3.out).mono ?_); (case side1 => exact cX (Kd.N_reads' HO351.out).2.2); (case side2 => exact (Kd.N_reads' HO351.out).2.1); rintro e w14 ⟨rfl, hb⟩; refine ⟨_, rfl, ?_⟩; have n0_ := ak (Kd.V_below (vX HO1.out) hb); have n1_ := ak (Kd.N_below (by (with_reducible repeat (first | apply Kd.N_alloc | apply Kd.N_drewN | apply Kd.N_drew)); exact HO351.out) hb); have n2_ := ak (below_step bX hb); clear HO1; clear HO351; clear HB; have HO1 := n0_; have HO351 := n1_; have HB := n2_; clear n0_ n1_ n2_; (try clear hb); (try clear hb2); (try clear hk); (try clear hi)))
   go_ret2
   exact ⟨_, by first | rfl | (simp [errW_none, errW_some] <;> rfl) | (simp [*, errW_none, errW_some] <;> rfl), (Kd.V_nil _ _ _ _ _), by repeat (first | (with_reducible first | exact HB.out | apply bA | apply bB | apply bC) | exact HB.out)⟩

/-! ### fp_Xgcd: function 75 -/
def fp_Xgcd.l0 : Nat → Int → List Int → List Int → List Int → List Int → List Int → List Int → Option (List Int × List Int × List Int)
 | 0, _, _, _, _, _, _, _ => none
 | k + 1, x0, x1, x2, x9, x10, x11, x12 => if (x10.length : Int) > 0 then ((fp_DivMod.f k x0 x9 x10).bind fun bt367 => ((fp_Mul.f k x0 bt367.1 x12).bind fun t373 => ((fp_Sub.f k x0 x11 t373).bind fun t376 => (fp_Xgcd.l0 k x0 x1 x2 x10 bt367.2 x12 t376)))) else (if 0 ≤ (wrap64 ((x9.length : Int) - 1)) then (if (wrap64 ((x9.length : Int) - 1)) < (x9.length : Int) then ((fp_Inv.f k x0 (rd x9 (wrap64 ((x9.length : Int) - 1)))).bind fun t380 => ((fp_Scale.f k x0 x9 t380).bind fun t381 => ((fp_DivMod.f k x0 x2 t381).bind fun bt384 => ((fp_Scale.f k x0 x11 t380).bind fun t390 => ((fp_Rem.f k x0 t390 bt384.1).bind fun t393 => ((fp_Mul.f k x0 t393 x1).bind fun t396 => ((fp_Sub.f k x0 t381 t396).bind fun t399 => ((fp_DivMod.f k x0 t399 x2).bind fun bt402 => (some (t381, t393, bt402.1)))))))))) else (none)) else (none))
def fp_Xgcd.f (k : Nat) (a0 : Int) (l1 : List Int) (l2 : List Int) : Option (List Int × List Int × List Int) := if (l2.length : Int) = 0 then (if (l1.length : Int) = 0 then (some (([] : List Int), ([] : List Int), ([] : List Int))) else ((fp_Monic.f k a0 l1).bind fun t356 => (if 0 ≤ (wrap64 ((l1.length : Int) - 1)) then (if (wrap64 ((l1.length : Int) - 1)) < (l1.length : Int) then ((fp_Inv.f k a0 (rd l1 (wrap64 ((l1.length : Int) - 1)))).bind fun t360 => (some (t356, (([t360] : List Int)), ([] : List Int)))) else (none)) else (none)))) else (fp_Xgcd.l0 k a0 l1 l2 l1 l2 (([1] : List Int)) ([] : List Int))
theorem fp_Xgcd.mono_l : ∀ k, (∀ y0 y1 y2 y3 y4 y5 y6, LeO (fp_Xgcd.l0 k y0 y1 y2 y3 y4 y5 y6) (fp_Xgcd.l0 (k + 1) y0 y1 y2 y3 y4 y5 y6))
 | 0 => fun _ _ _ _ _ _ _ r h => by simp [fp_Xgcd.l0] at h
 | k + 1 => by
   have ih0 := fp_Xgcd.mono_l k
   · intro y0 y1 y2 y3 y4 y5 y6
     unfold fp_Xgcd.l0
     repeat' first
     | (with_reducible apply ih0)
     | (with_reducible apply fp_DivMod.mono)
     | (with_reducible apply fp_Inv.mono)
     | (with_reducible apply fp_Monic.mono)
     | (with_reducible apply fp_Mul.mono)
     | (with_reducible apply fp_Rem.mono)
     | (with_reducible apply fp_Scale.mono)
     | (with_reducible apply fp_Sub.mono)
     | (with_reducible apply LeO.refl)
     | (with_reducible apply LeO.none)
     | (with_reducible refine LeO.ite ?_ ?_)
     | (with_reducible refine LeO.bind ?_ (fun _ => ?_))
theorem fp_Xgcd.mono : ∀ a0 a1 a2 k, LeO (fp_Xgcd.f k a0 a1 a2) (fp_Xgcd.f (k + 1) a0 a1 a2) := by
 intro a0 a1 a2 k
 have ih0 := fp_Xgcd.mono_l k
 unfold fp_Xgcd.f
 repeat' first
  | (with_reducible apply ih0)
  | (with_reducible apply fp_DivMod.mono)
  | (with_reducible apply fp_Inv.mono)
  | (with_reducible apply fp_Monic.mono)
  | (with_reducible apply fp_Mul.mono)
  | (with_reducible apply fp_Rem.mono)
  | (with_reducible apply fp_Scale.mono)
  | (with_reducible apply fp_Sub.mono)
  | (with_reducible apply LeO.refl)
  | (with_reducible apply LeO.none)
  | (with_reducible refine LeO.ite ?_ ?_)
  | (with_reducible refine LeO.bind ?_ (fun _ => ?_))
def fp_Xgcd.T4 : Bool × List (List Nat × List Nat) := (true, [([], []), ([], []), ([0, 1], [0, 1]), ([], []), ([], []), ([], []), ([5], [5]), ([6], [6]), ([4, 7], [4, 7]), ([8], [8]), ([3, 9, 2], [3, 9]), ([10], [10]), ([2, 10, 0, 1, 2], [2]), ([11, 12, 0, 1, 2, 3, 4, 5, 6, 7, 8, 9, 10, 11, 12], [11]), ([13, 0, 1, 2, 3, 4, 5, 6, 7, 8, 9, 10, 11, 12, 13], [])])
def fp_Xgcd.B4 : List Nat := [0, 0, 3, 0, 0, 0, 32, 96, 240, 496, 1023, 2047, 2047, 8191, 16383]
theorem fp_Xgcd.tab4 : rtab .any (opsOf Try.f75 4) = fp_Xgcd.T4 := by kernel_rfl
theorem fp_Xgcd.bits4 : waitsOk fp_Xgcd.T4.2 fp_Xgcd.B4 = true := by kernel_rfl
set_option maxHeartbeats 8000000 in
set_option maxRecDepth 100000 in
theorem fp_Xgcd.calls (k : Nat) (a0 : Int) (P1_ : Nat → Prop) (A1 : Option Addr) (c1 : Nat) (l1 : List Int) (P2_ : Nat → Prop) (A2 : Option Addr) (c2 : Nat) (l2 : List Int) (r1 : List Int) (r2 : List Int) (r3 : List Int) (w : World) (hs1 : Kd.V (Kd.int .i64) 3 w w.heap.size (fun k_ => P1_ k_) (.slice A1 l1.length c1) l1) (hs2 : Kd.V (Kd.int .i64) 3 w w.heap.size (fun k_ => P2_ k_) (.slice A2 l2.length c2) l2) (h : fp_Xgcd.f k a0 l1 l2 = some (r1, r2, r3)) :
 Calls Try.prog 75 #[.int .i64 a0, .slice A1 l1.length c1, .slice A2 l2.length c2] w fun e w' => ∃ v0_ v1_ v2_ : Value, e = .returned (.tuple #[v0_, v1_, v2_]) ∧ Kd.V (Kd.int .i64) 3 w' w.heap.size (fun k_ => ((P1_ k_ ∨ P2_ k_) ∨ w.heap.size ≤ k_)) v0_ r1 ∧ Kd.V (Kd.int .i64) 3 w' w.heap.size (fun k_ => ((P1_ k_ ∨ P2_ k_) ∨ w.heap.size ≤ k_)) v1_ r2 ∧ Kd.V (Kd.int .i64) 3 w' w.heap.size (fun k_ => ((P1_ k_ ∨ P2_ k_) ∨ w.heap.size ≤ k_)) v2_ r3 ∧ Below w.heap.size w w' := by
 have HO1 := ak (show Kd.V (Kd.int .i64) 3 w w.heap.size (fun k_ => ((P1_ k_ ∨ P2_ k_) ∨ w.heap.size ≤ k_)) (.slice A1 l1.length c1) l1 from Kd.V_mono hs1 (fun k_ hk => .inl (.inl hk)))
 have HO2 := ak (show Kd.V (Kd.int .i64) 3 w w.heap.size (fun k_ => ((P1_ k_ ∨ P2_ k_) ∨ w.heap.size ≤ k_)) (.slice A2 l2.length c2) l2 from Kd.V_mono hs2 (fun k_ hk => .inl (.inr hk)))
 have HB := ak (Below.refl w.heap.size w)
 have H : (if (l2.length : Int) = 0 then (if (l1.length : Int) = 0 then (some (([] : List Int), ([] : List Int), ([] : List Int))) else ((fp_Monic.f k a0 l1).bind fun t356 => (if 0 ≤ (wrap64 ((l1.length : Int) - 1)) then (if (wrap64 ((l1.length : Int) - 1)) < (l1.length : Int) then ((fp_Inv.f k a0 (rd l1 (wrap64 ((l1.length : Int) - 1)))).bind fun t360 => (some (t356, (([t360] : List Int)), ([] : List Int)))) else (none)) else (none)))) else (fp_Xgcd.l0 k a0 l1 l2 l1 l2 (([1] : List Int)) ([] : List Int))) = some (r1, r2, r3) := h
 clear h
 by_cases c4 : (l2.length : Int) = 0
 · rw [if_pos c4] at H
   have c4b0 : ((l2.length : Int) == 0) = true := beq_iff_eq.mpr c4
   have c4b1 : ((l2.length : Int) != 0) = false := bne_eq_false_iff_eq.mpr c4
   clear c4
   by_cases c5 : (l1.length : Int) = 0
   · rw [if_pos c5] at H
     have c5b0 : ((l1.length : Int) == 0) = true := beq_iff_eq.mpr c5
     have c5b1 : ((l1.length : Int) != 0) = false := bne_eq_false_iff_eq.mpr c5
     clear c5
     simp only [Option.some.injEq, Prod.mk.injEq] at H
     obtain ⟨rfl, rfl, rfl⟩ := H
     go_enter Try.func75, Try.ntmps75
     go_wp2
     go_ret3
     exact ⟨_, _, _, by first | rfl | (simp [errW_none, errW_some] <;> rfl) | (simp [*, errW_none, errW_some] <;> rfl), (Kd.V_nil _ _ _ _ _), (Kd.V_nil _ _ _ _ _), (Kd.V_nil _ _ _ _ _), by repeat (first | (with_reducible first | exact HB.out | apply bA | apply bB | apply bC) | exact HB.out)⟩
   · rw [if_neg c5] at H
     have c5b0 : ((l1.length : Int) == 0) = false := beq_eq_false_iff_ne.mpr c5
     have c5b1 : ((l1.length : Int) != 0) = true := bne_iff_ne.mpr c5
     have c5b2 : ¬ (l1 = []) := fun h_ => c5 (by rw [h_]; rfl)
     replace H := Option.bind_eq_some_iff.mp H
     obtain ⟨t356, A60, H⟩ := H
     replace H : (if 0 ≤ (wrap64 ((l1.length : Int) - 1)) then (if (wrap64 ((l1.length : Int) - 1)) < (l1.length : Int) then ((fp_Inv.f k a0 (rd l1 (wrap64 ((l1.length : Int) - 1)))).bind fun t360 => (some (t356, (([t360] : List Int)), ([] : List Int)))) else (none)) else (none)) = some (r1, r2, r3) := H
     have A6 := ak A60
     clear A60
     obtain ⟨ji7, hji7⟩ : ∃ j_ : Int, (wrap64 ((l1.length : Int) - 1)) = j_ := ⟨_, rfl⟩
     replace H : (if 0 ≤ (ji7) then (if (ji7) < (l1.length : Int) then ((fp_Inv.f k a0 (rd l1 (ji7))).bind fun t360 => (some (t356, (([t360] : List Int)), ([] : List Int)))) else (none)) else (none)) = some (r1, r2, r3) := by first | (rw [hji7] at H; exact H) | (simp only [hji7] at H ⊢; exact H)
     (try rw [hji7] at A6)
     have hji7w : (IntKind.i64.wrap ((l1.length : Int) - 1)) = ji7 := (i64_w _).trans hji7
     by_cases c8 : 0 ≤ (ji7)
     · rw [if_pos c8] at H
       have c8b0 : decide (0 ≤ (ji7)) = true := decide_eq_true c8
       clear c8
       by_cases c9 : (ji7) < (l1.length : Int)
       · rw [if_pos c9] at H
         have c9b0 : decide ((ji7) < (l1.length : Int)) = true := decide_eq_true c9
         clear c9
         replace H := Option.bind_eq_some_iff.mp H
         obtain ⟨t360, A100, H⟩ := H
         replace H : (some (t356, (([t360] : List Int)), ([] : List Int))) = some (r1, r2, r3) := H
         have A10 := ak A100
         clear A100
         obtain ⟨y361, hy361⟩ : ∃ y_ : List Int, y_ = (([t360] : List Int)) := ⟨_, rfl⟩
         replace H : (some (t356, y361, ([] : List Int))) = some (r1, r2, r3) := by first | (rw [hy361]; with_reducible exact H) | (have H2_ := (Option.bind_some _ _).symm.trans H; rw [hy361]; with_reducible exact H2_) | (have H2_ := (Option.bind_some _ _).symm.trans H; with_reducible exact H2_) | with_reducible exact H | (rw [hy361]; exact H) | exact H
         have Ny361 := ak hy361
         clear hy361
         simp only [Option.some.injEq, Prod.mk.injEq] at H
         obtain ⟨rfl, rfl, rfl⟩ := H
         go_enter Try.func75, Try.ntmps75
         try go_wp2
         have n0_ := ak (Kd.V_drew HO1.out)
         have n1_ := ak (Kd.V_drew HO2.out)
         have n2_ := ak (below_drew1 HB.out)
         clear HO1
         clear HO2
         clear HB
         have HO1 := n0_
         have HO2 := n1_
         have HB := n2_
         clear n0_ n1_ n2_
         have p359 : 0 ≤ ((ji7) : Int) := of_decide_eq_true aX
         have q359 : (ji7) < (l1.length : Int) := of_decide_eq_true aX
         obtain ⟨ad359, e359, hx359_0⟩ := Kd.at_int (Kd.V_reads' HO1.out).2.2 (ji7) p359 q359
         cases e359
         replace p359 := eq_true p359
         replace q359 := eq_true q359
         refine start_ (n := 15) (S := fun w' => w'.cell? (ad359.add ((ji7)).toNat) = some (.int .i64 (rd l1 (ji7)))) (ds := []) #[false, false, false, false, false, false, false, false, false, false, false, false, false, false, false] (by kernel_rfl) rfl rfl (hx359_0) (fun hHeld => ?_); refine with_tabW fp_Xgcd.tab4 fp_Xgcd.bits4 (fun HT_ HW_ => ?_)
         generalize w.drew = w11 at HO1 HO2 HB hx359_0 hHeld ⊢
         refine pure_ (i := 0) (N := some 27) (v := ?_) (a' := ?_) #[true, false, false, false, false, false, false, false, false, false, false, false, false, false, false] rfl rfl (any_of HT_.out (by kernel_rfl)) (fun _ _ _ h => h) (Or.inl ⟨by rfl, ?_⟩) ?_ ?_
         rotate_left
         · intro w'
           go_simp
           with_reducible rfl
         rotate_left
         · simp only [Act.put, sS, s0, s1, i64_w, i32_w]
           rfl
         refine pure_ (i := 1) (N := some 28) (v := ?_) (a' := ?_) #[true, true, false, false, false, false, false, false, false, false, false, false, false, false, false] rfl rfl (any_of HT_.out (by kernel_rfl)) (fun _ _ _ h => h) (Or.inl ⟨by rfl, ?_⟩) ?_ ?_
         rotate_left
         · intro w'
           go_simp
           with_reducible rfl
         rotate_left
         · simp only [Act.put, sS, s0, s1, i64_w, i32_w]
           rfl
         refine pure_ (i := 3) (N := some 30) (v := ?_) (a' := ?_) #[true, true, false, true, false, false, false, false, false, false, false, false, false, false, false] rfl rfl (any_of HT_.out (by kernel_rfl)) (fun _ _ _ h => h) (Or.inl ⟨by rfl, ?_⟩) ?_ ?_
         rotate_left
         · intro w'
           go_simp
           with_reducible rfl
         rotate_left
         · simp only [Act.put, sS, s0, s1, i64_w, i32_w]
           rfl
         refine pure_ (i := 4) (N := some 31) (v := ?_) (a' := ?_) #[true, true, false, true, true, false, false, false, false, false, false, false, false, false, false] rfl rfl (any_of HT_.out (by kernel_rfl)) (fun _ _ _ h => h) (Or.inl ⟨by rfl, ?_⟩) ?_ ?_
         rotate_left
         · intro w'
           go_simp
           with_reducible rfl
         rotate_left
         · simp only [Act.put, sS, s0, s1, i64_w, i32_w]
           rfl
         refine pure_ (i := 5) (N := some 32) (v := ?_) (a' := ?_) #[true, true, false, true, true, true, false, false, false, false, false, false, false, false, false] rfl rfl (any_of HT_.out (by kernel_rfl)) (fun _ _ _ h => h) (Or.inl ⟨by rfl, ?_⟩) ?_ ?_
         rotate_left
         · intro w'
           go_simp
           with_reducible rfl
         rotate_left
         · simp only [Act.put, sS, s0, s1, i64_w, i32_w]
           rfl
         refine pure_ (i := 6) (N := some 33) (v := ?_) (a' := ?_) #[true, true, false, true, true, true, true, false, false, false, false, false, false, false, false] rfl rfl (any_of HT_.out (by kernel_rfl)) (fun _ _ _ h => h) (Or.inl ⟨by rfl, ?_⟩) ?_ ?_
         rotate_left
         · intro w'
           go_simp
           with_reducible rfl
         rotate_left
         · simp only [Act.put, sS, s0, s1, i64_w, i32_w]
           rfl
         refine pure_ (i := 7) (N := some 34) (v := ?_) (a' := ?_) #[true, true, false, true, true, true, true, true, false, false, false, false, false, false, false] rfl rfl (any_of HT_.out (by kernel_rfl)) (fun _ _ _ h => h) (Or.inl ⟨by rfl, ?_⟩) ?_ ?_
         rotate_left
         · intro w'
           go_simp
           with_reducible rfl
         rotate_left
         · simp only [Act.put, sS, s0, s1, i64_w, i32_w]
           rfl
         refine pure_ (i := 8) (N := some 35) (v := ?_) (a' := ?_) #[true, true, false, true, true, true, true, true, true, false, false, false, false, false, false] rfl rfl (any_of HT_.out (by kernel_rfl)) (fun _ _ _ h => h) (Or.inl ⟨by rfl, ?_⟩) ?_ ?_
         rotate_left
         · intro w'
           go_simp
           with_reducible rfl
         rotate_left
         · simp only [Act.put, sS, s0, s1, i64_w, i32_w]
           rfl
         refine take_ (i := 9) (N := some 36) (v := ?_) (a' := ?_) #[true, true, false, true, true, true, true, true, true, true, false, false, false, false, false] rfl rfl (take_ofW HT_.out HW_.out (by kernel_rfl)) (fun _ _ _ h => h) (Or.inl ⟨by rfl, ?_⟩) hHeld ?_ ?_
         rotate_left
         · intro w' s0
           go_simp
           with_reducible rfl
         rotate_left
         · simp only [Act.put, sS, s0, s1, i64_w, i32_w]
           rfl
         refine one_ (i := 2) (N := some 29) #[true, true, true, true, true, true, true, true, true, true, false, false, false, false, false] rfl rfl (one_of HT_.out (by kernel_rfl)) (by decide) (fun K hK => ?_)
         refine goes_ Try.func80 (by kernel_rfl) rfl #[.int .i64 a0, .slice (some ad359) l1.length c1] (by rfl) rfl rfl mX ?_
         with_reducible refine (fp_Monic.calls k a0 _ _ l1 t356 _ ?side1 ?side2 A6.out).mono ?_
         (case side1 => exact cX (Kd.V_reads' HO1.out).2.2)
         (case side2 => exact (Kd.V_reads' HO1.out).2.1)
         rintro e w12 ⟨v357, rfl, ho0, hb⟩
         have HS0_ := (hb.cell (World.block_lt_of_cell? _ _ (hHeld))).trans (hHeld)
         refine ⟨_, rfl, ?_⟩
         have n0_ := ak (Kd.V_below (vX HO1.out) hb)
         have n1_ := ak (Kd.V_below (vX HO2.out) hb)
         have n2_ := ak (Kd.V_lower (Kd.V_mono (ok' := fun k_ => ((P1_ k_ ∨ P2_ k_) ∨ w.heap.size ≤ k_)) ho0 (fun k_ hk_ => (.inr (Nat.le_trans (below_size bX) hk_)))) (below_size bX))
         have n3_ := ak (below_step bX hb)
         clear HO1
         clear HO2
         clear HB
         have HO1 := n0_
         have HO2 := n1_
         have HO358 := n2_
         have HB := n3_
         clear n0_ n1_ n2_ n3_
         (try clear hb)
         (try clear hb2)
         (try clear hk)
         (try clear hi)
         (try clear ho0)
         refine hK.out _ _ (HS0_) (fun hHeld => ?_)
         clear hK K
         refine norm_ (a' := ?_) ?_ ?_
         rotate_left
         · show Act.put _ (some 29) _ = _
           simp only [Act.put, sS, s0, s1, i64_w, i32_w]
           rfl
         refine one_ (i := 10) (N := some 37) #[true, true, true, true, true, true, true, true, true, true, true, false, false, false, false] rfl rfl (one_of HT_.out (by kernel_rfl)) (by decide) (fun K hK => ?_)
         refine goes_ Try.func108 (by kernel_rfl) rfl #[.int .i64 a0, .int .i64 (rd l1 (ji7))] (by rfl) rfl rfl (by (try simp only [List.map_toArray, List.map_cons, List.map_nil]); first | done | (simp only [hji7]; rfl) | rfl | (simp only [List.length_drop, List.length_take]; rfl)) ?_
         with_reducible refine (fp_Inv.calls k a0 (rd l1 (ji7)) t360 _ A10.out).mono ?_
         rintro e w' ⟨rfl, ⟨nd, rfl⟩⟩
         refine ⟨_, rfl, ?_⟩
         refine hK.out _ _ (hHeld) (fun hHeld => ?_)
         clear hK K
         refine norm_ (a' := ?_) ?_ ?_
         rotate_left
         · show Act.put _ (some 37) _ = _
           simp only [Act.put, sS, s0, s1, i64_w, i32_w]
           rfl
         refine pure_ (i := 12) (N := some 6) (v := ?_) (a' := ?_) #[true, true, true, true, true, true, true, true, true, true, true, false, true, false, false] rfl rfl (any_of HT_.out (by kernel_rfl)) (fun _ _ _ h => h) (Or.inl ⟨by rfl, ?_⟩) ?_ ?_
         rotate_left
         · intro w'
           go_simp
           with_reducible rfl
         rotate_left
         · simp only [Act.put, sS, s0, s1, i64_w, i32_w]
           rfl
         refine one_ (i := 11) (N := some 38) #[true, true, true, true, true, true, true, true, true, true, true, true, true, false, false] rfl rfl (one_of HT_.out (by kernel_rfl)) (by decide) (fun K hK => ?_)
         refine Kd.R_lit_step (Kd.int .i64) _ 3 ?hg (N := 38) ?hd (xs := ([t360] : List Int)) (inner := [.int .i64 t360]) (ok := fun _ => True) (okp := fun _ => True) ?hr ?hp (fun _ hk => hk) trivial (Below.refl _ _) (Nat.le_refl _) (by simp) ?_; (case hd => rfl); (case hg => rfl); (case hr => first | (go_simp; done) | (go_simp; rfl)); (case hp => exact (Reps.one (show Kd.M (Kd.int .i64) _ _ _ t360 [.int .i64 t360] from rfl) (Reps.none _ _)))
         intro v362 w13 ho14 hb hg_ hnew_
         have HS0_ := (hb.cell (World.block_lt_of_cell? _ _ (hHeld))).trans (hHeld)
         clear hg_ hnew_
         (first | rw [← Ny361.out] at ho14 | (simp only [Int.reduceToNat] at ho14; rw [← Ny361.out] at ho14))
         have n0_ := ak (Kd.V_elder' (vX HO1.out) (Kd.R_base ho14) hb)
         have n1_ := ak (Kd.V_elder' (vX HO2.out) (Kd.R_base ho14) hb)
         have n2_ := ak (Kd.V_elder' (vX HO358.out) (Kd.R_base ho14) hb)
         have n3_ := ak (Kd.R_lower (Kd.R_newM (M := fun k_ => (w.heap.size ≤ k_)) ho14 (below_size bX) (fun k_ h_ => h_)) (below_size bX))
         have n4_ := ak (below_step bX hb)
         clear HO1
         clear HO2
         clear HO358
         clear HB
         have HO1 := n0_
         have HO2 := n1_
         have HO358 := n2_
         have HO363 := n3_
         have HB := n4_
         clear n0_ n1_ n2_ n3_ n4_
         clear hb ho14
         refine hK.out _ _ (HS0_) (fun hHeld => ?_)
         clear hK K
         refine norm_ (a' := ?_) ?_ ?_
         rotate_left
         · show Act.put _ (some 38) _ = _
           simp only [Act.put, sS, s0, s1, i64_w, i32_w]
           rfl
         refine pure_ (i := 13) (N := some 7) (v := ?_) (a' := ?_) #[true, true, true, true, true, true, true, true, true, true, true, true, true, true, false] rfl rfl (any_of HT_.out (by kernel_rfl)) (fun _ _ _ h => h) (Or.inl ⟨by rfl, ?_⟩) ?_ ?_
         rotate_left
         · intro w'
           go_simp
           with_reducible rfl
         rotate_left
         · simp only [Act.put, sS, s0, s1, i64_w, i32_w]
           rfl
         refine pure_ (i := 14) (N := some 8) (v := ?_) (a' := ?_) #[true, true, true, true, true, true, true, true, true, true, true, true, true, true, true] rfl rfl (any_of HT_.out (by kernel_rfl)) (fun _ _ _ h => h) (Or.inl ⟨by rfl, ?_⟩) ?_ ?_
         rotate_left
         · intro w'
           go_simp
           with_reducible rfl
         rotate_left
         · simp only [Act.put, sS, s0, s1, i64_w, i32_w]
           rfl
         refine done_ (done_of HT_.out (by kernel_rfl)) ?_
         try go_wp2
         go_ret3
         exact ⟨_, _, _, by first | rfl | (simp [errW_none, errW_some] <;> rfl) | (simp only [← hji7]; first | rfl | (simp [errW_none, errW_some] <;> rfl)) | (simp [*, errW_none, errW_some] <;> rfl), by (with_reducible repeat (first | apply vA | apply vB | apply vC)); exact Kd.V_mono HO358.out (fun _ hk => hk.1), Kd.V_mono (Kd.R_V (by (with_reducible repeat (first | apply Kd.R_alloc | apply Kd.R_drewN | apply Kd.R_drew)); exact Kd.R_mono HO363.out (fun _ hk => hk.1))) (fun k_ hk => by first | exact ⟨(.inr (hk.1)), hk.2⟩ | exact (.inr (hk))), (Kd.V_nil _ _ _ _ _), by repeat (first | (with_reducible first | exact HB.out | apply bA | apply bB | apply bC) | exact HB.out)⟩
       · rw [if_neg c9] at H
         exact absurd H (by simp)
     · rw [if_neg c8] at H
       exact absurd H (by simp)
 · rw [if_neg c4] at H
   have c4b0 : ((l2.length : Int) == 0) = false := beq_eq_false_iff_ne.mpr c4
   have c4b1 : ((l2.length : Int) != 0) = true := bne_iff_ne.mpr c4
   have c4b2 : ¬ (l2 = []) := fun h_ => c4 (by rw [h_]; rfl)
   obtain ⟨y364, hy364⟩ : ∃ y_ : List Int, y_ = (([1] : List Int)) := ⟨_, rfl⟩
   replace H : (fp_Xgcd.l0 k a0 l1 l2 l1 l2 y364 ([] : List Int)) = some (r1, r2, r3) := by first | (rw [hy364]; with_reducible exact H) | (have H2_ := (Option.bind_some _ _).symm.trans H; rw [hy364]; with_reducible exact H2_) | (have H2_ := (Option.bind_some _ _).symm.trans H; with_reducible exact H2_) | with_reducible exact H | (rw [hy364]; exact H) | exact H
   have Ny364 := ak hy364
   clear hy364
   have H' := ak H
   clear H
   go_enter Try.func75, Try.ntmps75
   go_wp2_with (first | ((with_reducible refine gate_dst (N := 41) rfl ?_); refine Kd.R_lit (Kd.int .i64) _ 3 ?hg (N := 41) ?hd (xs := ([1] : List Int)) (inner := [.int .i64 1]) (ok := fun _ => True) (okp := fun _ => True) ?hr ?hp (fun _ hk => hk) trivial (Below.refl _ _) (Nat.le_refl _) (by simp) ?_; (case hd => rfl); (case hg => rfl); (case hr => first | (go_simp; done) | (go_simp; rfl)); (case hp => exact (Reps.one (show Kd.M (Kd.int .i64) _ _ _ 1 [.int .i64 1] from rfl) (Reps.none _ _))); intro v365 w15 ho16 hb hg_ hnew_; clear hg_ hnew_; (first | rw [← Ny364.out] at ho16 | (simp only [Int.reduceToNat] at ho16; rw [← Ny364.out] at ho16)); have n0_ := ak (Kd.V_elder' (vX HO1.out) (Kd.R_base ho16) hb); have n1_ := ak (Kd.V_elder' (vX HO2.out) (Kd.R_base ho16) hb); have n2_ := ak (Kd.R_lower (Kd.R_newM (M := fun k_ => (w.heap.size ≤ k_)) ho16 (below_size bX) (fun k_ h_ => h_)) (below_size bX)); have n3_ := ak (below_step bX hb); clear HO1; clear HO2; clear HB; have HO1 := n0_; have HO2 := n1_; have HO366 := n2_; have HB := n3_; clear n0_ n1_ n2_ n3_; clear hb ho16))
   go_loopg [9, 10, 11, 12] k (fun kq v9 v10 v11 v12 w' => ∃ (x9_1 : List Int) (x10_1 : List Int) (x11_1 : List Int) (x12_1 : List Int), Aside0 (fp_Xgcd.l0 kq a0 l1 l2 x9_1 x10_1 x11_1 x12_1 = some (r1, r2, r3)) ∧ Aside0 (kq ≤ k) ∧ Aside0 (Kd.V (Kd.int .i64) 3 w' w.heap.size (fun k_ => ((P1_ k_ ∨ P2_ k_) ∨ w.heap.size ≤ k_)) (.slice A1 l1.length c1) l1) ∧ Aside0 (Kd.V (Kd.int .i64) 3 w' w.heap.size (fun k_ => ((P1_ k_ ∨ P2_ k_) ∨ w.heap.size ≤ k_)) (.slice A2 l2.length c2) l2) ∧ Aside0 (Kd.V (Kd.int .i64) 3 w' w.heap.size (fun k_ => ((P1_ k_ ∨ P2_ k_) ∨ w.heap.size ≤ k_)) v9 x9_1) ∧ Aside0 (Kd.V (Kd.int .i64) 3 w' w.heap.size (fun k_ => ((P1_ k_ ∨ P2_ k_) ∨ w.heap.size ≤ k_)) v10 x10_1) ∧ Aside0 (Kd.V (Kd.int .i64) 3 w' w.heap.size (fun k_ => ((P1_ k_ ∨ P2_ k_) ∨ w.heap.size ≤ k_)) v11 x11_1) ∧ Aside0 (Kd.V (Kd.int .i64) 3 w' w.heap.size (fun k_ => ((P1_ k_ ∨ P2_ k_) ∨ w.heap.size ≤ k_)) v12 x12_1) ∧ Aside0 (Below w.heap.size w w'))
   case atStart => exact ⟨(l1), (l2), (y364), (([] : List Int)), H', ⟨Nat.le_refl _⟩, ⟨by (with_reducible repeat (first | apply vA | apply vB | apply vC)); exact Kd.V_mono HO1.out (fun _ hk => hk.1)⟩, ⟨by (with_reducible repeat (first | apply vA | apply vB | apply vC)); exact Kd.V_mono HO2.out (fun _ hk => hk.1)⟩, ⟨by (with_reducible repeat (first | apply vA | apply vB | apply vC)); exact Kd.V_mono HO1.out (fun _ hk => hk.1)⟩, ⟨by (with_reducible repeat (first | apply vA | apply vB | apply vC)); exact Kd.V_mono HO2.out (fun _ hk => hk.1)⟩, ⟨Kd.V_mono (Kd.R_V (by (with_reducible repeat (first | apply Kd.R_alloc | apply Kd.R_drewN | apply Kd.R_drew)); exact Kd.R_mono HO366.out (fun _ hk => hk.1))) (fun k_ hk => by first | exact ⟨(.inr (hk.1)), hk.2⟩ | exact (.inr (hk)))⟩, ⟨(Kd.V_nil _ _ _ _ _)⟩, ⟨by repeat (first | (with_reducible first | exact HB.out | apply bA | apply bB | apply bC) | exact HB.out)⟩⟩
   case round =>
    clear H'
    try clear c1
    try clear c2
    try clear p2
    try clear p3
    try clear q3
    try clear hx3
    try clear c4
    try clear c4b0
    try clear c4b1
    try clear c4b2
    try clear c5
    try clear c5b0
    try clear c5b1
    try clear c5b2
    try clear p6
    try clear c7
    try clear c8
    try clear c8b0
    try clear c9
    try clear c9b0
    try clear c10
    try clear hx359_0
    try clear p359
    try clear q359
    obtain ⟨x9_1, x10_1, x11_1, x12_1, HA, HK1, HO_1, HO_2, HO_9, HO_10, HO_11, HO_12, HB⟩ := hrel
    cases gk with
    | zero => exact absurd HA.out (by simp [fp_Xgcd.l0])
    | succ k1 =>
      have H := HA.out
      clear HA
      simp only [fp_Xgcd.l0] at H
      by_cases c17 : (x10_1.length : Int) > 0
      · rw [if_pos c17] at H
        have c17b0 : decide (0 < (x10_1.length : Int)) = true := decide_eq_true c17
        have c17b1 : decide (0 < x10_1.length) = true := decide_eq_true (by omega)
        clear c17
        replace H := Option.bind_eq_some_iff.mp H
        obtain ⟨⟨t367, t370⟩, A180, H⟩ := H
        replace H : ((fp_Mul.f k1 a0 t367 x12_1).bind fun t373 => ((fp_Sub.f k1 a0 x11_1 t373).bind fun t376 => (fp_Xgcd.l0 k1 a0 l1 l2 x10_1 t370 x12_1 t376))) = some (r1, r2, r3) := H
        have A18 := ak A180
        clear A180
        replace H := Option.bind_eq_some_iff.mp H
        obtain ⟨t373, A190, H⟩ := H
        replace H : ((fp_Sub.f k1 a0 x11_1 t373).bind fun t376 => (fp_Xgcd.l0 k1 a0 l1 l2 x10_1 t370 x12_1 t376)) = some (r1, r2, r3) := H
        have A19 := ak A190
        clear A190
        replace H := Option.bind_eq_some_iff.mp H
        obtain ⟨t376, A200, H⟩ := H
        replace H : (fp_Xgcd.l0 k1 a0 l1 l2 x10_1 t370 x12_1 t376) = some (r1, r2, r3) := H
        have A20 := ak A200
        clear A200
        have H' := ak H
        clear H
        obtain ⟨Ao21, co21, eo21⟩ := Kd.V_slice HO_10.out
        subst eo21
        obtain ⟨Ao22, co22, eo22⟩ := Kd.V_slice HO_9.out
        subst eo22
        go_wp2_with (first | ((with_reducible refine gate_callee (f := 74) rfl ?_); refine goesL_ (some 49) rfl rfl Try.func74 (by kernel_rfl) rfl #[.int .i64 a0, .slice Ao22 x9_1.length co22, .slice Ao21 x10_1.length co21] rfl mX ?_; (with_reducible refine (fp_DivMod.calls k1 a0 _ _ x9_1 _ _ x10_1 t367 t370 _ ?side1 ?side2 ?side3 ?side4 A18.out).mono ?_); (case side1 => exact cX (Kd.V_reads' HO_9.out).2.2); (case side2 => exact (Kd.V_reads' HO_9.out).2.1); (case side3 => exact cX (Kd.V_reads' HO_10.out).2.2); (case side4 => exact (Kd.V_reads' HO_10.out).2.1); rintro e w23 ⟨v368, v371, rfl, ho0, ho1, hb⟩; refine ⟨_, rfl, ?_⟩; have n0_ := ak (Kd.V_below (vX HO_1.out) hb); have n1_ := ak (Kd.V_below (vX HO_2.out) hb); have n2_ := ak (Kd.V_below (vX HO_9.out) hb); have n3_ := ak (Kd.V_below (vX HO_10.out) hb); have n4_ := ak (Kd.V_below (vX HO_11.out) hb); have n5_ := ak (Kd.V_below (vX HO_12.out) hb); have n6_ := ak (Kd.V_lower (Kd.V_mono (ok' := fun k_ => ((P1_ k_ ∨ P2_ k_) ∨ w.heap.size ≤ k_)) ho0 (fun k_ hk_ => (.inr (Nat.le_trans (below_size bX) hk_)))) (below_size bX)); have n7_ := ak (Kd.V_lower (Kd.V_mono (ok' := fun k_ => ((P1_ k_ ∨ P2_ k_) ∨ w.heap.size ≤ k_)) ho1 (fun k_ hk_ => (.inr (Nat.le_trans (below_size bX) hk_)))) (below_size bX)); have n8_ := ak (below_step bX hb); clear HO_1; clear HO_2; clear HO_9; clear HO_10; clear HO_11; clear HO_12; clear HB; have HO_1 := n0_; have HO_2 := n1_; have HO_9 := n2_; have HO_10 := n3_; have HO_11 := n4_; have HO_12 := n5_; have HO369 := n6_; have HO372 := n7_; have HB := n8_; clear n0_ n1_ n2_ n3_ n4_ n5_ n6_ n7_ n8_; (try clear hb); (try clear hb2); (try clear hk); (try clear hi); (try clear ho0); (try clear ho1); obtain ⟨Ao24, co24, eo24⟩ := Kd.V_slice HO369.out; subst eo24; obtain ⟨Ao25, co25, eo25⟩ := Kd.V_slice HO_12.out; subst eo25) | ((with_reducible refine gate_callee (f := 67) rfl ?_); refine goesL_ (some 60) rfl rfl Try.func67 (by kernel_rfl) rfl #[.int .i64 a0, .slice Ao24 t367.length co24, .slice Ao25 x12_1.length co25] rfl mX ?_; (with_reducible refine (fp_Mul.calls k1 a0 _ _ t367 _ _ x12_1 t373 _ ?side1 ?side2 ?side3 ?side4 A19.out).mono ?_); (case side1 => exact cX (Kd.V_reads' HO369.out).2.2); (case side2 => exact (Kd.V_reads' HO369.out).2.1); (case side3 => exact cX (Kd.V_reads' HO_12.out).2.2); (case side4 => exact (Kd.V_reads' HO_12.out).2.1); rintro e w26 ⟨v374, rfl, ho0, hb⟩; refine ⟨_, rfl, ?_⟩; have n0_ := ak (Kd.V_below (vX HO_1.out) hb); have n1_ := ak (Kd.V_below (vX HO_2.out) hb); have n2_ := ak (Kd.V_below (vX HO_9.out) hb); have n3_ := ak (Kd.V_below (vX HO_10.out) hb); have n4_ := ak (Kd.V_below (vX HO_11.out) hb); have n5_ := ak (Kd.V_below (vX HO_12.out) hb); have n6_ := ak (Kd.V_below (vX HO369.out) hb); have n7_ := ak (Kd.V_below (vX HO372.out) hb); have n8_ := ak (Kd.V_lower (Kd.V_mono (ok' := fun k_ => ((P1_ k_ ∨ P2_ k_) ∨ w.heap.size ≤ k_)) ho0 (fun k_ hk_ => (.inr (Nat.le_trans (below_size bX) hk_)))) (below_size bX)); have n9_ := ak (below_step bX hb); clear HO_1; clear HO_2; clear HO_9; clear HO_10; clear HO_11; clear HO_12; clear HO369; clear HO372; clear HB; have HO_1 := n0_; have HO_2 := n1_; have HO_9 := n2_; have HO_10 := n3_; have HO_11 := n4_; have HO_12 := n5_; have HO369 := n6_; have HO372 := n7_; have HO375 := n8_; have HB := n9_; clear n0_ n1_ n2_ n3_ n4_ n5_ n6_ n7_ n8_ n9_; (try clear hb); (try clear hb2); (try clear hk); (try clear hi); (try clear ho0); obtain ⟨Ao27, co27, eo27⟩ := Kd.V_slice HO_11.out; subst eo27; obtain ⟨Ao28, co28, eo28⟩ := Kd.V_slice HO375.out; subst eo28) | ((with_reducible refine gate_callee (f := 73) rfl ?_); refine goesL_ (some 61) rfl rfl Try.func73 (by kernel_rfl) rfl #[.int .i64 a0, .slice Ao27 x11_1.length co27, .slice Ao28 t373.length co28] rfl mX ?_; (with_reducible refine (fp_Sub.calls k1 a0 _ _ x11_1 _ _ t373 t376 _ ?side1 ?side2 ?side3 ?side4 A20.out).mono ?_); (case side1 => exact cX (Kd.V_reads' HO_11.out).2.2); (case side2 => exact (Kd.V_reads' HO_11.out).2.1); (case side3 => exact cX (Kd.V_reads' HO375.out).2.2); (case side4 => exact (Kd.V_reads' HO375.out).2.1); rintro e w29 ⟨v377, rfl, ho0, hb⟩; refine ⟨_, rfl, ?_⟩; have n0_ := ak (Kd.V_below (vX HO_1.out) hb); have n1_ := ak (Kd.V_below (vX HO_2.out) hb); have n2_ := ak (Kd.V_below (vX HO_9.out) hb); have n3_ := ak (Kd.V_below (vX HO_10.out) hb); have n4_ := ak (Kd.V_below (vX HO_11.out) hb); have n5_ := ak (Kd.V_below (vX HO_12.out) hb); have n6_ := ak (Kd.V_below (vX HO369.out) hb); have n7_ := ak (Kd.V_below (vX HO372.out) hb); have n8_ := ak (Kd.V_below (vX HO375.out) hb); have n9_ := ak (Kd.V_lower (Kd.V_mono (ok' := fun k_ => ((P1_ k_ ∨ P2_ k_) ∨ w.heap.size ≤ k_)) ho0 (fun k_ hk_ => (.inr (Nat.le_trans (below_size bX) hk_)))) (below_size bX)); have n10_ := ak (below_step bX hb); clear HO_1; clear HO_2; clear HO_9; clear HO_10; clear HO_11; clear HO_12; clear HO369; clear HO372; clear HO375; clear HB; have HO_1 := n0_; have HO_2 := n1_; have HO_9 := n2_; have HO_10 := n3_; have HO_11 := n4_; have HO_12 := n5_; have HO369 := n6_; have HO372 := n7_; have HO375 := n8_; have HO378 := n9_; have HB := n10_; clear n0_ n1_ n2_ n3_ n4_ n5_ n6_ n7_ n8_ n9_ n10_; (try clear hb); (try clear hb2); (try clear hk); (try clear hi); (try clear ho0)))
        (first | go_roundg k1 | (refine Handed.intro k1 ?measure ?_; rotate_left; go_step; (repeat rw [add_plain]); (repeat apply Exists.intro); refine ⟨?rel, rfl⟩))
        case measure => have := HK1.out; omega
        case rel => exact ⟨(x10_1), (t370), (x12_1), (t376), H', ⟨by have := HK1.out; omega⟩, ⟨by (with_reducible repeat (first | apply vA | apply vB | apply vC)); exact HO_1.out⟩, ⟨by (with_reducible repeat (first | apply vA | apply vB | apply vC)); exact HO_2.out⟩, ⟨by (with_reducible repeat (first | apply vA | apply vB | apply vC)); exact HO_10.out⟩, ⟨by (with_reducible repeat (first | apply vA | apply vB | apply vC)); exact HO372.out⟩, ⟨by (with_reducible repeat (first | apply vA | apply vB | apply vC)); exact HO_12.out⟩, ⟨by (with_reducible repeat (first | apply vA | apply vB | apply vC)); exact HO378.out⟩, ⟨by repeat (first | (with_reducible first | exact HB.out | apply bA | apply bB | apply bC) | exact HB.out)⟩⟩
      · rw [if_neg c17] at H
        have c17b0 : decide (0 < (x10_1.length : Int)) = false := decide_eq_false c17
        have c17b1 : decide (0 < x10_1.length) = false := decide_eq_false (by omega)
        clear c17
        obtain ⟨ji30, hji30⟩ : ∃ j_ : Int, (wrap64 ((x9_1.length : Int) - 1)) = j_ := ⟨_, rfl⟩
        replace H : (if 0 ≤ (ji30) then (if (ji30) < (x9_1.length : Int) then ((fp_Inv.f k1 a0 (rd x9_1 (ji30))).bind fun t380 => ((fp_Scale.f k1 a0 x9_1 t380).bind fun t381 => ((fp_DivMod.f k1 a0 l2 t381).bind fun bt384 => ((fp_Scale.f k1 a0 x11_1 t380).bind fun t390 => ((fp_Rem.f k1 a0 t390 bt384.1).bind fun t393 => ((fp_Mul.f k1 a0 t393 l1).bind fun t396 => ((fp_Sub.f k1 a0 t381 t396).bind fun t399 => ((fp_DivMod.f k1 a0 t399 l2).bind fun bt402 => (some (t381, t393, bt402.1)))))))))) else (none)) else (none)) = some (r1, r2, r3) := by first | (rw [hji30] at H; exact H) | (simp only [hji30] at H ⊢; exact H)
        have hji30w : (IntKind.i64.wrap ((x9_1.length : Int) - 1)) = ji30 := (i64_w _).trans hji30
        by_cases c31 : 0 ≤ (ji30)
        · rw [if_pos c31] at H
          have c31b0 : decide (0 ≤ (ji30)) = true := decide_eq_true c31
          clear c31
          by_cases c32 : (ji30) < (x9_1.length : Int)
          · rw [if_pos c32] at H
            have c32b0 : decide ((ji30) < (x9_1.length : Int)) = true := decide_eq_true c32
            clear c32
            replace H := Option.bind_eq_some_iff.mp H
            obtain ⟨t380, A330, H⟩ := H
            replace H : ((fp_Scale.f k1 a0 x9_1 t380).bind fun t381 => ((fp_DivMod.f k1 a0 l2 t381).bind fun bt384 => ((fp_Scale.f k1 a0 x11_1 t380).bind fun t390 => ((fp_Rem.f k1 a0 t390 bt384.1).bind fun t393 => ((fp_Mul.f k1 a0 t393 l1).bind fun t396 => ((fp_Sub.f k1 a0 t381 t396).bind fun t399 => ((fp_DivMod.f k1 a0 t399 l2).bind fun bt402 => (some (t381, t393, bt402.1))))))))) = some (r1, r2, r3) := H
            have A33 := ak A330
            clear A330
            replace H := Option.bind_eq_some_iff.mp H
            obtain ⟨t381, A340, H⟩ := H
            replace H : ((fp_DivMod.f k1 a0 l2 t381).bind fun bt384 => ((fp_Scale.f k1 a0 x11_1 t380).bind fun t390 => ((fp_Rem.f k1 a0 t390 bt384.1).bind fun t393 => ((fp_Mul.f k1 a0 t393 l1).bind fun t396 => ((fp_Sub.f k1 a0 t381 t396).bind fun t399 => ((fp_DivMod.f k1 a0 t399 l2).bind fun bt402 => (some (t381, t393, bt402.1)))))))) = some (r1, r2, r3) := H
            have A34 := ak A340
            clear A340
            replace H := Option.bind_eq_some_iff.mp H
            obtain ⟨⟨t384, t387⟩, A350, H⟩ := H
            replace H : ((fp_Scale.f k1 a0 x11_1 t380).bind fun t390 => ((fp_Rem.f k1 a0 t390 t384).bind fun t393 => ((fp_Mul.f k1 a0 t393 l1).bind fun t396 => ((fp_Sub.f k1 a0 t381 t396).bind fun t399 => ((fp_DivMod.f k1 a0 t399 l2).bind fun bt402 => (some (t381, t393, bt402.1))))))) = some (r1, r2, r3) := H
            have A35 := ak A350
            clear A350
            replace H := Option.bind_eq_some_iff.mp H
            obtain ⟨t390, A360, H⟩ := H
            replace H : ((fp_Rem.f k1 a0 t390 t384).bind fun t393 => ((fp_Mul.f k1 a0 t393 l1).bind fun t396 => ((fp_Sub.f k1 a0 t381 t396).bind fun t399 => ((fp_DivMod.f k1 a0 t399 l2).bind fun bt402 => (some (t381, t393, bt402.1)))))) = some (r1, r2, r3) := H
            have A36 := ak A360
            clear A360
            replace H := Option.bind_eq_some_iff.mp H
            obtain ⟨t393, A370, H⟩ := H
            replace H : ((fp_Mul.f k1 a0 t393 l1).bind fun t396 => ((fp_Sub.f k1 a0 t381 t396).bind fun t399 => ((fp_DivMod.f k1 a0 t399 l2).bind fun bt402 => (some (t381, t393, bt402.1))))) = some (r1, r2, r3) := H
            have A37 := ak A370
            clear A370
            replace H := Option.bind_eq_some_iff.mp H
            obtain ⟨t396, A380, H⟩ := H
            replace H : ((fp_Sub.f k1 a0 t381 t396).bind fun t399 => ((fp_DivMod.f k1 a0 t399 l2).bind fun bt402 => (some (t381, t393, bt402.1)))) = some (r1, r2, r3) := H
            have A38 := ak A380
            clear A380
            replace H := Option.bind_eq_some_iff.mp H
            obtain ⟨t399, A390, H⟩ := H
            replace H : ((fp_DivMod.f k1 a0 t399 l2).bind fun bt402 => (some (t381, t393, bt402.1))) = some (r1, r2, r3) := H
            have A39 := ak A390
            clear A390
            replace H := Option.bind_eq_some_iff.mp H
            obtain ⟨⟨t402, t405⟩, A400, H⟩ := H
            replace H : (some (t381, t393, t402)) = some (r1, r2, r3) := H
            have A40 := ak A400
            clear A400
            simp only [Option.some.injEq, Prod.mk.injEq] at H
            obtain ⟨rfl, rfl, rfl⟩ := H
            obtain ⟨Ao41, co41, eo41⟩ := Kd.V_slice HO_10.out
            subst eo41
            obtain ⟨Ao42, co42, eo42⟩ := Kd.V_slice HO_9.out
            subst eo42
            have p379 : 0 ≤ ((ji30) : Int) := of_decide_eq_true aX
            have q379 : (ji30) < (x9_1.length : Int) := of_decide_eq_true aX
            obtain ⟨ad379, e379, hx379_0⟩ := Kd.at_int (Kd.V_reads' HO_9.out).2.2 (ji30) p379 q379
            cases e379
            replace p379 := eq_true p379
            replace q379 := eq_true q379
            go_wp2_with (first | ((with_reducible refine gate_callee (f := 108) rfl ?_); refine goesL_ (some 69) rfl rfl Try.func108 (by kernel_rfl) rfl #[.int .i64 a0, .int .i64 (rd x9_1 (ji30))] rfl (by (try simp only [List.map_toArray, List.map_cons, List.map_nil]); first | done | (simp only [hji30]; rfl) | rfl | (simp only [List.length_drop, List.length_take]; rfl)) ?_; (with_reducible refine (fp_Inv.calls k1 a0 (rd x9_1 (ji30)) t380 _ A33.out).mono ?_); rintro e w' ⟨rfl, ⟨nd, rfl⟩⟩; refine ⟨_, rfl, ?_⟩) | ((with_reducible refine gate_callee (f := 90) rfl ?_); refine goesL_ (some 73) rfl rfl Try.func90 (by kernel_rfl) rfl #[.int .i64 a0, .slice (some ad379) x9_1.length co42, .int .i64 t380] rfl mX ?_; (with_reducible refine (fp_Scale.calls k1 a0 _ _ x9_1 t380 t381 _ ?side1 ?side2 A34.out).mono ?_); (case side1 => exact cX (Kd.V_reads' HO_9.out).2.2); (case side2 => exact (Kd.V_reads' HO_9.out).2.1); rintro e w43 ⟨v382, rfl, ho0, hb⟩; refine ⟨_, rfl, ?_⟩; have n0_ := ak (Kd.V_below (vX HO_1.out) hb); have n1_ := ak (Kd.V_below (vX HO_2.out) hb); have n2_ := ak (Kd.V_below (vX HO_9.out) hb); have n3_ := ak (Kd.V_below (vX HO_10.out) hb); have n4_ := ak (Kd.V_below (vX HO_11.out) hb); have n5_ := ak (Kd.V_below (vX HO_12.out) hb); have n6_ := ak (Kd.V_lower (Kd.V_mono (ok' := fun k_ => ((P1_ k_ ∨ P2_ k_) ∨ w.heap.size ≤ k_)) ho0 (fun k_ hk_ => (.inr (Nat.le_trans (below_size bX) hk_)))) (below_size bX)); have n7_ := ak (below_step bX hb); clear HO_1; clear HO_2; clear HO_9; clear HO_10; clear HO_11; clear HO_12; clear HB; have HO_1 := n0_; have HO_2 := n1_; have HO_9 := n2_; have HO_10 := n3_; have HO_11 := n4_; have HO_12 := n5_; have HO383 := n6_; have HB := n7_; clear n0_ n1_ n2_ n3_ n4_ n5_ n6_ n7_; (try clear hb); (try clear hb2); (try clear hk); (try clear hi); (try clear ho0); obtain ⟨Ao44, co44, eo44⟩ := Kd.V_slice HO383.out; subst eo44) | ((with_reducible refine gate_callee (f := 74) rfl ?_); refine goesL_ (some 78) rfl rfl Try.func74 (by kernel_rfl) rfl #[.int .i64 a0, .slice A2 l2.length c2, .slice Ao44 t381.length co44] rfl mX ?_; (with_reducible refine (fp_DivMod.calls k1 a0 _ _ l2 _ _ t381 t384 t387 _ ?side1 ?side2 ?side3 ?side4 A35.out).mono ?_); (case side1 => exact cX (Kd.V_reads' HO_2.out).2.2); (case side2 => exact (Kd.V_reads' HO_2.out).2.1); (case side3 => exact cX (Kd.V_reads' HO383.out).2.2); (case side4 => exact (Kd.V_reads' HO383.out).2.1); rintro e w45 ⟨v385, v388, rfl, ho0, ho1, hb⟩; refine ⟨_, rfl, ?_⟩; have n0_ := ak (Kd.V_below (vX HO_1.out) hb); have n1_ := ak (Kd.V_below (vX HO_2.out) hb); have n2_ := ak (Kd.V_below (vX HO_9.out) hb); have n3_ := ak (Kd.V_below (vX HO_10.out) hb); have n4_ := ak (Kd.V_below (vX HO_11.out) hb); have n5_ := ak (Kd.V_below (vX HO_12.out) hb); have n6_ := ak (Kd.V_below (vX HO383.out) hb); have n7_ := ak (Kd.V_lower (Kd.V_mono (ok' := fun k_ => ((P1_ k_ ∨ P2_ k_) ∨ w.heap.size ≤ k_)) ho0 (fun k_ hk_ => (.inr (Nat.le_trans (below_size bX) hk_)))) (below_size bX)); have n8_ := ak (Kd.V_lower (Kd.V_mono (ok' := fun k_ => ((P1_ k_ ∨ P2_ k_) ∨ w.heap.size ≤ k_)) ho1 (fun k_ hk_ => (.inr (Nat.le_trans (below_size bX) hk_)))) (below_size bX)); have n9_ := ak (below_step bX hb); clear HO_1; clear HO_2; clear HO_9; clear HO_10; clear HO_11; clear HO_12; clear HO383; clear HB; have HO_1 := n0_; have HO_2 := n1_; have HO_9 := n2_; have HO_10 := n3_; have HO_11 := n4_; have HO_12 := n5_; have HO383 := n6_; have HO386 := n7_; have HO389 := n8_; have HB := n9_; clear n0_ n1_ n2_ n3_ n4_ n5_ n6_ n7_ n8_ n9_; (try clear hb); (try clear hb2); (try clear hk); (try clear hi); (try clear ho0); (try clear ho1); obtain ⟨Ao46, co46, eo46⟩ := Kd.V_slice HO_11.out; subst eo46) | ((with_reducible refine gate_callee (f := 90) rfl ?_); refine goesL_ (some 85) rfl rfl Try.func90 (by kernel_rfl) rfl #[.int .i64 a0, .slice Ao46 x11_1.length co46, .int .i64 t380] rfl mX ?_; (with_reducible refine (fp_Scale.calls k1 a0 _ _ x11_1 t380 t390 _ ?side1 ?side2 A36.out).mono ?_); (case side1 => exact cX (Kd.V_reads' HO_11.out).2.2); (case side2 => exact (Kd.V_reads' HO_11.out).2.1); rintro e w47 ⟨v391, rfl, ho0, hb⟩; refine ⟨_, rfl, ?_⟩; have n0_ := ak (Kd.V_below (vX HO_1.out) hb); have n1_ := ak (Kd.V_below (vX HO_2.out) hb); have n2_ := ak (Kd.V_below (vX HO_9.out) hb); have n3_ := ak (Kd.V_below (vX HO_10.out) hb); have n4_ := ak (Kd.V_below (vX HO_11.out) hb); have n5_ := ak (Kd.V_below (vX HO_12.out) hb); have n6_ := ak (Kd.V_below (vX HO383.out) hb); have n7_ := ak (Kd.V_below (vX HO386.out) hb); have n8_ := ak (Kd.V_below (vX HO389.out) hb); have n9_ := ak (Kd.V_lower (Kd.V_mono (ok' := fun k_ => ((P1_ k_ ∨ P2_ k_) ∨ w.heap.size ≤ k_)) ho0 (fun k_ hk_ => (.inr (Nat.le_trans (below_size bX) hk_)))) (below_size bX)); have n10_ := ak (below_step bX hb); clear HO_1; clear HO_2; clear HO_9; clear HO_10; clear HO_11; clear HO_12; clear HO383; clear HO386; clear HO389; clear HB; have HO_1 := n0_; have HO_2 := n1_; have HO_9 := n2_; have HO_10 := n3_; have HO_11 := n4_; have HO_12 := n5_; have HO383 := n6_; have HO386 := n7_; have HO389 := n8_; have HO392 := n9_; have HB := n10_; clear n0_ n1_ n2_ n3_ n4_ n5_ n6_ n7_ n8_ n9_ n10_; (try clear hb); (try clear hb2); (try clear hk); (try clear hi); (try clear ho0); obtain ⟨Ao48, co48, eo48⟩ := Kd.V_slice HO392.out; subst eo48; obtain ⟨Ao49, co49, eo49⟩ := Kd.V_slice HO386.out; subst eo49) | ((with_reducible refine gate_callee (f := 70) rfl ?_); refine goesL_ (some 87) rfl rfl Try.func70 (by kernel_rfl) rfl #[.int .i64 a0, .slice Ao48 t390.length co48, .slice Ao49 t384.length co49] rfl mX ?_; (with_reducible refine (fp_Rem.calls k1 a0 _ _ t390 _ _ t384 t393 _ ?side1 ?side2 ?side3 ?side4 A37.out).mono ?_); (case side1 => exact cX (Kd.V_reads' HO392.out).2.2); (case side2 => exact (Kd.V_reads' HO392.out).2.1); (case side3 => exact cX (Kd.V_reads' HO386.out).2.2); (case side4 => exact (Kd.V_reads' HO386.out).2.1); rintro e w50 ⟨v394, rfl, ho0, hb⟩; refine ⟨_, rfl, ?_⟩; have n0_ := ak (Kd.V_below (vX HO_1.out) hb); have n1_ := ak (Kd.V_below (vX HO_2.out) hb); have n2_ := ak (Kd.V_below (vX HO_9.out) hb); have n3_ := ak (Kd.V_below (vX HO_10.out) hb); have n4_ := ak (Kd.V_below (vX HO_11.out) hb); have n5_ := ak (Kd.V_below (vX HO_12.out) hb); have n6_ := ak (Kd.V_below (vX HO383.out) hb); have n7_ := ak (Kd.V_below (vX HO386.out) hb); have n8_ := ak (Kd.V_below (vX HO389.out) hb); have n9_ := ak (Kd.V_below (vX HO392.out) hb); have n10_ := ak (Kd.V_lower (Kd.V_mono (ok' := fun k_ => ((P1_ k_ ∨ P2_ k_) ∨ w.heap.size ≤ k_)) ho0 (fun k_ hk_ => (.inr (Nat.le_trans (below_size bX) hk_)))) (below_size bX)); have n11_ := ak (below_step bX hb); clear HO_1; clear HO_2; clear HO_9; clear HO_10; clear HO_11; clear HO_12; clear HO383; clear HO386; clear HO389; clear HO392; clear HB; have HO_1 := n0_; have HO_2 := n1_; have HO_9 := n2_; have HO_10 := n3_; have HO_11 := n4_; have HO_12 := n5_; have HO383 := n6_; have HO386 := n7_; have HO389 := n8_; have HO392 := n9_; have HO395 := n10_; have HB := n11_; clear n0_ n1_ n2_ n3_ n4_ n5_ n6_ n7_ n8_ n9_ n10_ n11_; (try clear hb); (try clear hb2); (try clear hk); (try clear hi); (try clear ho0); obtain ⟨Ao51, co51, eo51⟩ := Kd.V_slice HO395.out; subst eo51) | ((with_reducible refine gate_callee (f := 67) rfl ?_); refine goesL_ (some 95) rfl rfl Try.func67 (by kernel_rfl) rfl #[.int .i64 a0, .slice Ao51 t393.length co51, .slice A1 l1.length c1] rfl mX ?_; (with_reducible refine (fp_Mul.calls k1 a0 _ _ t393 _ _ l1 t396 _ ?side1 ?side2 ?side3 ?side4 A38.out).mono ?_); (case side1 => exact cX (Kd.V_reads' HO395.out).2.2); (case side2 => exact (Kd.V_reads' HO395.out).2.1); (case side3 => exact cX (Kd.V_reads' HO_1.out).2.2); (case side4 => exact (Kd.V_reads' HO_1.out).2.1); rintro e w52 ⟨v397, rfl, ho0, hb⟩; refine ⟨_, rfl, ?_⟩; have n0_ := ak (Kd.V_below (vX HO_1.out) hb); have n1_ := ak (Kd.V_below (vX HO_2.out) hb); have n2_ := ak (Kd.V_below (vX HO_9.out) hb); have n3_ := ak (Kd.V_below (vX HO_10.out) hb); have n4_ := ak (Kd.V_below (vX HO_11.out) hb); have n5_ := ak (Kd.V_below (vX HO_12.out) hb); have n6_ := ak (Kd.V_below (vX HO383.out) hb); have n7_ := ak (Kd.V_below (vX HO386.out) hb); have n8_ := ak (Kd.V_below (vX HO389.out) hb); have n9_ := ak (Kd.V_below (vX HO392.out) hb); have n10_ := ak (Kd.V_below (vX HO395.out) hb); have n11_ := ak (Kd.V_lower (Kd.V_mono (ok' := fun k_ => ((P1_ k_ ∨ P2_ k_) ∨ w.heap.size ≤ k_)) ho0 (fun k_ hk_ => (.inr (Nat.le_trans (below_size bX) hk_)))) (below_size bX)); have n12_ := ak (below_step bX hb); clear HO_1; clear HO_2; clear HO_9; clear HO_10; clear HO_11; clear HO_12; clear HO383; clear HO386; clear HO389; clear HO392; clear HO395; clear HB; have HO_1 := n0_; have HO_2 := n1_; have HO_9 := n2_; have HO_10 := n3_; have HO_11 := n4_; have HO_12 := n5_; have HO383 := n6_; have HO386 := n7_; have HO389 := n8_; have HO392 := n9_; have HO395 := n10_; have HO398 := n11_; have HB := n12_; clear n0_ n1_ n2_ n3_ n4_ n5_ n6_ n7_ n8_ n9_ n10_ n11_ n12_; (try clear hb); (try clear hb2); (try clear hk); (try clear hi); (try clear ho0); obtain ⟨Ao53, co53, eo53⟩ := Kd.V_slice HO398.out; subst eo53) | ((with_reducible refine gate_callee (f := 73) rfl ?_); refine goesL_ (some 96) rfl rfl Try.func73 (by kernel_rfl) rfl #[.int .i64 a0, .slice Ao44 t381.length co44, .slice Ao53 t396.length co53] rfl mX ?_; (with_reducible refine (fp_Sub.calls k1 a0 _ _ t381 _ _ t396 t399 _ ?side1 ?side2 ?side3 ?side4 A39.out).mono ?_); (case side1 => exact cX (Kd.V_reads' HO383.out).2.2); (case side2 => exact (Kd.V_reads' HO383.out).2.1); (case side3 => exact cX (Kd.V_reads' HO398.out).2.2); (case side4 => exact (Kd.V_reads' HO398.out).2.1); rintro e w54 ⟨v400, rfl, ho0, hb⟩; refine ⟨_, rfl, ?_⟩; have n0_ := ak (Kd.V_below (vX HO_1.out) hb); have n1_ := ak (Kd.V_below (vX HO_2.out) hb); have n2_ := ak (Kd.V_below (vX HO_9.out) hb); have n3_ := ak (Kd.V_below (vX HO_10.out) hb); have n4_ := ak (Kd.V_below (vX HO_11.out) hb); have n5_ := ak (Kd.V_below (vX HO_12.out) hb); have n6_ := ak (Kd.V_below (vX HO383.out) hb); have n7_ := ak (Kd.V_below (vX HO386.out) hb); have n8_ := ak (Kd.V_below (vX HO389.out) hb); have n9_ := ak (Kd.V_below (vX HO392.out) hb); have n10_ := ak (Kd.V_below (vX HO395.out) hb); have n11_ := ak (Kd.V_below (vX HO398.out) hb); have n12_ := ak (Kd.V_lower (Kd.V_mono (ok' := fun k_ => ((P1_ k_ ∨ P2_ k_) ∨ w.heap.size ≤ k_)) ho0 (fun k_ hk_ => (.inr (Nat.le_trans (below_size bX) hk_)))) (below_size bX)); have n13_ := ak (below_step bX hb); clear HO_1; clear HO_2; clear HO_9; clear HO_10; clear HO_11; clear HO_12; clear HO383; clear HO386; clear HO389; clear HO392; clear HO395; clear HO398; clear HB; have HO_1 := n0_; have HO_2 := n1_; have HO_9 := n2_; have HO_10 := n3_; have HO_11 := n4_; have HO_12 := n5_; have HO383 := n6_; have HO386 := n7_; have HO389 := n8_; have HO392 := n9_; have HO395 := n10_; have HO398 := n11_; have HO401 := n12_; have HB := n13_; clear n0_ n1_ n2_ n3_ n4_ n5_ n6_ n7_ n8_ n9_ n10_ n11_ n12_ n13_; (try clear hb); (try clear hb2); (try clear hk); (try clear hi); (try clear ho0); obtain ⟨Ao55, co55, eo55⟩ := Kd.V_slice HO401.out; subst eo55) | ((with_reducible refine gate_callee (f := 74) rfl ?_); refine goesL_ (some 98) rfl rfl Try.func74 (by kernel_rfl) rfl #[.int .i64 a0, .slice Ao55 t399.length co55, .slice A2 l2.length c2] rfl mX ?_; (with_reducible refine (fp_DivMod.calls k1 a0 _ _ t399 _ _ l2 t402 t405 _ ?side1 ?side2 ?side3 ?side4 A40.out).mono ?_); (case side1 => exact cX (Kd.V_reads' HO401.out).2.2); (case side2 => exact (Kd.V_reads' HO401.out).2.1); (case side3 => exact cX (Kd.V_reads' HO_2.out).2.2); (case side4 => exact (Kd.V_reads' HO_2.out).2.1); rintro e w56 ⟨v403, v406, rfl, ho0, ho1, hb⟩; refine ⟨_, rfl, ?_⟩; have n0_ := ak (Kd.V_below (vX HO_1.out) hb); have n1_ := ak (Kd.V_below (vX HO_2.out) hb); have n2_ := ak (Kd.V_below (vX HO_9.out) hb); have n3_ := ak (Kd.V_below (vX HO_10.out) hb); have n4_ := ak (Kd.V_below (vX HO_11.out) hb); have n5_ := ak (Kd.V_below (vX HO_12.out) hb); have n6_ := ak (Kd.V_below (vX HO383.out) hb); have n7_ := ak (Kd.V_below (vX HO386.out) hb); have n8_ := ak (Kd.V_below (vX HO389.out) hb); have n9_ := ak (Kd.V_below (vX HO392.out) hb); have n10_ := ak (Kd.V_below (vX HO395.out) hb); have n11_ := ak (Kd.V_below (vX HO398.out) hb); have n12_ := ak (Kd.V_below (vX HO401.out) hb); have n13_ := ak (Kd.V_lower (Kd.V_mono (ok' := fun k_ => ((P1_ k_ ∨ P2_ k_) ∨ w.heap.size ≤ k_)) ho0 (fun k_ hk_ => (.inr (Nat.le_trans (below_size bX) hk_)))) (below_size bX)); have n14_ := ak (Kd.V_lower (Kd.V_mono (ok' := fun k_ => ((P1_ k_ ∨ P2_ k_) ∨ w.heap.size ≤ k_)) ho1 (fun k_ hk_ => (.inr (Nat.le_trans (below_size bX) hk_)))) (below_size bX)); have n15_ := ak (below_step bX hb); clear HO_1; clear HO_2; clear HO_9; clear HO_10; clear HO_11; clear HO_12; clear HO383; clear HO386; clear HO389; clear HO392; clear HO395; clear HO398; clear HO401; clear HB; have HO_1 := n0_; have HO_2 := n1_; have HO_9 := n2_; have HO_10 := n3_; have HO_11 := n4_; have HO_12 := n5_; have HO383 := n6_; have HO386 := n7_; have HO389 := n8_; have HO392 := n9_; have HO395 := n10_; have HO398 := n11_; have HO401 := n12_; have HO404 := n13_; have HO407 := n14_; have HB := n15_; clear n0_ n1_ n2_ n3_ n4_ n5_ n6_ n7_ n8_ n9_ n10_ n11_ n12_ n13_ n14_ n15_; (try clear hb); (try clear hb2); (try clear hk); (try clear hi); (try clear ho0); (try clear ho1)))
            go_ret3
            exact ⟨_, _, _, by first | rfl | (simp [errW_none, errW_some] <;> rfl) | (simp only [← hji30]; first | rfl | (simp [errW_none, errW_some] <;> rfl)) | (simp [*, errW_none, errW_some] <;> rfl), by (with_reducible repeat (first | apply vA | apply vB | apply vC)); exact HO383.out, by (with_reducible repeat (first | apply vA | apply vB | apply vC)); exact HO395.out, by (with_reducible repeat (first | apply vA | apply vB | apply vC)); exact HO404.out, by repeat (first | (with_reducible first | exact HB.out | apply bA | apply bB | apply bC) | exact HB.out)⟩
          · rw [if_neg c32] at H
            exact absurd H (by simp)
        · rw [if_neg c31] at H
          exact absurd H (by simp)

/-! ### polymod_Xgcd: function 32 -/
def polymod_Xgcd.f (k : Nat) (a0 : Int) (l1 : List Int) (l2 : List Int) : Option (List Int × List Int × List Int × Int) := (polymod_first.f k a0 (([l1, l2] : List (List Int)))).bind fun t411 => (if t411 = 0 then ((fp_Xgcd.f k a0 l1 l2).bind fun bt412 => (some (bt412.1, bt412.2.1, bt412.2.2, 0))) else (some (([] : List Int), ([] : List Int), ([] : List Int), t411)))
theorem polymod_Xgcd.mono : ∀ a0 a1 a2 k, LeO (polymod_Xgcd.f k a0 a1 a2) (polymod_Xgcd.f (k + 1) a0 a1 a2) := by
 intro a0 a1 a2 k
 unfold polymod_Xgcd.f
 repeat' first
  | (with_reducible apply fp_Xgcd.mono)
  | (with_reducible apply polymod_first.mono)
  | (with_reducible apply LeO.refl)
  | (with_reducible apply LeO.none)
  | (with_reducible refine LeO.ite ?_ ?_)
  | (with_reducible refine LeO.bind ?_ (fun _ => ?_))
set_option maxHeartbeats 8000000 in
set_option maxRecDepth 100000 in
theorem polymod_Xgcd.calls (k : Nat) (a0 : Int) (P1_ : Nat → Prop) (A1 : Option Addr) (c1 : Nat) (l1 : List Int) (P2_ : Nat → Prop) (A2 : Option Addr) (c2 : Nat) (l2 : List Int) (r1 : List Int) (r2 : List Int) (r3 : List Int) (r4 : Int) (w : World) (hs1 : Kd.V (Kd.int .i64) 3 w w.heap.size (fun k_ => P1_ k_) (.slice A1 l1.length c1) l1) (hs2 : Kd.V (Kd.int .i64) 3 w w.heap.size (fun k_ => P2_ k_) (.slice A2 l2.length c2) l2) (h : polymod_Xgcd.f k a0 l1 l2 = some (r1, r2, r3, r4)) :
 Calls Try.prog 32 #[.int .i64 a0, .slice A1 l1.length c1, .slice A2 l2.length c2] w fun e w' => ∃ v0_ v1_ v2_ : Value, e = .returned (.tuple #[v0_, v1_, v2_, .int .i64 r4]) ∧ Kd.V (Kd.int .i64) 3 w' w.heap.size (fun k_ => ((P1_ k_ ∨ P2_ k_) ∨ w.heap.size ≤ k_)) v0_ r1 ∧ Kd.V (Kd.int .i64) 3 w' w.heap.size (fun k_ => ((P1_ k_ ∨ P2_ k_) ∨ w.heap.size ≤ k_)) v1_ r2 ∧ Kd.V (Kd.int .i64) 3 w' w.heap.size (fun k_ => ((P1_ k_ ∨ P2_ k_) ∨ w.heap.size ≤ k_)) v2_ r3 ∧ Below w.heap.size w w' := by
 have HO1 := ak (show Kd.V (Kd.int .i64) 3 w w.heap.size (fun k_ => ((P1_ k_ ∨ P2_ k_) ∨ w.heap.size ≤ k_)) (.slice A1 l1.length c1) l1 from Kd.V_mono hs1 (fun k_ hk => .inl (.inl hk)))
 have HO2 := ak (show Kd.V (Kd.int .i64) 3 w w.heap.size (fun k_ => ((P1_ k_ ∨ P2_ k_) ∨ w.heap.size ≤ k_)) (.slice A2 l2.length c2) l2 from Kd.V_mono hs2 (fun k_ hk => .inl (.inr hk)))
 have HB := ak (Below.refl w.heap.size w)
 have H : ((polymod_first.f k a0 (([l1, l2] : List (List Int)))).bind fun t411 => (if t411 = 0 then ((fp_Xgcd.f k a0 l1 l2).bind fun bt412 => (some (bt412.1, bt412.2.1, bt412.2.2, 0))) else (some (([] : List Int), ([] : List Int), ([] : List Int), t411)))) = some (r1, r2, r3, r4) := h
 clear h
 obtain ⟨y408, hy408⟩ : ∃ y_ : List (List Int), y_ = (([l1, l2] : List (List Int))) := ⟨_, rfl⟩
 replace H : ((polymod_first.f k a0 y408).bind fun t411 => (if t411 = 0 then ((fp_Xgcd.f k a0 l1 l2).bind fun bt412 => (some (bt412.1, bt412.2.1, bt412.2.2, 0))) else (some (([] : List Int), ([] : List Int), ([] : List Int), t411)))) = some (r1, r2, r3, r4) := by first | (rw [hy408]; with_reducible exact H) | (have H2_ := (Option.bind_some _ _).symm.trans H; rw [hy408]; with_reducible exact H2_) | (have H2_ := (Option.bind_some _ _).symm.trans H; with_reducible exact H2_) | with_reducible exact H | (rw [hy408]; exact H) | exact H
 have Ny408 := ak hy408
 clear hy408
 replace H := Option.bind_eq_some_iff.mp H
 obtain ⟨t411, A40, H⟩ := H
 replace H : (if t411 = 0 then ((fp_Xgcd.f k a0 l1 l2).bind fun bt412 => (some (bt412.1, bt412.2.1, bt412.2.2, 0))) else (some (([] : List Int), ([] : List Int), ([] : List Int), t411))) = some (r1, r2, r3, r4) := H
 have A4 := ak A40
 clear A40
 by_cases c5 : t411 = 0
 · rw [if_pos c5] at H
   have c5b0 : (t411 == 0) = true := beq_iff_eq.mpr c5
   have c5b1 : (t411 != 0) = false := bne_eq_false_iff_eq.mpr c5
   clear c5
   replace H := Option.bind_eq_some_iff.mp H
   obtain ⟨⟨t412, t415, t418⟩, A60, H⟩ := H
   replace H : (some (t412, t415, t418, 0)) = some (r1, r2, r3, r4) := H
   have A6 := ak A60
   clear A60
   simp only [Option.some.injEq, Prod.mk.injEq] at H
   obtain ⟨rfl, rfl, rfl, rfl⟩ := H
   go_enter Try.func32, Try.ntmps32
   go_wp2_with (first | ((with_reducible refine gate_dst (N := 17) rfl ?_); refine Kd.N_lit (Kd.slice 3 (Kd.int .i64)) _ 23 ?hg (N' := 17) ?hd (xs := ([l1, l2] : List (List Int))) (inner := [.slice A1 l1.length c1, .slice A2 l2.length c2]) (ok := (fun k_ => ((P1_ k_ ∨ P2_ k_) ∨ w.heap.size ≤ k_))) (okp := (fun k_ => ((P1_ k_ ∨ P2_ k_) ∨ w.heap.size ≤ k_))) ?hr ?hp (fun _ hk => hk) ((show ∀ k_, w.heap.size ≤ k_ → (fun k_ => ((P1_ k_ ∨ P2_ k_) ∨ w.heap.size ≤ k_)) k_ from fun k_ hk => (.inr (Nat.le_trans (below_size bX) hk))) _ (Nat.le_refl _)) (Below.refl _ _) (Nat.le_refl _) (by simp) ?_; (case hd => rfl); (case hg => rfl); (case hr => first | (go_simp; done) | (go_simp; rfl)); (case hp => exact (Reps.one (show Kd.FK (Kd.slice 3 (Kd.int .i64)) _ _ l1 [.slice A1 l1.length c1] from (Kd.FK_slice_mk (Kd.V_reads' (Kd.V_mono (ok' := (fun k_ => ((P1_ k_ ∨ P2_ k_) ∨ w.heap.size ≤ k_))) (HO1.out) (fun k_ hk => hk))).2.1 (Kd.V_F (Kd.V_mono (ok' := (fun k_ => ((P1_ k_ ∨ P2_ k_) ∨ w.heap.size ≤ k_))) (HO1.out) (fun k_ hk => hk))))) (Reps.one (show Kd.FK (Kd.slice 3 (Kd.int .i64)) _ _ l2 [.slice A2 l2.length c2] from (Kd.FK_slice_mk (Kd.V_reads' (Kd.V_mono (ok' := (fun k_ => ((P1_ k_ ∨ P2_ k_) ∨ w.heap.size ≤ k_))) (HO2.out) (fun k_ hk => hk))).2.1 (Kd.V_F (Kd.V_mono (ok' := (fun k_ => ((P1_ k_ ∨ P2_ k_) ∨ w.heap.size ≤ k_))) (HO2.out) (fun k_ hk => hk))))) (Reps.none _ _)))); intro v409 w7 ho8 hb hg_ hnew_; clear hg_ hnew_; (first | rw [← Ny408.out] at ho8 | (simp only [Int.reduceToNat] at ho8; rw [← Ny408.out] at ho8)); have n0_ := ak (Kd.V_elder' (vX HO1.out) (Kd.N_base ho8) hb); have n1_ := ak (Kd.V_elder' (vX HO2.out) (Kd.N_base ho8) hb); have n2_ := ak (Kd.N_lower ho8 (below_size bX)); have n3_ := ak (below_step bX hb); clear HO1; clear HO2; clear HB; have HO1 := n0_; have HO2 := n1_; have HO410 := n2_; have HB := n3_; clear n0_ n1_ n2_ n3_; clear hb ho8; obtain ⟨Ao9, co9, eo9⟩ := Kd.N_slice HO410.out; subst eo9) | ((with_reducible refine gate_callee (f := 60) rfl ?_); refine goesL_ (some 18) rfl rfl Try.func60 (by kernel_rfl) rfl #[.int .i64 a0, .slice Ao9 y408.length co9] rfl mX ?_; (with_reducible refine (polymod_first.calls k a0 _ _ y408 t411 _ ?side1 ?side2 A4.out).mono ?_); (case side1 => exact cX (Kd.N_reads' HO410.out).2.2); (case side2 => exact (Kd.N_reads' HO410.out).2.1); rintro e w10 ⟨rfl, hb⟩; refine ⟨_, rfl, ?_⟩; have n0_ := ak (Kd.V_below (vX HO1.out) hb); have n1_ := ak (Kd.V_below (vX HO2.out) hb); have n2_ := ak (Kd.N_below (by (with_reducible repeat (first | apply Kd.N_alloc | apply Kd.N_drewN | apply Kd.N_drew)); exact HO410.out) hb); have n3_ := ak (below_step bX hb); clear HO1; clear HO2; clear HO410; clear HB; have HO1 := n0_; have HO2 := n1_; have HO410 := n2_; have HB := n3_; clear n0_ n1_ n2_ n3_; (try clear hb); (try clear hb2); (try clear hk); (try clear hi)) | ((with_reducible refine gate_callee (f := 75) rfl ?_); refine goesL_ (some 26) rfl rfl Try.func75 (by kernel_rfl) rfl #[.int .i64 a0, .slice A1 l1.length c1, .slice A2 l2.length c2] rfl mX ?_; (with_reducible refine (fp_Xgcd.calls k a0 (fun k_ => (((P1_ k_ ∨ P2_ k_) ∨ w.heap.size ≤ k_) ∧ some k_ ≠ (.slice Ao9 y408.length co9 : Value).ownBlock)) _ _ l1 (fun k_ => (((P1_ k_ ∨ P2_ k_) ∨ w.heap.size ≤ k_) ∧ some k_ ≠ (.slice Ao9 y408.length co9 : Value).ownBlock)) _ _ l2 t412 t415 t418 _ ?side1 ?side2 A6.out).mono ?_); (case side1 => exact HO1.out); (case side2 => exact HO2.out); rintro e w11 ⟨v413, v416, v419, rfl, ho0, ho1, ho2, hb⟩; refine ⟨_, rfl, ?_⟩; have n0_ := ak (Kd.V_below (vX HO1.out) hb); have n1_ := ak (Kd.V_below (vX HO2.out) hb); have n2_ := ak (Kd.N_below (by (with_reducible repeat (first | apply Kd.N_alloc | apply Kd.N_drewN | apply Kd.N_drew)); exact HO410.out) hb); have n3_ := ak (Kd.V_lower (Kd.V_mono (ok' := fun k_ => ((P1_ k_ ∨ P2_ k_) ∨ w.heap.size ≤ k_) ∧ some k_ ≠ (.slice Ao9 y408.length co9 : Value).ownBlock) ho0 (fun k_ hk_ => ⟨Or.elim hk_ (fun hs_ => Or.elim hs_ (fun hs_ => hs_.1) (fun hs_ => hs_.1)) (fun hn_ => (.inr (Nat.le_trans (below_size bX) hn_))), Or.elim hk_ (fun hs_ => Or.elim hs_ (fun hs_ => hs_.2) (fun hs_ => hs_.2)) (fun hn_ => (Kd.fresh' (Kd.N_lt (by (with_reducible repeat (first | apply Kd.N_alloc | apply Kd.N_drewN | apply Kd.N_drew)); exact HO410.out)) k_ hn_))⟩)) (below_size bX)); have n4_ := ak (Kd.V_lower (Kd.V_mono (ok' := fun k_ => ((P1_ k_ ∨ P2_ k_) ∨ w.heap.size ≤ k_) ∧ some k_ ≠ (.slice Ao9 y408.length co9 : Value).ownBlock) ho1 (fun k_ hk_ => ⟨Or.elim hk_ (fun hs_ => Or.elim hs_ (fun hs_ => hs_.1) (fun hs_ => hs_.1)) (fun hn_ => (.inr (Nat.le_trans (below_size bX) hn_))), Or.elim hk_ (fun hs_ => Or.elim hs_ (fun hs_ => hs_.2) (fun hs_ => hs_.2)) (fun hn_ => (Kd.fresh' (Kd.N_lt (by (with_reducible repeat (first | apply Kd.N_alloc | apply Kd.N_drewN | apply Kd.N_drew)); exact HO410.out)) k_ hn_))⟩)) (below_size bX)); have n5_ := ak (Kd.V_lower (Kd.V_mono (ok' := fun k_ => ((P1_ k_ ∨ P2_ k_) ∨ w.heap.size ≤ k_) ∧ some k_ ≠ (.slice Ao9 y408.length co9 : Value).ownBlock) ho2 (fun k_ hk_ => ⟨Or.elim hk_ (fun hs_ => Or.elim hs_ (fun hs_ => hs_.1) (fun hs_ => hs_.1)) (fun hn_ => (.inr (Nat.le_trans (below_size bX) hn_))), Or.elim hk_ (fun hs_ => Or.elim hs_ (fun hs_ => hs_.2) (fun hs_ => hs_.2)) (fun hn_ => (Kd.fresh' (Kd.N_lt (by (with_reducible repeat (first | apply Kd.N_alloc | apply Kd.N_drewN | apply Kd.N_drew)); exact HO410.out)) k_ hn_))⟩)) (below_size bX)); have n6_ := ak (below_step bX hb); clear HO1; clear HO2; clear HO410; clear HB; have HO1 := n0_; have HO2 := n1_; have HO410 := n2_; have HO414 := n3_; have HO417 := n4_; have HO420 := n5_; have HB := n6_; clear n0_ n1_ n2_ n3_ n4_ n5_ n6_; (try clear hb); (try clear hb2); (try clear hk); (try clear hi); (try clear ho0); (try clear ho1); (try clear ho2)))
   refine bodyPost_ret (results_list (rs := [.tmp 6, .tmp 7, .tmp 8, .tmp 9]) rfl (by simp) (.tmp (.tmp (.tmp (.tmp .nil))))) rfl ?_
   exact ⟨_, _, _, by first | rfl | (simp [errW_none, errW_some] <;> rfl) | (simp [*, errW_none, errW_some] <;> rfl), by (with_reducible repeat (first | apply vA | apply vB | apply vC)); exact Kd.V_mono HO414.out (fun _ hk => hk.1), by (with_reducible repeat (first | apply vA | apply vB | apply vC)); exact Kd.V_mono HO417.out (fun _ hk => hk.1), by (with_reducible repeat (first | apply vA | apply vB | apply vC)); exact Kd.V_mono HO420.out (fun _ hk => hk.1), by repeat (first | (with_reducible first | exact HB.out | apply bA | apply bB | apply bC) | exact HB.out)⟩
 · rw [if_neg c5] at H
   have c5b0 : (t411 == 0) = false := beq_eq_false_iff_ne.mpr c5
   have c5b1 : (t411 != 0) = true := bne_iff_ne.mpr c5
   simp only [Option.some.injEq, Prod.mk.injEq] at H
   obtain ⟨rfl, rfl, rfl, rfl⟩ := H
   go_enter Try.func32, Try.ntmps32
   go_wp2_with (first | ((with_reducible refine gate_dst (N := 17) rfl ?_); refine Kd.N_lit (Kd.slice 3 (Kd.int .i64)) _ 23 ?hg (N' := 17) ?hd (xs := ([l1, l2] : List (List Int))) (inner := [.slice A1 l1.length c1, .slice A2 l2.length c2]) (ok := (fun k_ => ((P1_ k_ ∨ P2_ k_) ∨ w.heap.size ≤ k_))) (okp := (fun k_ => ((P1_ k_ ∨ P2_ k_) ∨ w.heap.size ≤ k_))) ?hr ?hp (fun _ hk => hk) ((show ∀ k_, w.heap.size ≤ k_ → (fun k_ => ((P1_ k_ ∨ P2_ k_) ∨ w.heap.size ≤ k_)) k_ from fun k_ hk => (.inr (Nat.le_trans (below_size bX) hk))) _ (Nat.le_refl _)) (Below.refl _ _) (Nat.le_refl _) (by simp) ?_; (case hd => rfl); (case hg => rfl); (case hr => first | (go_simp; done) | (go_simp; rfl)); (case hp => exact (Reps.one (show Kd.FK (Kd.slice 3 (Kd.int .i64)) _ _ l1 [.slice A1 l1.length c1] from (Kd.FK_slice_mk (Kd.V_reads' (Kd.V_mono (ok' := (fun k_ => ((P1_ k_ ∨ P2_ k_) ∨ w.heap.size ≤ k_))) (HO1.out) (fun k_ hk => hk))).2.1 (Kd.V_F (Kd.V_mono (ok' := (fun k_ => ((P1_ k_ ∨ P2_ k_) ∨ w.heap.size ≤ k_))) (HO1.out) (fun k_ hk => hk))))) (Reps.one (show Kd.FK (Kd.slice 3 (Kd.int .i64)) _ _ l2 [.slice A2 l2.length c2] from (Kd.FK_slice_mk (Kd.V_reads' (Kd.V_mono (ok' := (fun k_ => ((P1_ k_ ∨ P2_ k_) ∨ w.heap.size ≤ k_))) (HO2.out) (fun k_ hk => hk))).2.1 (Kd.V_F (Kd.V_mono (ok' := (fun k_ => ((P1_ k_ ∨ P2_ k_) ∨ w.heap.size ≤ k_))) (HO2.out) (fun k_ hk => hk))))) (Reps.none _ _)))); intro v409 w12 ho13 hb hg_ hnew_; clear hg_ hnew_; (first | rw [← Ny408.out] at ho13 | (simp only [Int.reduceToNat] at ho13; rw [← Ny408.out] at ho13)); have n0_ := ak (Kd.V_elder' (vX HO1.out) (Kd.N_base ho13) hb); have n1_ := ak (Kd.V_elder' (vX HO2.out) (Kd.N_base ho13) hb); have n2_ := ak (Kd.N_lower ho13 (below_size bX)); have n3_ := ak (below_step bX hb); clear HO1; clear HO2; clear HB; have HO1 := n0_; have HO2 := n1_; have HO410 := n2_; have HB := n3_; clear n0_ n1_ n2_ n3_; clear hb ho13; obtain ⟨Ao14, co14, eo14⟩ := Kd.N_slice HO410.out; subst eo14) | ((with_reducible refine gate_callee (f := 60) rfl ?_); refine goesL_ (some 18) rfl rfl Try.func60 (by kernel_rfl) rfl #[.int .i64 a0, .slice Ao14 y408.length co14] rfl mX ?_; (with_reducible refine (polymod_first.calls k a0 _ _ y408 t411 _ ?side1 ?side2 A4.out).mono ?_); (case side1 => exact cX (Kd.N_reads' HO410.out).2.2); (case side2 => exact (Kd.N_reads' HO410.out).2.1); rintro e w15 ⟨rfl, hb⟩; refine ⟨_, rfl, ?_⟩; have n0_ := ak (Kd.V_below (vX HO1.out) hb); have n1_ := ak (Kd.V_below (vX HO2.out) hb); have n2_ := ak (Kd.N_below (by (with_reducible repeat (first | apply Kd.N_alloc | apply Kd.N_drewN | apply Kd.N_drew)); exact HO410.out) hb); have n3_ := ak (below_step bX hb); clear HO1; clear HO2; clear HO410; clear HB; have HO1 := n0_; have HO2 := n1_; have HO410 := n2_; have HB := n3_; clear n0_ n1_ n2_ n3_; (try clear hb); (try clear hb2); (try clear hk); (try clear hi)))
   refine bodyPost_ret (results_list (rs := [.tmp 6, .tmp 7, .tmp 8, .tmp 9]) rfl (by simp) (.tmp (.tmp (.tmp (.tmp .nil))))) rfl ?_
   exact ⟨_, _, _, by first | rfl | (simp [errW_none, errW_some] <;> rfl) | (simp [*, errW_none, errW_some] <;> rfl), (Kd.V_nil _ _ _ _ _), (Kd.V_nil _ _ _ _ _), (Kd.V_nil _ _ _ _ _), by repeat (first | (with_reducible first | exact HB.out | apply bA | apply bB | apply bC) | exact HB.out)⟩

/-! ### galoisref09_Trim: function 40 -/
def galoisref09_Trim.l0 : Nat → List Int → Option (List Int)
 | 0, _ => none
 | k + 1, x0 => if (x0.length : Int) > 0 then (if 0 ≤ (wrap64 ((x0.length : Int) - 1)) then (if (wrap64 ((x0.length : Int) - 1)) < (x0.length : Int) then (if (rd x0 (wrap64 ((x0.length : Int) - 1))) = 0 then (if (wrap64 ((x0.length : Int) - 1)) ≤ (x0.length : Int) then (galoisref09_Trim.l0 k (x0.take ((wrap64 ((x0.length : Int) - 1)) : Int).toNat)) else (none)) else (some x0)) else (none)) else (none)) else (some x0)
def galoisref09_Trim.f (k : Nat) (l0 : List Int) : Option (List Int) := galoisref09_Trim.l0 k l0
theorem galoisref09_Trim.mono_l : ∀ k, (∀ y0, LeO (galoisref09_Trim.l0 k y0) (galoisref09_Trim.l0 (k + 1) y0))
 | 0 => fun _ r h => by simp [galoisref09_Trim.l0] at h
 | k + 1 => by
   have ih0 := galoisref09_Trim.mono_l k
   · intro y0
     unfold galoisref09_Trim.l0
     repeat' first
     | (with_reducible apply ih0)
     | (with_reducible apply LeO.refl)
     | (with_reducible apply LeO.none)
     | (with_reducible refine LeO.ite ?_ ?_)
     | (with_reducible refine LeO.bind ?_ (fun _ => ?_))
theorem galoisref09_Trim.mono : ∀ a0 k, LeO (galoisref09_Trim.f k a0) (galoisref09_Trim.f (k + 1) a0) := by
 intro a0 k
 have ih0 := galoisref09_Trim.mono_l k
 unfold galoisref09_Trim.f
 repeat' first
  | (with_reducible apply ih0)
  | (with_reducible apply LeO.refl)
  | (with_reducible apply LeO.none)
  | (with_reducible refine LeO.ite ?_ ?_)
  | (with_reducible refine LeO.bind ?_ (fun _ => ?_))
set_option maxHeartbeats 8000000 in
set_option maxRecDepth 100000 in
theorem galoisref09_Trim.calls (k : Nat) (P0_ : Nat → Prop) (A0 : Option Addr) (c0 : Nat) (l0 : List Int) (r : List Int) (w : World) (hs0 : Kd.V (Kd.int .i64) 3 w w.heap.size (fun k_ => P0_ k_) (.slice A0 l0.length c0) l0) (h : galoisref09_Trim.f k l0 = some r) :
 Calls Try.prog 40 #[.slice A0 l0.length c0] w fun e w' => ∃ v0_ : Value, e = .returned (v0_) ∧ Kd.V (Kd.int .i64) 3 w' w.heap.size (fun k_ => (P0_ k_ ∨ w.heap.size ≤ k_)) v0_ r ∧ Below w.heap.size w w' := by
 have HO0 := ak (show Kd.V (Kd.int .i64) 3 w w.heap.size (fun k_ => (P0_ k_ ∨ w.heap.size ≤ k_)) (.slice A0 l0.length c0) l0 from Kd.V_mono hs0 (fun k_ hk => .inl hk))
 have HB := ak (Below.refl w.heap.size w)
 have H : (galoisref09_Trim.l0 k l0) = some r := h
 clear h
 have H' := ak H
 clear H
 go_enter Try.func40, Try.ntmps40
 go_wp2
 go_loopg [0] k (fun kq v0 w' => ∃ (x0_1 : List Int), Aside0 (galoisref09_Trim.l0 kq x0_1 = some r) ∧ Aside0 (kq ≤ k) ∧ Aside0 (Kd.V (Kd.int .i64) 3 w' w.heap.size (fun k_ => (P0_ k_ ∨ w.heap.size ≤ k_)) v0 x0_1) ∧ Aside0 (Below w.heap.size w w'))
 case atStart => exact ⟨(l0), H', ⟨Nat.le_refl _⟩, ⟨by (with_reducible repeat (first | apply vA | apply vB | apply vC)); exact HO0.out⟩, ⟨by repeat (first | (with_reducible first | exact HB.out | apply bA | apply bB | apply bC) | exact HB.out)⟩⟩
 case round =>
  clear H'
  obtain ⟨x0_1, HA, HK1, HO_0, HB⟩ := hrel
  cases gk with
  | zero => exact absurd HA.out (by simp [galoisref09_Trim.l0])
  | succ k1 =>
    have H := HA.out
    clear HA
    simp only [galoisref09_Trim.l0] at H
    by_cases c2 : (x0_1.length : Int) > 0
    · rw [if_pos c2] at H
      have c2b0 : decide (0 < (x0_1.length : Int)) = true := decide_eq_true c2
      have c2b1 : decide (0 < x0_1.length) = true := decide_eq_true (by omega)
      clear c2
      obtain ⟨ji3, hji3⟩ : ∃ j_ : Int, (wrap64 ((x0_1.length : Int) - 1)) = j_ := ⟨_, rfl⟩
      replace H : (if 0 ≤ (ji3) then (if (ji3) < (x0_1.length : Int) then (if (rd x0_1 (ji3)) = 0 then (if (ji3) ≤ (x0_1.length : Int) then (galoisref09_Trim.l0 k1 (x0_1.take ((ji3) : Int).toNat)) else (none)) else (some x0_1)) else (none)) else (none)) = some r := by first | (rw [hji3] at H; exact H) | (simp only [hji3] at H ⊢; exact H)
      have hji3w : (IntKind.i64.wrap ((x0_1.length : Int) - 1)) = ji3 := (i64_w _).trans hji3
      by_cases c4 : 0 ≤ (ji3)
      · rw [if_pos c4] at H
        have c4b0 : decide (0 ≤ (ji3)) = true := decide_eq_true c4
        clear c4
        by_cases c5 : (ji3) < (x0_1.length : Int)
        · rw [if_pos c5] at H
          have c5b0 : decide ((ji3) < (x0_1.length : Int)) = true := decide_eq_true c5
          clear c5
          by_cases c6 : (rd x0_1 (ji3)) = 0
          · rw [if_pos c6] at H
            have c6b0 : ((rd x0_1 (ji3)) == 0) = true := beq_iff_eq.mpr c6
            have c6b1 : ((rd x0_1 (ji3)) != 0) = false := bne_eq_false_iff_eq.mpr c6
            clear c6
            have c7b0 := eq_true (of_decide_eq_true aX : 0 ≤ (ji3))
            by_cases c8 : (ji3) ≤ (x0_1.length : Int)
            · rw [if_pos c8] at H
              have c8b0 := eq_true c8
              have c8b1 : decide ((ji3) ≤ (x0_1.length : Int)) = true := decide_eq_true c8
              clear c8
              obtain ⟨y422, hy422⟩ : ∃ y_ : List Int, y_ = (x0_1.take ((ji3) : Int).toNat) := ⟨_, rfl⟩
              replace H : (galoisref09_Trim.l0 k1 y422) = some r := by first | (rw [hy422]; with_reducible exact H) | (have H2_ := (Option.bind_some _ _).symm.trans H; rw [hy422]; with_reducible exact H2_) | (have H2_ := (Option.bind_some _ _).symm.trans H; with_reducible exact H2_) | with_reducible exact H | (rw [hy422]; exact H) | exact H
              have Ny422 := ak hy422
              clear hy422
              have H' := ak H
              clear H
              obtain ⟨Ao9, co9, eo9⟩ := Kd.V_slice HO_0.out
              subst eo9
              have p421 : 0 ≤ ((ji3) : Int) := of_decide_eq_true aX
              have q421 : (ji3) < (x0_1.length : Int) := of_decide_eq_true aX
              obtain ⟨ad421, e421, hx421_0⟩ := Kd.at_int (Kd.V_reads' HO_0.out).2.2 (ji3) p421 q421
              cases e421
              replace p421 := eq_true p421
              replace q421 := eq_true q421
              have q10 : ((ji3) : Int) ≤ ((x0_1.length : Int) : Int) := of_decide_eq_true aX
              obtain ⟨i010, hi010, _, hsz10, _⟩ := info_parts info3
              have hroom10 : x0_1.length ≤ co9 := (Kd.V_reads' HO_0.out).2.1
              have hC10 : Kd.F (Kd.int .i64) _ _ (some ad421) x0_1.length x0_1 := (Kd.V_at (base := w.heap.size) HO_0.out).2.2
              have hcut10 := cut_to (P := Try.prog) 23 3 .i64 Try.underlying23 hi010 (some ad421) x0_1.length co9 (ji3) (of_decide_eq_true aX) q10 hroom10
              have hr10 := Kd.F_take (m := ((ji3) : Int).toNat) hC10 (by omega)
              have hy10 : y422.length = ((ji3) : Int).toNat := (by rw [Ny422.out, List.length_take]; omega)
              rw [← Ny422.out] at hr10
              rw [← hy10] at hcut10
              have HO426 := ak (show Kd.V (Kd.int .i64) 3 _ w.heap.size _ (.slice (some ad421) y422.length co9) y422 from Kd.V_mk (by omega) hr10)
              have HC426 := ak (show y422.length ≤ co9 from by omega)
              clear hr10 hC10 hroom10 hi010 hsz10
              have KY10 := ak hy10
              clear hy10
              replace q10 := eq_true q10
              go_wp2
              (first | go_roundg k1 | (refine Handed.intro k1 ?measure ?_; rotate_left; go_step; (repeat rw [add_plain]); (repeat apply Exists.intro); refine ⟨?rel, rfl⟩))
              case measure => have := HK1.out; omega
              case rel => exact ⟨(y422), H', ⟨by have := HK1.out; omega⟩, ⟨by (with_reducible repeat (first | apply vA | apply vB | apply vC)); exact HO426.out⟩, ⟨by repeat (first | (with_reducible first | exact HB.out | apply bA | apply bB | apply bC) | exact HB.out)⟩⟩
            · rw [if_neg c8] at H
              exact absurd H (by simp)
          · rw [if_neg c6] at H
            have c6b0 : ((rd x0_1 (ji3)) == 0) = false := beq_eq_false_iff_ne.mpr c6
            have c6b1 : ((rd x0_1 (ji3)) != 0) = true := bne_iff_ne.mpr c6
            obtain rfl := Option.some.inj H
            obtain ⟨Ao11, co11, eo11⟩ := Kd.V_slice HO_0.out
            subst eo11
            have p421 : 0 ≤ ((ji3) : Int) := of_decide_eq_true aX
            have q421 : (ji3) < (x0_1.length : Int) := of_decide_eq_true aX
            obtain ⟨ad421, e421, hx421_0⟩ := Kd.at_int (Kd.V_reads' HO_0.out).2.2 (ji3) p421 q421
            cases e421
            replace p421 := eq_true p421
            replace q421 := eq_true q421
            go_wp2
            go_ret
            exact ⟨_, by first | rfl | (simp [errW_none, errW_some] <;> rfl) | (simp only [← hji3]; first | rfl | (simp [errW_none, errW_some] <;> rfl)) | (simp [*, errW_none, errW_some] <;> rfl), by (with_reducible repeat (first | apply vA | apply vB | apply vC)); exact HO_0.out, by repeat (first | (with_reducible first | exact HB.out | apply bA | apply bB | apply bC) | exact HB.out)⟩
        · rw [if_neg c5] at H
          exact absurd H (by simp)
      · rw [if_neg c4] at H
        exact absurd H (by simp)
    · rw [if_neg c2] at H
      have c2b0 : decide (0 < (x0_1.length : Int)) = false := decide_eq_false c2
      have c2b1 : decide (0 < x0_1.length) = false := decide_eq_false (by omega)
      clear c2
      obtain rfl := Option.some.inj H
      obtain ⟨Ao12, co12, eo12⟩ := Kd.V_slice HO_0.out
      subst eo12
      go_wp2
      go_ret
      exact ⟨_, by first | rfl | (simp [errW_none, errW_some] <;> rfl) | (simp [*, errW_none, errW_some] <;> rfl), by (with_reducible repeat (first | apply vA | apply vB | apply vC)); exact HO_0.out, by repeat (first | (with_reducible first | exact HB.out | apply bA | apply bB | apply bC) | exact HB.out)⟩

/-! ### galoisref09_Copy: function 84 -/
def galoisref09_Copy.f (l0 : List Int) : Option (List Int) := (some (([] : List Int) : List Int)).bind fun y427 => (if y427.length + l0.length < 17592186044416 then (some (y427 ++ l0)) else (none))
set_option maxHeartbeats 8000000 in
set_option maxRecDepth 100000 in
theorem galoisref09_Copy.calls (A0 : Option Addr) (c0 : Nat) (l0 : List Int) (r : List Int) (w : World) (hr0 : Kd.C (Kd.int .i64) w A0 l0.length l0) (hc0 : l0.length ≤ c0) (h : galoisref09_Copy.f l0 = some r) :
 Calls Try.prog 84 #[.slice A0 l0.length c0] w fun e w' => ∃ v0_ : Value, e = .returned (v0_) ∧ Kd.R (Kd.int .i64) 3 w' w.heap.size (fun _ => True) v0_ r ∧ Below w.heap.size w w' := by
 have HR0 := ak hr0
 have HC0 := ak hc0
 clear hr0 hc0
 have HB := ak (Below.refl w.heap.size w)
 have H : ((some (([] : List Int) : List Int)).bind fun y427 => (if y427.length + l0.length < 17592186044416 then (some (y427 ++ l0)) else (none))) = some r := h
 clear h
 obtain ⟨y427, hy427⟩ : ∃ y_ : List Int, y_ = (([] : List Int)) := ⟨_, rfl⟩
 replace H : (if y427.length + l0.length < 17592186044416 then (some (y427 ++ l0)) else (none)) = some r := by first | (rw [hy427]; with_reducible exact H) | (have H2_ := (Option.bind_some _ _).symm.trans H; rw [hy427]; with_reducible exact H2_) | (have H2_ := (Option.bind_some _ _).symm.trans H; with_reducible exact H2_) | with_reducible exact H | (rw [hy427]; exact H) | exact H
 have Ny427 := ak hy427
 clear hy427
 by_cases c2 : y427.length + l0.length < 17592186044416
 · rw [if_pos c2] at H
   have LMc2 := ak c2
   clear c2
   obtain ⟨y430, hy430⟩ : ∃ y_ : List Int, y_ = (y427 ++ l0) := ⟨_, rfl⟩
   replace H : (some y430) = some r := by first | (rw [hy430]; with_reducible exact H) | (have H2_ := (Option.bind_some _ _).symm.trans H; rw [hy430]; with_reducible exact H2_) | (have H2_ := (Option.bind_some _ _).symm.trans H; with_reducible exact H2_) | with_reducible exact H | (rw [hy430]; exact H) | exact H
   have Ny430 := ak hy430
   clear hy430
   obtain rfl := Option.some.inj H
   go_enter Try.func84, Try.ntmps84
   go_wp2_with (first | ((with_reducible refine gate_dst (N := 3) rfl ?_); refine Kd.R_lit (Kd.int .i64) _ 3 ?hg (N := 3) ?hd (xs := ([] : List Int)) (inner := []) (ok := fun _ => True) (okp := fun _ => True) ?hr ?hp (fun _ hk => hk) trivial (Below.refl _ _) (Nat.le_refl _) (by simp) ?_; (case hd => rfl); (case hg => rfl); (case hr => first | (go_simp; done) | (go_simp; rfl)); (case hp => exact (Reps.none _ _)); intro v428 w3 ho4 hb hg_ hnew_; clear hg_ hnew_; (first | rw [← Ny427.out] at ho4 | (simp only [Int.reduceToNat] at ho4; rw [← Ny427.out] at ho4)); have n0_ := ak (Kd.R_lower ho4 (below_size bX)); have n1_ := ak (below_step bX hb); clear HB; have HO429 := n0_; have HB := n1_; clear n0_ n1_; clear hb ho4) | ((with_reducible refine gate_builtin (b := .append) (xs := #[.tmp 3, .tmp 4]) rfl ?_); at_builtin; refine Kd.R_append_rows (Kd.int .i64) (w0 := w) w.heap.size rfl (.tmp 3) (.tmp 4) 23 3 (.int .i64 0) 8 rfl Try.underlying23 info3 rfl (by decide) (by omega) v428 y427 l0 _ _ _ (fun _ => True) (fun _ => False) rfl rfl ?aO ?aR (fun _ _ h => h) (fun _ h => h.elim) ?aF ?aB ?aS ?aL ?_; (case aR => exact cX (Kd.C_below HR0.out HB.out)); (case aB => exact bX); (case aF => exact (fun _ _ => trivial)); (case aO => exact (rX HO429.out)); (case aS => exact (below_size bX)); (case aL => have := LMc2.out; omega); intro v431 w5 ho hb hg hat; rw [← Ny430.out] at ho; have n0_ := ak (hb); have n1_ := ak (ho); clear HB; clear HO429; have HB := n0_; have HO432 := n1_; clear n0_ n1_; clear ho hb hg hat))
   go_ret
   exact ⟨_, by first | rfl | (simp [errW_none, errW_some] <;> rfl) | (simp [*, errW_none, errW_some] <;> rfl), by (with_reducible repeat (first | apply Kd.R_alloc | apply Kd.R_drewN | apply Kd.R_drew)); exact HO432.out, by repeat (first | (with_reducible first | exact HB.out | apply bA | apply bB | apply bC) | exact HB.out)⟩
 · rw [if_neg c2] at H
   exact absurd H (by simp)

end Go.Proofs.Ytmknclgamadphaa.PPolymodDivisions
