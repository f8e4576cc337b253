-- WRITTEN BY sprint.py (a program of this repo, over the kit's print.py): nothing here is trusted, Lean checks it.
import Derived.Test.YtmknclgamadphaaPPolymodPrimesx0
import Derived.Test.YtmknclgamadphaaPPolymodPrimesx7
namespace Go.Proofs.Ytmknclgamadphaa.PPolymodPrimes
open Go.RowKit Go.Proofs.YtmknclgamadphaaW.PrintWords Go.Proofs.YtmknclgamadphaaW.PrintLast Go.Proofs.YtmknclgamadphaaW.PrintMore
attribute [local go_sem] max2_int min2_int max_two min_two max_three min_three max_four min_four   -- for this text's walks alone
set_option linter.unusedVariables false
set_option linter.unusedSimpArgs false

/-! ### galoisref09_DivMod: function 35 -/
mutual
def galoisref09_DivMod.l0 : Nat → Int → List Int → List Int → Int → List Int → Int → Int → Option (List Int × List Int)
 | 0, _, _, _, _, _, _, _ => none
 | k + 1, x0, x2, x8, x9, x10, x11, x12 => if x12 ≥ 0 then (if 0 ≤ (wrap64 (x12 + x9)) then (if (wrap64 (x12 + x9)) < (x8.length : Int) then (if x0 = 0 then (none) else (if 0 ≤ x12 then (if x12 < (x10.length : Int) then (galoisref09_DivMod.l1 k x0 x2 x8 x9 (x10.set (x12 : Int).toNat (Int.tmod (wrap64 ((rd x8 (wrap64 (x12 + x9))) * x11)) x0)) x11 x12 (Int.tmod (wrap64 ((rd x8 (wrap64 (x12 + x9))) * x11)) x0) 0) else (none)) else (none))) else (none)) else (none)) else ((galoisref09_Trim.f k x10).bind fun t378 => ((galoisref09_Trim.f k x8).bind fun t381 => (some (t378, t381))))
def galoisref09_DivMod.l1 : Nat → Int → List Int → List Int → Int → List Int → Int → Int → Int → Int → Option (List Int × List Int)
 | 0, _, _, _, _, _, _, _, _, _ => none
 | k + 1, x0, x2, x8, x9, x10, x11, x12, x13, x14 => if x14 ≤ x9 then (if 0 ≤ (wrap64 (x12 + x14)) then (if (wrap64 (x12 + x14)) < (x8.length : Int) then (if 0 ≤ x14 then (if x14 < (x2.length : Int) then (if x0 = 0 then (none) else (galoisref09_DivMod.l1 k x0 x2 (x8.set ((wrap64 (x12 + x14)) : Int).toNat (Int.tmod (wrap64 ((rd x8 (wrap64 (x12 + x14))) + (wrap64 ((wrap64 (x0 - x13)) * (rd x2 x14))))) x0)) x9 x10 x11 x12 x13 (wrap64 (x14 + 1)))) else (none)) else (none)) else (none)) else (none)) else (galoisref09_DivMod.l0 k x0 x2 x8 x9 x10 x11 (wrap64 (x12 - 1)))
end
def galoisref09_DivMod.f (k : Nat) (a0 : Int) (l1 : List Int) (l2 : List Int) : Option (List Int × List Int) := (galoisref09_Copy.f l1).bind fun t370 => (if 0 ≤ (mx 0 (wrap64 ((l1.length : Int) - (wrap64 ((l2.length : Int) - 1))))) then (if (mx 0 (wrap64 ((l1.length : Int) - (wrap64 ((l2.length : Int) - 1)))) : Int).toNat ≤ 35184372088832 then ((some (List.replicate (mx 0 (wrap64 ((l1.length : Int) - (wrap64 ((l2.length : Int) - 1)))) : Int).toNat 0 : List Int)).bind fun y373 => (if 0 ≤ (wrap64 ((l2.length : Int) - 1)) then (if (wrap64 ((l2.length : Int) - 1)) < (l2.length : Int) then ((galoisref04_Inverse.f k (rd l2 (wrap64 ((l2.length : Int) - 1))) a0).bind fun t377 => (galoisref09_DivMod.l0 k a0 l2 t370 (wrap64 ((l2.length : Int) - 1)) y373 t377 (wrap64 ((y373.length : Int) - 1)))) else (none)) else (none))) else (none)) else (none))
theorem galoisref09_DivMod.mono_l : ∀ k, (∀ y0 y1 y2 y3 y4 y5 y6, LeO (galoisref09_DivMod.l0 k y0 y1 y2 y3 y4 y5 y6) (galoisref09_DivMod.l0 (k + 1) y0 y1 y2 y3 y4 y5 y6)) ∧ (∀ y0 y1 y2 y3 y4 y5 y6 y7 y8, LeO (galoisref09_DivMod.l1 k y0 y1 y2 y3 y4 y5 y6 y7 y8) (galoisref09_DivMod.l1 (k + 1) y0 y1 y2 y3 y4 y5 y6 y7 y8))
 | 0 => ⟨fun _ _ _ _ _ _ _ r h => by simp [galoisref09_DivMod.l0] at h, fun _ _ _ _ _ _ _ _ _ r h => by simp [galoisref09_DivMod.l1] at h⟩
 | k + 1 => by
   obtain ⟨ih0, ih1⟩ := galoisref09_DivMod.mono_l k
   refine ⟨?_, ?_⟩
   · intro y0 y1 y2 y3 y4 y5 y6
     unfold galoisref09_DivMod.l0
     repeat' first
     | (with_reducible apply ih0)
     | (with_reducible apply ih1)
     | (with_reducible apply galoisref04_Inverse.mono)
     | (with_reducible apply galoisref09_Trim.mono)
     | (with_reducible apply LeO.refl)
     | (with_reducible apply LeO.none)
     | (with_reducible refine LeO.ite ?_ ?_)
     | (with_reducible refine LeO.bind ?_ (fun _ => ?_))
   · intro y0 y1 y2 y3 y4 y5 y6 y7 y8
     unfold galoisref09_DivMod.l1
     repeat' first
     | (with_reducible apply ih0)
     | (with_reducible apply ih1)
     | (with_reducible apply galoisref04_Inverse.mono)
     | (with_reducible apply galoisref09_Trim.mono)
     | (with_reducible apply LeO.refl)
     | (with_reducible apply LeO.none)
     | (with_reducible refine LeO.ite ?_ ?_)
     | (with_reducible refine LeO.bind ?_ (fun _ => ?_))
theorem galoisref09_DivMod.mono : ∀ a0 a1 a2 k, LeO (galoisref09_DivMod.f k a0 a1 a2) (galoisref09_DivMod.f (k + 1) a0 a1 a2) := by
 intro a0 a1 a2 k
 obtain ⟨ih0, ih1⟩ := galoisref09_DivMod.mono_l k
 unfold galoisref09_DivMod.f
 repeat' first
  | (with_reducible apply ih0)
  | (with_reducible apply ih1)
  | (with_reducible apply galoisref04_Inverse.mono)
  | (with_reducible apply galoisref09_Trim.mono)
  | (with_reducible apply LeO.refl)
  | (with_reducible apply LeO.none)
  | (with_reducible refine LeO.ite ?_ ?_)
  | (with_reducible refine LeO.bind ?_ (fun _ => ?_))
def galoisref09_DivMod.T13 : Bool × List (List Nat × List Nat) := (true, [([], []), ([], []), ([], []), ([1, 2], [1, 2]), ([], []), ([], []), ([], []), ([5, 6], [5, 6]), ([4, 7], [4, 7]), ([8], [8]), ([], []), ([], []), ([10, 11], [10, 11]), ([], []), ([], []), ([13, 14], [13, 14]), ([15], [15]), ([12, 16], [12, 16]), ([9, 17], [9, 17]), ([], []), ([18, 19], [18, 19]), ([0, 3, 0, 1, 2, 3, 4, 5, 6, 7, 8, 9, 10, 11, 12, 13, 14, 15, 16, 17, 18, 19, 20], [0, 3]), ([21, 20, 0, 1, 2, 3, 4, 5, 6, 7, 8, 9, 10, 11, 12, 13, 14, 15, 16, 17, 18, 19, 20], [20, 21])])
def galoisref09_DivMod.B13 : List Nat := [0, 0, 0, 6, 0, 0, 0, 96, 240, 496, 0, 0, 3072, 0, 0, 24576, 57344, 130048, 262128, 0, 1048560, 2097151, 4194303]
theorem galoisref09_DivMod.tab13 : rtab .any (opsOf Try.f35 13) = galoisref09_DivMod.T13 := by kernel_rfl
theorem galoisref09_DivMod.bits13 : waitsOk galoisref09_DivMod.T13.2 galoisref09_DivMod.B13 = true := by kernel_rfl
set_option maxHeartbeats 8000000 in
set_option maxRecDepth 100000 in
theorem galoisref09_DivMod.calls (k : Nat) (a0 : Int) (A1 : Option Addr) (c1 : Nat) (l1 : List Int) (A2 : Option Addr) (c2 : Nat) (l2 : List Int) (r1 : List Int) (r2 : List Int) (w : World) (hr1 : Kd.C (Kd.int .i64) w A1 l1.length l1) (hc1 : l1.length ≤ c1) (hr2 : Kd.C (Kd.int .i64) w A2 l2.length l2) (hc2 : l2.length ≤ c2) (h : galoisref09_DivMod.f k a0 l1 l2 = some (r1, r2)) :
 Calls Try.prog 35 #[.int .i64 a0, .slice A1 l1.length c1, .slice A2 l2.length c2] w fun e w' => ∃ v0_ v1_ : Value, e = .returned (.tuple #[v0_, v1_]) ∧ Kd.V (Kd.int .i64) 3 w' w.heap.size (fun k_ => (w.heap.size ≤ k_)) v0_ r1 ∧ Kd.V (Kd.int .i64) 3 w' w.heap.size (fun k_ => (w.heap.size ≤ k_)) v1_ r2 ∧ Below w.heap.size w w' := by
 have HR1 := ak hr1
 have HC1 := ak hc1
 clear hr1 hc1
 have HR2 := ak hr2
 have HC2 := ak hc2
 clear hr2 hc2
 have HB := ak (Below.refl w.heap.size w)
 have H : ((galoisref09_Copy.f l1).bind fun t370 => (if 0 ≤ (mx 0 (wrap64 ((l1.length : Int) - (wrap64 ((l2.length : Int) - 1))))) then (if (mx 0 (wrap64 ((l1.length : Int) - (wrap64 ((l2.length : Int) - 1)))) : Int).toNat ≤ 35184372088832 then ((some (List.replicate (mx 0 (wrap64 ((l1.length : Int) - (wrap64 ((l2.length : Int) - 1)))) : Int).toNat 0 : List Int)).bind fun y373 => (if 0 ≤ (wrap64 ((l2.length : Int) - 1)) then (if (wrap64 ((l2.length : Int) - 1)) < (l2.length : Int) then ((galoisref04_Inverse.f k (rd l2 (wrap64 ((l2.length : Int) - 1))) a0).bind fun t377 => (galoisref09_DivMod.l0 k a0 l2 t370 (wrap64 ((l2.length : Int) - 1)) y373 t377 (wrap64 ((y373.length : Int) - 1)))) else (none)) else (none))) else (none)) else (none))) = some (r1, r2) := h
 clear h
 replace H := Option.bind_eq_some_iff.mp H
 obtain ⟨t370, A40, H⟩ := H
 replace H : (if 0 ≤ (mx 0 (wrap64 ((l1.length : Int) - (wrap64 ((l2.length : Int) - 1))))) then (if (mx 0 (wrap64 ((l1.length : Int) - (wrap64 ((l2.length : Int) - 1)))) : Int).toNat ≤ 35184372088832 then ((some (List.replicate (mx 0 (wrap64 ((l1.length : Int) - (wrap64 ((l2.length : Int) - 1)))) : Int).toNat 0 : List Int)).bind fun y373 => (if 0 ≤ (wrap64 ((l2.length : Int) - 1)) then (if (wrap64 ((l2.length : Int) - 1)) < (l2.length : Int) then ((galoisref04_Inverse.f k (rd l2 (wrap64 ((l2.length : Int) - 1))) a0).bind fun t377 => (galoisref09_DivMod.l0 k a0 l2 t370 (wrap64 ((l2.length : Int) - 1)) y373 t377 (wrap64 ((y373.length : Int) - 1)))) else (none)) else (none))) else (none)) else (none)) = some (r1, r2) := H
 have A4 := ak A40
 clear A40
 obtain ⟨ji5, hji5⟩ : ∃ j_ : Int, (mx 0 (wrap64 ((l1.length : Int) - (wrap64 ((l2.length : Int) - 1))))) = j_ := ⟨_, rfl⟩
 replace H : (if 0 ≤ (ji5) then (if (ji5 : Int).toNat ≤ 35184372088832 then ((some (List.replicate (ji5 : Int).toNat 0 : List Int)).bind fun y373 => (if 0 ≤ (wrap64 ((l2.length : Int) - 1)) then (if (wrap64 ((l2.length : Int) - 1)) < (l2.length : Int) then ((galoisref04_Inverse.f k (rd l2 (wrap64 ((l2.length : Int) - 1))) a0).bind fun t377 => (galoisref09_DivMod.l0 k a0 l2 t370 (wrap64 ((l2.length : Int) - 1)) y373 t377 (wrap64 ((y373.length : Int) - 1)))) else (none)) else (none))) else (none)) else (none)) = some (r1, r2) := by first | (rw [hji5] at H; exact H) | (simp only [hji5] at H ⊢; exact H)
 (try rw [hji5] at A4)
 (try (have hji5l : 0 ≤ ji5 := by (rw [← hji5]; unfold mx; (repeat' split) <;> omega)))
 (try (have hji5m : 0 ≤ ji5 := by omega))
 have hji5_ : (if 0 < (wrap64 ((l1.length : Int) - (wrap64 ((l2.length : Int) - 1)))) then (wrap64 ((l1.length : Int) - (wrap64 ((l2.length : Int) - 1)))) else 0) = ji5 := hji5
 by_cases c6 : 0 ≤ (ji5)
 · rw [if_pos c6] at H
   have c6b0 := eq_true c6
   have c6b1 : decide (0 ≤ (ji5)) = true := decide_eq_true c6
   clear c6
   by_cases c7 : (ji5 : Int).toNat ≤ 35184372088832
   · rw [if_pos c7] at H
     have c7b0 := eq_true c7
     have c7b1 : decide ((ji5 : Int).toNat ≤ 35184372088832) = true := decide_eq_true c7
     clear c7
     obtain ⟨y373, hy373⟩ : ∃ y_ : List Int, y_ = (List.replicate (ji5 : Int).toNat 0) := ⟨_, rfl⟩
     replace H : (if 0 ≤ (wrap64 ((l2.length : Int) - 1)) then (if (wrap64 ((l2.length : Int) - 1)) < (l2.length : Int) then ((galoisref04_Inverse.f k (rd l2 (wrap64 ((l2.length : Int) - 1))) a0).bind fun t377 => (galoisref09_DivMod.l0 k a0 l2 t370 (wrap64 ((l2.length : Int) - 1)) y373 t377 (wrap64 ((y373.length : Int) - 1)))) else (none)) else (none)) = some (r1, r2) := by first | (rw [hy373]; with_reducible exact H) | (have H2_ := (Option.bind_some _ _).symm.trans H; rw [hy373]; with_reducible exact H2_) | (have H2_ := (Option.bind_some _ _).symm.trans H; with_reducible exact H2_) | with_reducible exact H | (rw [hy373]; exact H) | exact H
     have Ny373 := ak hy373
     clear hy373
     obtain ⟨ji8, hji8⟩ : ∃ j_ : Int, (wrap64 ((l2.length : Int) - 1)) = j_ := ⟨_, rfl⟩
     replace H : (if 0 ≤ (ji8) then (if (ji8) < (l2.length : Int) then ((galoisref04_Inverse.f k (rd l2 (ji8)) a0).bind fun t377 => (galoisref09_DivMod.l0 k a0 l2 t370 ji8 y373 t377 (wrap64 ((y373.length : Int) - 1)))) else (none)) else (none)) = some (r1, r2) := by first | (rw [hji8] at H; exact H) | (simp only [hji8] at H ⊢; exact H)
     (try rw [hji8] at hji5_)
     (try rw [hji8] at A4)
     have hji8w : (IntKind.i64.wrap ((l2.length : Int) - 1)) = ji8 := (i64_w _).trans hji8
     by_cases c9 : 0 ≤ (ji8)
     · rw [if_pos c9] at H
       have c9b0 : decide (0 ≤ (ji8)) = true := decide_eq_true c9
       clear c9
       by_cases c10 : (ji8) < (l2.length : Int)
       · rw [if_pos c10] at H
         have c10b0 : decide ((ji8) < (l2.length : Int)) = true := decide_eq_true c10
         clear c10
         replace H := Option.bind_eq_some_iff.mp H
         obtain ⟨t377, A110, H⟩ := H
         replace H : (galoisref09_DivMod.l0 k a0 l2 t370 ji8 y373 t377 (wrap64 ((y373.length : Int) - 1))) = some (r1, r2) := H
         have A11 := ak A110
         clear A110
         have H' := ak H
         clear H
         go_enter Try.func35, Try.ntmps35
         go_wp2_with (first | ((with_reducible refine gate_callee (f := 84) rfl ?_); refine goesL_ (some 16) rfl rfl Try.func84 (by kernel_rfl) rfl #[.slice A1 l1.length c1] rfl mX ?_; (with_reducible refine (galoisref09_Copy.calls _ _ l1 t370 _ ?side1 ?side2 A4.out).mono ?_); (case side1 => repeat (first | exact HR1.out | (with_reducible first | apply cA | apply cB | apply cC))); (case side2 => exact HC1.out); rintro e w12 ⟨v371, rfl, ho0, hb⟩; refine ⟨_, rfl, ?_⟩; have n0_ := ak (Kd.R_lower (Kd.R_newM (M := fun k_ => (w.heap.size ≤ k_)) ho0 (below_size bX) (fun k_ h_ => h_)) (below_size bX)); have n1_ := ak (below_step bX hb); clear HB; have HO372 := n0_; have HB := n1_; clear n0_ n1_; (try clear hb); (try clear hb2); (try clear hk); (try clear hi); (try clear ho0)) | ((with_reducible refine gate_dst (N := 25) rfl ?_); refine Kd.R_make (Kd.int .i64) _ 3 rfl (N := 25) rfl 23 _ _ rfl ji5 rfl rfl Try.underlying23 (.int .i64 0) 8 info3 rfl (by decide) (by omega) 0 (ok := fun _ => True) (okp := fun _ => True) rfl (fun _ hk => hk) trivial (of_decide_eq_true aX) (Nat.le_trans (Nat.mul_le_mul_right _ (of_decide_eq_true aX : ji5.toNat ≤ 35184372088832)) (by omega)) (Below.refl _ _) (Nat.le_refl _) ?_; intro v374 w13 ho14 hb hg_ hnew_; clear hg_ hnew_; (first | rw [← Ny373.out] at ho14 | (simp only [Int.reduceToNat] at ho14; rw [← Ny373.out] at ho14)); have n0_ := ak (Kd.R_elder' (rX HO372.out) (Kd.R_base ho14) hb); have n1_ := ak (Kd.R_lower (Kd.R_new' (Kd.R_newM (M := fun k_ => (w.heap.size ≤ k_)) ho14 (below_size bX) (fun k_ h_ => h_)) (Kd.R_lt (rX HO372.out))) (below_size bX)); have n2_ := ak (below_step bX hb); clear HO372; clear HB; have HO372 := n0_; have HO375 := n1_; have HB := n2_; clear n0_ n1_ n2_; clear hb ho14; have p376 : 0 ≤ ((ji8) : Int) := of_decide_eq_true aX; have q376 : (ji8) < (l2.length : Int) := of_decide_eq_true aX; obtain ⟨ad376, e376, hx376_0⟩ := Kd.at_int HR2.out (ji8) p376 q376; cases e376; replace hx376_0 := (HB.out.cell (World.block_lt_of_cell? w _ hx376_0)).trans hx376_0; replace p376 := eq_true p376; replace q376 := eq_true q376) | ((with_reducible refine gate_callee (f := 82) rfl ?_); refine goesL_ (some 31) rfl rfl Try.func82 (by kernel_rfl) rfl #[.int .i64 (rd l2 (ji8)), .int .i64 a0] rfl (by (try simp only [List.map_toArray, List.map_cons, List.map_nil]); first | done | (simp only [hji8]; rfl) | rfl | (simp only [List.length_drop, List.length_take]; rfl)) ?_; (with_reducible refine (galoisref04_Inverse.calls k (rd l2 (ji8)) a0 t377 _ A11.out).mono ?_); rintro e w' ⟨rfl, ⟨nd, rfl⟩⟩; refine ⟨_, rfl, ?_⟩; obtain ⟨Ao15, co15, eo15⟩ := Kd.R_slice HO375.out; subst eo15))
         go_loopg [12] k (fun kq v12 w' => ∃ (x8_1 : List Int) (x10_1 : List Int) (x12_1 : Int), v12 = .int .i64 x12_1 ∧ Aside0 (galoisref09_DivMod.l0 kq a0 l2 x8_1 ji8 x10_1 t377 x12_1 = some (r1, r2)) ∧ Aside0 (kq ≤ k) ∧ Aside0 (Kd.R (Kd.int .i64) 3 w' w.heap.size (fun k_ => (w.heap.size ≤ k_) ∧ some k_ ≠ ((.slice Ao15 y373.length co15) : Value).ownBlock) v371 x8_1) ∧ Aside0 (Kd.R (Kd.int .i64) 3 w' w.heap.size (fun k_ => (w.heap.size ≤ k_) ∧ some k_ ≠ (v371 : Value).ownBlock) (.slice Ao15 y373.length co15) x10_1) ∧ Aside0 (Below w.heap.size w w'))
         case atStart => exact ⟨(t370), (y373), (wrap64 ((y373.length : Int) - 1)), (by first | rfl | (simp; done) | (simp [*]; done)), H', ⟨Nat.le_refl _⟩, ⟨by (with_reducible repeat (first | apply Kd.R_alloc | apply Kd.R_drewN | apply Kd.R_drew)); exact Kd.R_mono HO372.out (fun _ hk => ⟨hk.1.1, hk.2⟩)⟩, ⟨by (with_reducible repeat (first | apply Kd.R_alloc | apply Kd.R_drewN | apply Kd.R_drew)); exact Kd.R_mono HO375.out (fun _ hk => ⟨hk.1.1, hk.2⟩)⟩, ⟨by repeat (first | (with_reducible first | exact HB.out | apply bA | apply bB | apply bC) | exact HB.out)⟩⟩
         case round =>
          clear H'
          try clear c1
          try clear c2
          try clear p2
          try clear c3
          try clear p3
          try clear q3
          try clear hx3
          try clear c6
          try clear c6b0
          try clear c6b1
          try clear p6
          try clear c7
          try clear c7b0
          try clear c7b1
          try clear c8
          try clear c9
          try clear c9b0
          try clear c10
          try clear c10b0
          try clear hx376_0
          try clear p376
          try clear q376
          obtain ⟨x8_1, x10_1, x12_1, rfl, HA, HK1, HO_8, HO_10, HB⟩ := hrel
          have hl10_1 := (Kd.R_reads' HO_10.out).1
          rw [hl10_1] at HO_10
          (try simp only [hl10_1])
          (try simp only [hl10_1] at HO_8)
          cases gk with
          | zero => exact absurd HA.out (by simp [galoisref09_DivMod.l0])
          | succ k1 =>
            have H := HA.out
            clear HA
            simp only [galoisref09_DivMod.l0] at H
            by_cases c16 : x12_1 ≥ 0
            · rw [if_pos c16] at H
              have c16b0 : decide (0 ≤ x12_1) = true := decide_eq_true c16
              clear c16
              obtain ⟨ji17, hji17⟩ : ∃ j_ : Int, (wrap64 (x12_1 + ji8)) = j_ := ⟨_, rfl⟩
              replace H : (if 0 ≤ (ji17) then (if (ji17) < (x8_1.length : Int) then (if a0 = 0 then (none) else (if 0 ≤ x12_1 then (if x12_1 < (x10_1.length : Int) then (galoisref09_DivMod.l1 k1 a0 l2 x8_1 ji8 (x10_1.set (x12_1 : Int).toNat (Int.tmod (wrap64 ((rd x8_1 (ji17)) * t377)) a0)) t377 x12_1 (Int.tmod (wrap64 ((rd x8_1 (ji17)) * t377)) a0) 0) else (none)) else (none))) else (none)) else (none)) = some (r1, r2) := by first | (rw [hji17] at H; exact H) | (simp only [hji17] at H ⊢; exact H)
              have hji17w : (IntKind.i64.wrap (x12_1 + ji8)) = ji17 := (i64_w _).trans hji17
              by_cases c18 : 0 ≤ (ji17)
              · rw [if_pos c18] at H
                have c18b0 : decide (0 ≤ (ji17)) = true := decide_eq_true c18
                clear c18
                by_cases c19 : (ji17) < (x8_1.length : Int)
                · rw [if_pos c19] at H
                  have c19b0 : decide ((ji17) < (x8_1.length : Int)) = true := decide_eq_true c19
                  clear c19
                  by_cases c20 : a0 = 0
                  · rw [if_pos c20] at H
                    exact absurd H (by simp)
                  · rw [if_neg c20] at H
                    have c20b0 : (a0 == 0) = false := beq_eq_false_iff_ne.mpr c20
                    have c20b1 : (a0 != 0) = true := bne_iff_ne.mpr c20
                    by_cases c21 : 0 ≤ x12_1
                    · rw [if_pos c21] at H
                      have c21b0 : decide (0 ≤ x12_1) = true := decide_eq_true c21
                      clear c21
                      by_cases c22 : x12_1 < (x10_1.length : Int)
                      · rw [if_pos c22] at H
                        have c22b0 : decide (x12_1 < (x10_1.length : Int)) = true := decide_eq_true c22
                        clear c22
                        obtain ⟨y385, hy385⟩ : ∃ y_ : List Int, y_ = (x10_1.set (x12_1 : Int).toNat (Int.tmod (wrap64 ((rd x8_1 (ji17)) * t377)) a0)) := ⟨_, rfl⟩
                        replace H : (galoisref09_DivMod.l1 k1 a0 l2 x8_1 ji8 y385 t377 x12_1 (Int.tmod (wrap64 ((rd x8_1 (ji17)) * t377)) a0) 0) = some (r1, r2) := by first | (rw [hy385]; with_reducible exact H) | (have H2_ := (Option.bind_some _ _).symm.trans H; rw [hy385]; with_reducible exact H2_) | (have H2_ := (Option.bind_some _ _).symm.trans H; with_reducible exact H2_) | with_reducible exact H | (rw [hy385]; exact H) | exact H
                        have Ny385 := ak hy385
                        clear hy385
                        have H' := ak H
                        clear H
                        obtain ⟨Ao24, co24, eo24⟩ := Kd.R_slice HO_8.out
                        subst eo24
                        have p384 : 0 ≤ ((ji17) : Int) := of_decide_eq_true aX
                        have q384 : (ji17) < (x8_1.length : Int) := of_decide_eq_true aX
                        obtain ⟨ad384, e384, hx384_0⟩ := Kd.at_int (Kd.R_reads' HO_8.out).2.2 (ji17) p384 q384
                        cases e384
                        replace p384 := eq_true p384
                        replace q384 := eq_true q384
                        have p23 : 0 ≤ (x12_1 : Int) := of_decide_eq_true aX
                        have q23 : (x12_1 : Int) < ((x10_1.length : Int) : Int) := of_decide_eq_true aX
                        obtain ⟨go23, co23, eo23, gb23, gl23, cl23, HG23⟩ := Kd.R_form HO_10.out (by omega)
                        (first | cases eo23 | (injection eo23 with ea_ en_ ec_; (first | subst ea_ | (injection ea_ with ea_; subst ea_)); subst ec_; clear en_))
                        have GB23 := ak gb23
                        have GG23 := ak HG23
                        clear gb23 gl23 HG23
                        obtain ⟨hx23_0, hf23_0⟩ := Kd.R_celln 0 HO_10.out (x12_1 : Int) p23 q23
                        replace p23 := eq_true p23
                        replace q23 := eq_true q23
                        have HP25 := Kd.R_putg HO_10.out (x12_1 : Int) (Int.tmod (wrap64 ((rd x8_1 (ji17)) * t377)) a0)
                        go_wp2_with (first | ((with_reducible refine gate_store (t := 3) (p := 52) rfl ?_); refine store_event (t := 3) (p := 52) (v := ?vo_w26) (w1 := (wr.setCell ⟨go23, (x12_1 : Int).toNat, none⟩ (.int .i64 (Int.tmod (wrap64 ((rd x8_1 (ji17)) * t377)) a0)))) ?hg ?ho ?hn ?hr ?_; (case ho => rfl); (case hg => rfl); (case hn => rfl); (case hr => first | (go_simp; done) | (go_simp; rfl)); intro w26 hw; have hg : wr.grownBy w26 (some go23) := (by rw [hw]; exact HP25.2); have hp_ : Kd.R (Kd.int .i64) 3 w26 w.heap.size (fun k_ => (w.heap.size ≤ k_) ∧ some k_ ≠ (.slice (some ad384) x8_1.length co24 : Value).ownBlock) (.slice (some ⟨go23, 0, none⟩) x10_1.length co15) y385 := (by rw [hw, Ny385.out]; exact HP25.1); clear HP25; have n0_ := ak (Kd.R_after (v := (.slice (some ⟨go23, 0, none⟩) x10_1.length co15)) (v1 := (.slice (some ⟨go23, 0, none⟩) x10_1.length co15)) (ok := (fun k_ => (w.heap.size ≤ k_))) (rX HO_8.out) hg (.inl rfl)); have n1_ := ak (hp_); have n2_ := ak ((by rw [hw]; exact below_set (HB.out) GB23.out : Below w.heap.size w w26)); clear HO_8; clear HO_10; clear HB; have HO_8 := n0_; have HO_10 := n1_; have HB := n2_; clear n0_ n1_ n2_; clear hg hw hp_))
                        go_loopg [14] k1 (fun kq v14 w' => ∃ (x8_2 : List Int) (x14_2 : Int), v14 = .int .i64 x14_2 ∧ Aside0 (galoisref09_DivMod.l1 kq a0 l2 x8_2 ji8 y385 t377 x12_1 (Int.tmod (wrap64 ((rd x8_1 (ji17)) * t377)) a0) x14_2 = some (r1, r2)) ∧ Aside0 (kq ≤ k1) ∧ Aside0 (Kd.R (Kd.int .i64) 3 w' w.heap.size (fun k_ => (w.heap.size ≤ k_) ∧ some k_ ≠ ((.slice (some ⟨go23, 0, none⟩) x10_1.length co15) : Value).ownBlock) (.slice (some ad384) x8_1.length co24) x8_2) ∧ Aside0 (Kd.R (Kd.int .i64) 3 w' w.heap.size (fun k_ => (w.heap.size ≤ k_) ∧ some k_ ≠ ((.slice (some ad384) x8_1.length co24) : Value).ownBlock) (.slice (some ⟨go23, 0, none⟩) x10_1.length co15) y385) ∧ Aside0 (Below w.heap.size w w'))
                        case atStart => exact ⟨(x8_1), (0), (by first | rfl | (simp; done) | (simp [*]; done)), H', ⟨Nat.le_refl _⟩, ⟨by (try simp only [hl10_1]); (with_reducible repeat (first | apply Kd.R_alloc | apply Kd.R_drewN | apply Kd.R_drew)); exact HO_8.out⟩, ⟨by (try simp only [hl10_1]); (with_reducible repeat (first | apply Kd.R_alloc | apply Kd.R_drewN | apply Kd.R_drew)); exact HO_10.out⟩, ⟨by repeat (first | (with_reducible first | exact HB.out | apply bA | apply bB | apply bC) | exact HB.out)⟩⟩
                        case round =>
                         clear H'
                         try clear c1
                         try clear c2
                         try clear p2
                         try clear q2
                         try clear hx2
                         try clear c3
                         try clear p3
                         try clear q3
                         try clear hx3
                         try clear c6
                         try clear c6b0
                         try clear c6b1
                         try clear p6
                         try clear c7
                         try clear c7b0
                         try clear c7b1
                         try clear c8
                         try clear c9
                         try clear c9b0
                         try clear c10
                         try clear c10b0
                         try clear c16
                         try clear c16b0
                         try clear c18
                         try clear c18b0
                         try clear c19
                         try clear c19b0
                         try clear c20
                         try clear c20b0
                         try clear c20b1
                         try clear c21
                         try clear c21b0
                         try clear c22
                         try clear c22b0
                         try clear p23
                         try clear q23
                         try clear hx23
                         try clear hf23
                         try clear hx23_0
                         try clear hx376_0
                         try clear hx384_0
                         try clear p2
                         try clear p23
                         try clear p3
                         try clear p376
                         try clear p384
                         try clear p6
                         try clear q23
                         try clear q3
                         try clear q376
                         try clear q384
                         obtain ⟨x8_2, x14_2, rfl, HA, HK2, HO_8, HO_10, HB⟩ := hrel
                         have hl8_2 := (Kd.R_reads' HO_8.out).1
                         rw [hl8_2] at HO_8
                         (try simp only [hl8_2])
                         (try simp only [hl8_2] at HO_10)
                         have hl10_2 := (Kd.R_reads' HO_10.out).1
                         rw [hl10_2] at HO_10
                         (try simp only [hl10_2])
                         (try simp only [hl10_2] at HO_8)
                         cases gk with
                         | zero => exact absurd HA.out (by simp [galoisref09_DivMod.l1])
                         | succ k2 =>
                           have H := HA.out
                           clear HA
                           simp only [galoisref09_DivMod.l1] at H
                           by_cases c27 : x14_2 ≤ ji8
                           · rw [if_pos c27] at H
                             have c27b0 : decide (x14_2 ≤ ji8) = true := decide_eq_true c27
                             clear c27
                             obtain ⟨ji28, hji28⟩ : ∃ j_ : Int, (wrap64 (x12_1 + x14_2)) = j_ := ⟨_, rfl⟩
                             replace H : (if 0 ≤ (ji28) then (if (ji28) < (x8_2.length : Int) then (if 0 ≤ x14_2 then (if x14_2 < (l2.length : Int) then (if a0 = 0 then (none) else (galoisref09_DivMod.l1 k2 a0 l2 (x8_2.set ((ji28) : Int).toNat (Int.tmod (wrap64 ((rd x8_2 (ji28)) + (wrap64 ((wrap64 (a0 - (Int.tmod (wrap64 ((rd x8_1 (ji17)) * t377)) a0))) * (rd l2 x14_2))))) a0)) ji8 y385 t377 x12_1 (Int.tmod (wrap64 ((rd x8_1 (ji17)) * t377)) a0) (wrap64 (x14_2 + 1)))) else (none)) else (none)) else (none)) else (none)) = some (r1, r2) := by first | (rw [hji28] at H; exact H) | (simp only [hji28] at H ⊢; exact H)
                             have hji28w : (IntKind.i64.wrap (x12_1 + x14_2)) = ji28 := (i64_w _).trans hji28
                             by_cases c29 : 0 ≤ (ji28)
                             · rw [if_pos c29] at H
                               have c29b0 : decide (0 ≤ (ji28)) = true := decide_eq_true c29
                               clear c29
                               by_cases c30 : (ji28) < (x8_2.length : Int)
                               · rw [if_pos c30] at H
                                 have c30b0 : decide ((ji28) < (x8_2.length : Int)) = true := decide_eq_true c30
                                 clear c30
                                 by_cases c31 : 0 ≤ x14_2
                                 · rw [if_pos c31] at H
                                   have c31b0 : decide (0 ≤ x14_2) = true := decide_eq_true c31
                                   clear c31
                                   by_cases c32 : x14_2 < (l2.length : Int)
                                   · rw [if_pos c32] at H
                                     have c32b0 : decide (x14_2 < (l2.length : Int)) = true := decide_eq_true c32
                                     clear c32
                                     by_cases c33 : a0 = 0
                                     · rw [if_pos c33] at H
                                       exact absurd H (by simp)
                                     · rw [if_neg c33] at H
                                       have c33b0 : (a0 == 0) = false := beq_eq_false_iff_ne.mpr c33
                                       have c33b1 : (a0 != 0) = true := bne_iff_ne.mpr c33
                                       obtain ⟨y388, hy388⟩ : ∃ y_ : List Int, y_ = (x8_2.set ((ji28) : Int).toNat (Int.tmod (wrap64 ((rd x8_2 (ji28)) + (wrap64 ((wrap64 (a0 - (Int.tmod (wrap64 ((rd x8_1 (ji17)) * t377)) a0))) * (rd l2 x14_2))))) a0)) := ⟨_, rfl⟩
                                       replace H : (galoisref09_DivMod.l1 k2 a0 l2 y388 ji8 y385 t377 x12_1 (Int.tmod (wrap64 ((rd x8_1 (ji17)) * t377)) a0) (wrap64 (x14_2 + 1))) = some (r1, r2) := by first | (rw [hy388]; with_reducible exact H) | (have H2_ := (Option.bind_some _ _).symm.trans H; rw [hy388]; with_reducible exact H2_) | (have H2_ := (Option.bind_some _ _).symm.trans H; with_reducible exact H2_) | with_reducible exact H | (rw [hy388]; exact H) | exact H
                                       have Ny388 := ak hy388
                                       clear hy388
                                       as_aux_lemma =>
                                        have H' := ak H
                                        clear H
                                        try go_wp2
                                        have n0_ := ak (Kd.R_drew HO_8.out)
                                        have n1_ := ak (Kd.R_drew HO_10.out)
                                        have n2_ := ak (below_drew1 HB.out)
                                        clear HO_8
                                        clear HO_10
                                        clear HB
                                        have HO_8 := n0_
                                        have HO_10 := n1_
                                        have HB := n2_
                                        clear n0_ n1_ n2_
                                        have p386 : 0 ≤ ((ji28) : Int) := of_decide_eq_true aX
                                        have q386 : (ji28) < (x8_2.length : Int) := of_decide_eq_true aX
                                        obtain ⟨ad386, e386, hx386_0⟩ := Kd.at_int (Kd.R_reads' HO_8.out).2.2 (ji28) p386 q386
                                        obtain rfl : ad384 = ad386 := (by injection e386)
                                        replace p386 := eq_true p386
                                        replace q386 := eq_true q386
                                        have p387 : 0 ≤ (x14_2 : Int) := of_decide_eq_true aX
                                        have q387 : x14_2 < (l2.length : Int) := of_decide_eq_true aX
                                        obtain ⟨ad387, e387, hx387_0⟩ := Kd.at_int HR2.out x14_2 p387 q387
                                        have hw387_0 := hx387_0
                                        obtain rfl : ad376 = ad387 := (by injection e387)
                                        replace hx387_0 := (HB.out.cell (World.block_lt_of_cell? w _ hx387_0)).trans hx387_0
                                        replace p387 := eq_true p387
                                        replace q387 := eq_true q387
                                        have p34 : 0 ≤ ((ji28) : Int) := of_decide_eq_true aX
                                        have q34 : ((ji28) : Int) < ((x8_2.length : Int) : Int) := of_decide_eq_true aX
                                        obtain ⟨go34, co34, eo34, gb34, gl34, cl34, HG34⟩ := Kd.R_form HO_8.out (by omega)
                                        (first | cases eo34 | (injection eo34 with ea_ en_ ec_; (first | subst ea_ | (injection ea_ with ea_; subst ea_)); subst ec_; clear en_))
                                        have GB34 := ak gb34
                                        have GG34 := ak HG34
                                        clear gb34 gl34 HG34
                                        (first | simp only [add_plain] at hx384_0 | skip)
                                        (first | simp only [add_plain] at hx386_0 | skip)
                                        obtain ⟨hx34_0, hf34_0⟩ := Kd.R_celln 0 HO_8.out ((ji28) : Int) p34 q34
                                        replace p34 := eq_true p34
                                        replace q34 := eq_true q34
                                        have HP36 := Kd.R_putn HO_8.out ((ji28) : Int) (Int.tmod (wrap64 ((rd x8_2 (ji28)) + (wrap64 ((wrap64 (a0 - (Int.tmod (wrap64 ((rd x8_1 (ji17)) * t377)) a0))) * (rd l2 x14_2))))) a0)
                                        rw [← Ny388.out] at HP36
                                        have HQ36 := ak HP36
                                        clear HP36
                                        refine start_ (n := 23) (S := fun w' => w'.cell? ⟨go34, ((ji28)).toNat, none⟩ = some (.int .i64 (rd x8_2 (ji28))) ∧ w'.cell? (ad376.add (x14_2).toNat) = some (.int .i64 (rd l2 x14_2))) (ds := [22]) #[false, false, false, false, false, false, false, false, false, false, false, false, false, false, false, false, false, false, false, false, false, false, false] (by kernel_rfl) rfl rfl ⟨hx386_0, ((HB.out.cell (World.block_lt_of_cell? w _ hw387_0)).trans hw387_0)⟩ (fun hHeld => ?_); refine with_tabW galoisref09_DivMod.tab13 galoisref09_DivMod.bits13 (fun HT_ HW_ => ?_)
                                        generalize wr.drew = w35 at HO_8 HO_10 HB GG34 HQ36 hf34_0 hx34_0 hx386_0 hx387_0 hHeld ⊢
                                        refine pure_ (i := 0) (N := some 58) (v := ?_) (a' := ?_) #[true, false, false, false, false, false, false, false, false, false, false, false, false, false, false, false, false, false, false, false, false, false, false] rfl rfl (any_of HT_.out (by kernel_rfl)) (fun _ _ _ h => h) (Or.inl ⟨by rfl, ?_⟩) ?_ ?_
                                        rotate_left
                                        · intro w'
                                          go_simp
                                          with_reducible rfl
                                        rotate_left
                                        · simp only [Act.put, sS, s0, s1, i64_w, i32_w]
                                          rfl
                                        refine pure_ (i := 1) (N := some 59) (v := ?_) (a' := ?_) #[true, true, false, false, false, false, false, false, false, false, false, false, false, false, false, false, false, false, false, false, false, false, false] rfl rfl (any_of HT_.out (by kernel_rfl)) (fun _ _ _ h => h) (Or.inl ⟨by rfl, ?_⟩) ?_ ?_
                                        rotate_left
                                        · intro w'
                                          go_simp
                                          with_reducible rfl
                                        rotate_left
                                        · simp only [Act.put, sS, s0, s1, i64_w, i32_w]
                                          rfl
                                        refine pure_ (i := 2) (N := some 60) (v := ?_) (a' := ?_) #[true, true, true, false, false, false, false, false, false, false, false, false, false, false, false, false, false, false, false, false, false, false, false] rfl rfl (any_of HT_.out (by kernel_rfl)) (fun _ _ _ h => h) (Or.inl ⟨by rfl, ?_⟩) ?_ ?_
                                        rotate_left
                                        · intro w'
                                          go_simp
                                          with_reducible rfl
                                        rotate_left
                                        · simp only [Act.put, sS, s0, s1, i64_w, i32_w]
                                          rfl
                                        refine pure_ (i := 3) (N := some 61) (v := ?_) (a' := ?_) #[true, true, true, true, false, false, false, false, false, false, false, false, false, false, false, false, false, false, false, false, false, false, false] rfl rfl (any_of HT_.out (by kernel_rfl)) (fun _ _ _ h => h) (Or.inl ⟨by rfl, ?_⟩) ?_ ?_
                                        rotate_left
                                        · intro w'
                                          go_simp
                                          with_reducible rfl
                                        rotate_left
                                        · simp only [Act.put, sS, s0, s1, i64_w, i32_w]
                                          rfl
                                        refine pure_ (i := 4) (N := some 62) (v := ?_) (a' := ?_) #[true, true, true, true, true, false, false, false, false, false, false, false, false, false, false, false, false, false, false, false, false, false, false] rfl rfl (any_of HT_.out (by kernel_rfl)) (fun _ _ _ h => h) (Or.inl ⟨by rfl, ?_⟩) ?_ ?_
                                        rotate_left
                                        · intro w'
                                          go_simp
                                          with_reducible rfl
                                        rotate_left
                                        · simp only [Act.put, sS, s0, s1, i64_w, i32_w]
                                          rfl
                                        refine pure_ (i := 5) (N := some 63) (v := ?_) (a' := ?_) #[true, true, true, true, true, true, false, false, false, false, false, false, false, false, false, false, false, false, false, false, false, false, false] rfl rfl (any_of HT_.out (by kernel_rfl)) (fun _ _ _ h => h) (Or.inl ⟨by rfl, ?_⟩) ?_ ?_
                                        rotate_left
                                        · intro w'
                                          go_simp
                                          with_reducible rfl
                                        rotate_left
                                        · simp only [Act.put, sS, s0, s1, i64_w, i32_w]
                                          rfl
                                        refine pure_ (i := 6) (N := some 64) (v := ?_) (a' := ?_) #[true, true, true, true, true, true, true, false, false, false, false, false, false, false, false, false, false, false, false, false, false, false, false] rfl rfl (any_of HT_.out (by kernel_rfl)) (fun _ _ _ h => h) (Or.inl ⟨by rfl, ?_⟩) ?_ ?_
                                        rotate_left
                                        · intro w'
                                          go_simp
                                          with_reducible rfl
                                        rotate_left
                                        · simp only [Act.put, sS, s0, s1, i64_w, i32_w]
                                          rfl
                                        refine pure_ (i := 7) (N := some 65) (v := ?_) (a' := ?_) #[true, true, true, true, true, true, true, true, false, false, false, false, false, false, false, false, false, false, false, false, false, false, false] rfl rfl (any_of HT_.out (by kernel_rfl)) (fun _ _ _ h => h) (Or.inl ⟨by rfl, ?_⟩) ?_ ?_
                                        rotate_left
                                        · intro w'
                                          go_simp
                                          with_reducible rfl
                                        rotate_left
                                        · simp only [Act.put, sS, s0, s1, i64_w, i32_w]
                                          rfl
                                        refine pure_ (i := 8) (N := some 66) (v := ?_) (a' := ?_) #[true, true, true, true, true, true, true, true, true, false, false, false, false, false, false, false, false, false, false, false, false, false, false] rfl rfl (any_of HT_.out (by kernel_rfl)) (fun _ _ _ h => h) (Or.inl ⟨by rfl, ?_⟩) ?_ ?_
                                        rotate_left
                                        · intro w'
                                          go_simp
                                          with_reducible rfl
                                        rotate_left
                                        · simp only [Act.put, sS, s0, s1, i64_w, i32_w]
                                          rfl
                                        refine pure_ (i := 10) (N := some 68) (v := ?_) (a' := ?_) #[true, true, true, true, true, true, true, true, true, false, true, false, false, false, false, false, false, false, false, false, false, false, false] rfl rfl (any_of HT_.out (by kernel_rfl)) (fun _ _ _ h => h) (Or.inl ⟨by rfl, ?_⟩) ?_ ?_
                                        rotate_left
                                        · intro w'
                                          go_simp
                                          with_reducible rfl
                                        rotate_left
                                        · simp only [Act.put, sS, s0, s1, i64_w, i32_w]
                                          rfl
                                        refine pure_ (i := 11) (N := some 69) (v := ?_) (a' := ?_) #[true, true, true, true, true, true, true, true, true, false, true, true, false, false, false, false, false, false, false, false, false, false, false] rfl rfl (any_of HT_.out (by kernel_rfl)) (fun _ _ _ h => h) (Or.inl ⟨by rfl, ?_⟩) ?_ ?_
                                        rotate_left
                                        · intro w'
                                          go_simp
                                          with_reducible rfl
                                        rotate_left
                                        · simp only [Act.put, sS, s0, s1, i64_w, i32_w]
                                          rfl
                                        refine pure_ (i := 12) (N := some 70) (v := ?_) (a' := ?_) #[true, true, true, true, true, true, true, true, true, false, true, true, true, false, false, false, false, false, false, false, false, false, false] rfl rfl (any_of HT_.out (by kernel_rfl)) (fun _ _ _ h => h) (Or.inl ⟨by rfl, ?_⟩) ?_ ?_
                                        rotate_left
                                        · intro w'
                                          go_simp
                                          with_reducible rfl
                                        rotate_left
                                        · simp only [Act.put, sS, s0, s1, i64_w, i32_w]
                                          rfl
                                        refine pure_ (i := 13) (N := some 71) (v := ?_) (a' := ?_) #[true, true, true, true, true, true, true, true, true, false, true, true, true, true, false, false, false, false, false, false, false, false, false] rfl rfl (any_of HT_.out (by kernel_rfl)) (fun _ _ _ h => h) (Or.inl ⟨by rfl, ?_⟩) ?_ ?_
                                        rotate_left
                                        · intro w'
                                          go_simp
                                          with_reducible rfl
                                        rotate_left
                                        · simp only [Act.put, sS, s0, s1, i64_w, i32_w]
                                          rfl
                                        refine pure_ (i := 14) (N := some 72) (v := ?_) (a' := ?_) #[true, true, true, true, true, true, true, true, true, false, true, true, true, true, true, false, false, false, false, false, false, false, false] rfl rfl (any_of HT_.out (by kernel_rfl)) (fun _ _ _ h => h) (Or.inl ⟨by rfl, ?_⟩) ?_ ?_
                                        rotate_left
                                        · intro w'
                                          go_simp
                                          with_reducible rfl
                                        rotate_left
                                        · simp only [Act.put, sS, s0, s1, i64_w, i32_w]
                                          rfl
                                        refine pure_ (i := 15) (N := some 73) (v := ?_) (a' := ?_) #[true, true, true, true, true, true, true, true, true, false, true, true, true, true, true, true, false, false, false, false, false, false, false] rfl rfl (any_of HT_.out (by kernel_rfl)) (fun _ _ _ h => h) (Or.inl ⟨by rfl, ?_⟩) ?_ ?_
                                        rotate_left
                                        · intro w'
                                          go_simp
                                          with_reducible rfl
                                        rotate_left
                                        · simp only [Act.put, sS, s0, s1, i64_w, i32_w]
                                          rfl
                                        refine pure_ (i := 19) (N := some 77) (v := ?_) (a' := ?_) #[true, true, true, true, true, true, true, true, true, false, true, true, true, true, true, true, false, false, false, true, false, false, false] rfl rfl (any_of HT_.out (by kernel_rfl)) (fun _ _ _ h => h) (Or.inl ⟨by rfl, ?_⟩) ?_ ?_
                                        rotate_left
                                        · intro w'
                                          go_simp
                                          with_reducible rfl
                                        rotate_left
                                        · simp only [Act.put, sS, s0, s1, i64_w, i32_w]
                                          rfl
                                        refine take_ (i := 9) (N := some 67) (v := ?_) (a' := ?_) #[true, true, true, true, true, true, true, true, true, true, true, true, true, true, true, true, false, false, false, true, false, false, false] rfl rfl (take_ofW HT_.out HW_.out (by kernel_rfl)) (fun _ _ _ h => h) (Or.inl ⟨by rfl, ?_⟩) hHeld ?_ ?_
                                        rotate_left
                                        · rintro w' ⟨s0, s1⟩
                                          go_simp
                                          with_reducible rfl
                                        rotate_left
                                        · simp only [Act.put, sS, s0, s1, i64_w, i32_w]
                                          rfl
                                        refine take_ (i := 16) (N := some 74) (v := ?_) (a' := ?_) #[true, true, true, true, true, true, true, true, true, true, true, true, true, true, true, true, true, false, false, true, false, false, false] rfl rfl (take_ofW HT_.out HW_.out (by kernel_rfl)) (fun _ _ _ h => h) (Or.inl ⟨by rfl, ?_⟩) hHeld ?_ ?_
                                        rotate_left
                                        · rintro w' ⟨s0, s1⟩
                                          go_simp
                                          with_reducible rfl
                                        rotate_left
                                        · simp only [Act.put, sS, s0, s1, i64_w, i32_w]
                                          rfl
                                        refine pure_ (i := 17) (N := some 75) (v := ?_) (a' := ?_) #[true, true, true, true, true, true, true, true, true, true, true, true, true, true, true, true, true, true, false, true, false, false, false] rfl rfl (any_of HT_.out (by kernel_rfl)) (fun _ _ _ h => h) (Or.inl ⟨by rfl, ?_⟩) ?_ ?_
                                        rotate_left
                                        · intro w'
                                          go_simp
                                          with_reducible rfl
                                        rotate_left
                                        · simp only [Act.put, sS, s0, s1, i64_w, i32_w]
                                          rfl
                                        refine pure_ (i := 18) (N := some 76) (v := ?_) (a' := ?_) #[true, true, true, true, true, true, true, true, true, true, true, true, true, true, true, true, true, true, true, true, false, false, false] rfl rfl (any_of HT_.out (by kernel_rfl)) (fun _ _ _ h => h) (Or.inl ⟨by rfl, ?_⟩) ?_ ?_
                                        rotate_left
                                        · intro w'
                                          go_simp
                                          with_reducible rfl
                                        rotate_left
                                        · simp only [Act.put, sS, s0, s1, i64_w, i32_w]
                                          rfl
                                        refine pure_ (i := 20) (N := some 78) (v := ?_) (a' := ?_) #[true, true, true, true, true, true, true, true, true, true, true, true, true, true, true, true, true, true, true, true, true, false, false] rfl rfl (any_of HT_.out (by kernel_rfl)) (fun _ _ _ h => h) (Or.inl ⟨by rfl, ?_⟩) ?_ ?_
                                        rotate_left
                                        · intro w'
                                          go_simp
                                          with_reducible rfl
                                        rotate_left
                                        · simp only [Act.put, sS, s0, s1, i64_w, i32_w]
                                          rfl
                                        refine pure_ (i := 21) (N := some 79) (v := ?_) (a' := ?_) #[true, true, true, true, true, true, true, true, true, true, true, true, true, true, true, true, true, true, true, true, true, true, false] rfl rfl (any_of HT_.out (by kernel_rfl)) (fun _ _ _ h => h) (Or.inl ⟨by rfl, ?_⟩) ?_ ?_
                                        rotate_left
                                        · intro w'
                                          go_simp
                                          with_reducible rfl
                                        rotate_left
                                        · simp only [Act.put, sS, s0, s1, i64_w, i32_w]
                                          rfl
                                        refine last_ (i := 22) (N := none) #[true, true, true, true, true, true, true, true, true, true, true, true, true, true, true, true, true, true, true, true, true, true, true] rfl rfl (one_of HT_.out (by kernel_rfl)) (by decide) (fun K hK => ?_)
                                        refine skip_ (w1 := ?_) (by rfl) rfl ?_ ?_
                                        rotate_left
                                        · go_simp
                                          rfl
                                        refine hK.out _ _ ?_
                                        clear hK K
                                        refine done_ (done_of HT_.out (by kernel_rfl)) ?_
                                        try go_wp2
                                        (try simp only [← hl8_2, ← hl10_2])
                                        (first | go_roundg k2 | (refine Handed.intro k2 ?measure ?_; rotate_left; go_step; (repeat rw [add_plain]); (repeat apply Exists.intro); refine ⟨?rel, rfl⟩))
                                        case measure => have := HK1.out; have := HK2.out; omega
                                        case rel => exact ⟨(y388), (wrap64 (x14_2 + 1)), (by first | rfl | (simp; done) | (simp [*]; done)), H', ⟨by have := HK1.out; have := HK2.out; omega⟩, ⟨by (try simp only [hl10_1]); (try simp only [hl8_2]); (try simp only [hl10_2]); (with_reducible repeat (first | apply Kd.R_alloc | apply Kd.R_drewN | apply Kd.R_drew)); exact HQ36.out⟩, ⟨by (try simp only [hl10_1]); (try simp only [hl8_2]); (try simp only [hl10_2]); (with_reducible repeat (first | apply Kd.R_alloc | apply Kd.R_drewN | apply Kd.R_drew)); exact Kd.R_mono (Kd.R_far (p := ⟨go34, ((ji28) : Int).toNat, none⟩) (Kd.R_mono HO_10.out (fun k_ hk => (⟨hk, fun e_ => hk.2 (by rw [e_]; rfl)⟩ : _ ∧ k_ ≠ go34))) (fun _ hk => hk.2) (.int .i64 (Int.tmod (wrap64 ((rd x8_2 (ji28)) + (wrap64 ((wrap64 (a0 - (Int.tmod (wrap64 ((rd x8_1 (ji17)) * t377)) a0))) * (rd l2 x14_2))))) a0))) (fun _ hk => ⟨hk.1.1, hk.1.2⟩)⟩, ⟨by repeat (first | (with_reducible first | exact HB.out | apply bA | apply bB | apply bC | refine below_set ?_ GB34.out) | exact HB.out)⟩⟩
                                   · rw [if_neg c32] at H
                                     exact absurd H (by simp)
                                 · rw [if_neg c31] at H
                                   exact absurd H (by simp)
                               · rw [if_neg c30] at H
                                 exact absurd H (by simp)
                             · rw [if_neg c29] at H
                               exact absurd H (by simp)
                           · rw [if_neg c27] at H
                             have c27b0 : decide (x14_2 ≤ ji8) = false := decide_eq_false c27
                             clear c27
                             as_aux_lemma =>
                              have H' := ak H
                              clear H
                              go_wp2
                              (try simp only [← hl10_1, ← hl8_2, ← hl10_2])
                              (first | go_roundg k2 | (refine Handed.intro k2 ?measure ?_; rotate_left; go_step; (repeat rw [add_plain]); (repeat apply Exists.intro); refine ⟨?rel, rfl⟩))
                              case measure => have := HK1.out; have := HK2.out; omega
                              case rel => exact ⟨(x8_2), (y385), (wrap64 (x12_1 - 1)), (by first | rfl | (simp; done) | (simp [*]; done)), H', ⟨by have := HK1.out; have := HK2.out; omega⟩, ⟨by (try simp only [hl10_1]); (try simp only [hl8_2]); (try simp only [hl10_2]); (with_reducible repeat (first | apply Kd.R_alloc | apply Kd.R_drewN | apply Kd.R_drew)); exact HO_8.out⟩, ⟨by (try simp only [hl10_1]); (try simp only [hl8_2]); (try simp only [hl10_2]); (with_reducible repeat (first | apply Kd.R_alloc | apply Kd.R_drewN | apply Kd.R_drew)); exact HO_10.out⟩, ⟨by repeat (first | (with_reducible first | exact HB.out | apply bA | apply bB | apply bC) | exact HB.out)⟩⟩
                      · rw [if_neg c22] at H
                        exact absurd H (by simp)
                    · rw [if_neg c21] at H
                      exact absurd H (by simp)
                · rw [if_neg c19] at H
                  exact absurd H (by simp)
              · rw [if_neg c18] at H
                exact absurd H (by simp)
            · rw [if_neg c16] at H
              have c16b0 : decide (0 ≤ x12_1) = false := decide_eq_false c16
              clear c16
              replace H := Option.bind_eq_some_iff.mp H
              obtain ⟨t378, A370, H⟩ := H
              replace H : ((galoisref09_Trim.f k1 x8_1).bind fun t381 => (some (t378, t381))) = some (r1, r2) := H
              have A37 := ak A370
              clear A370
              replace H := Option.bind_eq_some_iff.mp H
              obtain ⟨t381, A380, H⟩ := H
              replace H : (some (t378, t381)) = some (r1, r2) := H
              have A38 := ak A380
              clear A380
              as_aux_lemma =>
               simp only [Option.some.injEq, Prod.mk.injEq] at H
               obtain ⟨rfl, rfl⟩ := H
               go_wp2_with (first | ((with_reducible refine gate_callee (f := 40) rfl ?_); refine goesL_ (some 81) rfl rfl Try.func40 (by kernel_rfl) rfl #[.slice Ao15 x10_1.length co15] rfl mX ?_; (with_reducible refine (galoisref09_Trim.calls k1 (fun k_ => some k_ = (.slice Ao15 x10_1.length co15 : Value).ownBlock) _ _ x10_1 t378 _ ?side1 A37.out).mono ?_); (case side1 => exact Kd.R_V (Kd.R_tight rfl (HO_10.out))); rintro e w39 ⟨v379, rfl, ho0, hb⟩; refine ⟨_, rfl, ?_⟩; have n0_ := ak (Kd.R_below (rX HO_8.out) hb); have n1_ := ak (Kd.R_below (rX HO_10.out) hb); have n2_ := ak (Kd.V_lower (Kd.V_mono (ok' := fun k_ => (w.heap.size ≤ k_) ∧ some k_ ≠ (v371 : Value).ownBlock) ho0 (fun k_ hk_ => ⟨Or.elim hk_ (fun hs_ => ((HO_10.out).1 k_ hs_.symm).1) (fun hn_ => (Nat.le_trans (below_size bX) hn_)), Or.elim hk_ (fun hs_ => ((HO_10.out).1 k_ hs_.symm).2) (fun hn_ => (Kd.fresh' (Kd.R_lt (rX HO_8.out)) k_ hn_))⟩)) (below_size bX)); have n3_ := ak (below_step bX hb); clear HO_8; clear HO_10; clear HB; have HO_8 := n0_; have HO_10 := n1_; have HO380 := n2_; have HB := n3_; clear n0_ n1_ n2_ n3_; (try clear hb); (try clear hb2); (try clear hk); (try clear hi); (try clear ho0); obtain ⟨Ao40, co40, eo40⟩ := Kd.R_slice HO_8.out; subst eo40) | ((with_reducible refine gate_callee (f := 40) rfl ?_); refine goesL_ (some 83) rfl rfl Try.func40 (by kernel_rfl) rfl #[.slice Ao40 x8_1.length co40] rfl mX ?_; (with_reducible refine (galoisref09_Trim.calls k1 (fun k_ => some k_ = (.slice Ao40 x8_1.length co40 : Value).ownBlock) _ _ x8_1 t381 _ ?side1 A38.out).mono ?_); (case side1 => exact Kd.R_V (Kd.R_tight rfl (HO_8.out))); rintro e w41 ⟨v382, rfl, ho0, hb⟩; refine ⟨_, rfl, ?_⟩; have n0_ := ak (Kd.R_below (rX HO_8.out) hb); have n1_ := ak (Kd.R_below (rX HO_10.out) hb); have n2_ := ak (Kd.V_below (vX HO380.out) hb); have n3_ := ak (Kd.V_lower (Kd.V_mono (ok' := fun k_ => (w.heap.size ≤ k_) ∧ some k_ ≠ (.slice Ao15 x10_1.length co15 : Value).ownBlock) ho0 (fun k_ hk_ => ⟨Or.elim hk_ (fun hs_ => ((HO_8.out).1 k_ hs_.symm).1) (fun hn_ => (Nat.le_trans (below_size bX) hn_)), Or.elim hk_ (fun hs_ => ((HO_8.out).1 k_ hs_.symm).2) (fun hn_ => (Kd.fresh' (Kd.R_lt (rX HO_10.out)) k_ hn_))⟩)) (below_size bX)); have n4_ := ak (below_step bX hb); clear HO_8; clear HO_10; clear HO380; clear HB; have HO_8 := n0_; have HO_10 := n1_; have HO380 := n2_; have HO383 := n3_; have HB := n4_; clear n0_ n1_ n2_ n3_ n4_; (try clear hb); (try clear hb2); (try clear hk); (try clear hi); (try clear ho0)))
               go_ret2
               exact ⟨_, _, by first | rfl | (simp [errW_none, errW_some] <;> rfl) | (simp only [← hji5, ← hji8]; first | rfl | (simp [errW_none, errW_some] <;> rfl)) | (simp [*, errW_none, errW_some] <;> rfl), by (with_reducible repeat (first | apply vA | apply vB | apply vC)); exact Kd.V_mono HO380.out (fun _ hk => hk.1), by (with_reducible repeat (first | apply vA | apply vB | apply vC)); exact Kd.V_mono HO383.out (fun _ hk => hk.1), by repeat (first | (with_reducible first | exact HB.out | apply bA | apply bB | apply bC) | exact HB.out)⟩
       · rw [if_neg c10] at H
         exact absurd H (by simp)
     · rw [if_neg c9] at H
       exact absurd H (by simp)
   · rw [if_neg c7] at H
     exact absurd H (by simp)
 · rw [if_neg c6] at H
   exact absurd H (by simp)

/-! ### galoisref09_Mod: function 62 -/
def galoisref09_Mod.f (k : Nat) (a0 : Int) (l1 : List Int) (l2 : List Int) : Option (List Int) := (galoisref09_DivMod.f k a0 l1 l2).bind fun bt389 => (some bt389.2)
theorem galoisref09_Mod.mono : ∀ a0 a1 a2 k, LeO (galoisref09_Mod.f k a0 a1 a2) (galoisref09_Mod.f (k + 1) a0 a1 a2) := by
 intro a0 a1 a2 k
 unfold galoisref09_Mod.f
 repeat' first
  | (with_reducible apply galoisref09_DivMod.mono)
  | (with_reducible apply LeO.refl)
  | (with_reducible apply LeO.none)
  | (with_reducible refine LeO.ite ?_ ?_)
  | (with_reducible refine LeO.bind ?_ (fun _ => ?_))
set_option maxHeartbeats 8000000 in
set_option maxRecDepth 100000 in
theorem galoisref09_Mod.calls (k : Nat) (a0 : Int) (A1 : Option Addr) (c1 : Nat) (l1 : List Int) (A2 : Option Addr) (c2 : Nat) (l2 : List Int) (r : List Int) (w : World) (hr1 : Kd.C (Kd.int .i64) w A1 l1.length l1) (hc1 : l1.length ≤ c1) (hr2 : Kd.C (Kd.int .i64) w A2 l2.length l2) (hc2 : l2.length ≤ c2) (h : galoisref09_Mod.f k a0 l1 l2 = some r) :
 Calls Try.prog 62 #[.int .i64 a0, .slice A1 l1.length c1, .slice A2 l2.length c2] w fun e w' => ∃ v0_ : Value, e = .returned (v0_) ∧ Kd.V (Kd.int .i64) 3 w' w.heap.size (fun k_ => (w.heap.size ≤ k_)) v0_ r ∧ Below w.heap.size w w' := by
 have HR1 := ak hr1
 have HC1 := ak hc1
 clear hr1 hc1
 have HR2 := ak hr2
 have HC2 := ak hc2
 clear hr2 hc2
 have HB := ak (Below.refl w.heap.size w)
 have H : ((galoisref09_DivMod.f k a0 l1 l2).bind fun bt389 => (some bt389.2)) = some r := h
 clear h
 replace H := Option.bind_eq_some_iff.mp H
 obtain ⟨⟨t389, t392⟩, A40, H⟩ := H
 replace H : (some t392) = some r := H
 have A4 := ak A40
 clear A40
 as_aux_lemma =>
  obtain rfl := Option.some.inj H
  go_enter Try.func62, Try.ntmps62
  go_wp2_with (first | ((with_reducible refine gate_callee (f := 35) rfl ?_); refine goesL_ (some 13) rfl rfl Try.func35 (by kernel_rfl) rfl #[.int .i64 a0, .slice A1 l1.length c1, .slice A2 l2.length c2] rfl mX ?_; (with_reducible refine (galoisref09_DivMod.calls k a0 _ _ l1 _ _ l2 t389 t392 _ ?side1 ?side2 ?side3 ?side4 A4.out).mono ?_); (case side1 => repeat (first | exact HR1.out | (with_reducible first | apply cA | apply cB | apply cC))); (case side2 => exact HC1.out); (case side3 => repeat (first | exact HR2.out | (with_reducible first | apply cA | apply cB | apply cC))); (case side4 => exact HC2.out); rintro e w5 ⟨v390, v393, rfl, ho0, ho1, hb⟩; refine ⟨_, rfl, ?_⟩; have n0_ := ak (Kd.V_lower (Kd.V_mono (ok' := fun k_ => (w.heap.size ≤ k_)) ho0 (fun k_ hk_ => (Nat.le_trans (below_size bX) hk_))) (below_size bX)); have n1_ := ak (Kd.V_lower (Kd.V_mono (ok' := fun k_ => (w.heap.size ≤ k_)) ho1 (fun k_ hk_ => (Nat.le_trans (below_size bX) hk_))) (below_size bX)); have n2_ := ak (below_step bX hb); clear HB; have HO391 := n0_; have HO394 := n1_; have HB := n2_; clear n0_ n1_ n2_; (try clear hb); (try clear hb2); (try clear hk); (try clear hi); (try clear ho0); (try clear ho1)))
  go_ret
  exact ⟨_, by first | rfl | (simp [errW_none, errW_some] <;> rfl) | (simp [*, errW_none, errW_some] <;> rfl), by (with_reducible repeat (first | apply vA | apply vB | apply vC)); exact HO394.out, by repeat (first | (with_reducible first | exact HB.out | apply bA | apply bB | apply bC) | exact HB.out)⟩

end Go.Proofs.Ytmknclgamadphaa.PPolymodPrimes
