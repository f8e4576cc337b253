-- WRITTEN BY sprint.py (a program of this repo, over the kit's print.py): nothing here is trusted, Lean checks it.
import Derived.Test.YtmknclgamadphaaPPolymodPrimesx0
import Derived.Test.YtmknclgamadphaaPPolymodPrimesx7
namespace Go.Proofs.Ytmknclgamadphaa.PPolymodPrimes
open Go.RowKit Go.Proofs.YtmknclgamadphaaW.PrintWords Go.Proofs.YtmknclgamadphaaW.PrintLast Go.Proofs.YtmknclgamadphaaW.PrintMore
attribute [local go_sem] max2_int min2_int max_two min_two max_three min_three max_four min_four   -- for this text's walks alone
set_option linter.unusedVariables false
set_option linter.unusedSimpArgs false

/-! ### galoisref09_Add: function 50 -/
def galoisref09_Add.l0 : Nat → Int → List Int → List Int → List Int → Int → Option (List Int)
 | 0, _, _, _, _, _ => none
 | k + 1, x0, x1, x2, x7, x8 => if x8 < (x7.length : Int) then (if x8 < (x1.length : Int) then (if 0 ≤ x8 then ((some (x7.set (x8 : Int).toNat (wrap64 ((rd x7 x8) + (rd x1 x8))) : List Int)).bind fun y443 => (if x8 < (x2.length : Int) then ((some (y443.set (x8 : Int).toNat (wrap64 ((rd y443 x8) + (rd x2 x8))) : List Int)).bind fun y446 => (if x0 = 0 then (none) else (galoisref09_Add.l0 k x0 x1 x2 (y446.set (x8 : Int).toNat (Int.tmod (rd y446 x8) x0)) (wrap64 (x8 + 1))))) else (if x0 = 0 then (none) else (galoisref09_Add.l0 k x0 x1 x2 (y443.set (x8 : Int).toNat (Int.tmod (rd y443 x8) x0)) (wrap64 (x8 + 1)))))) else (none)) else (if x8 < (x2.length : Int) then (if 0 ≤ x8 then ((some (x7.set (x8 : Int).toNat (wrap64 ((rd x7 x8) + (rd x2 x8))) : List Int)).bind fun y453 => (if x0 = 0 then (none) else (galoisref09_Add.l0 k x0 x1 x2 (y453.set (x8 : Int).toNat (Int.tmod (rd y453 x8) x0)) (wrap64 (x8 + 1))))) else (none)) else (if 0 ≤ x8 then (if x0 = 0 then (none) else (galoisref09_Add.l0 k x0 x1 x2 (x7.set (x8 : Int).toNat (Int.tmod (rd x7 x8) x0)) (wrap64 (x8 + 1)))) else (none)))) else ((galoisref09_Trim.f k x7).bind fun t438 => (some t438))
def galoisref09_Add.f (k : Nat) (a0 : Int) (l1 : List Int) (l2 : List Int) : Option (List Int) := if 0 ≤ (mx (l1.length : Int) (l2.length : Int)) then (if (mx (l1.length : Int) (l2.length : Int) : Int).toNat ≤ 35184372088832 then (galoisref09_Add.l0 k a0 l1 l2 (List.replicate (mx (l1.length : Int) (l2.length : Int) : Int).toNat 0) 0) else (none)) else (none)
theorem galoisref09_Add.mono_l : ∀ k, (∀ y0 y1 y2 y3 y4, LeO (galoisref09_Add.l0 k y0 y1 y2 y3 y4) (galoisref09_Add.l0 (k + 1) y0 y1 y2 y3 y4))
 | 0 => fun _ _ _ _ _ r h => by simp [galoisref09_Add.l0] at h
 | k + 1 => by
   have ih0 := galoisref09_Add.mono_l k
   · intro y0 y1 y2 y3 y4
     unfold galoisref09_Add.l0
     repeat' first
     | (with_reducible apply ih0)
     | (with_reducible apply galoisref09_Trim.mono)
     | (with_reducible apply LeO.refl)
     | (with_reducible apply LeO.none)
     | (with_reducible refine LeO.ite ?_ ?_)
     | (with_reducible refine LeO.bind ?_ (fun _ => ?_))
theorem galoisref09_Add.mono : ∀ a0 a1 a2 k, LeO (galoisref09_Add.f k a0 a1 a2) (galoisref09_Add.f (k + 1) a0 a1 a2) := by
 intro a0 a1 a2 k
 have ih0 := galoisref09_Add.mono_l k
 unfold galoisref09_Add.f
 repeat' first
  | (with_reducible apply ih0)
  | (with_reducible apply galoisref09_Trim.mono)
  | (with_reducible apply LeO.refl)
  | (with_reducible apply LeO.none)
  | (with_reducible refine LeO.ite ?_ ?_)
  | (with_reducible refine LeO.bind ?_ (fun _ => ?_))
def galoisref09_Add.T6 : Bool × List (List Nat × List Nat) := (true, [([], []), ([], []), ([], []), ([], []), ([2, 3], [2, 3]), ([4], [4]), ([], []), ([], []), ([6, 7], [6, 7]), ([8], [8]), ([5, 9], [5, 9]), ([0, 1, 0, 1, 2, 3, 4, 5, 6, 7, 8, 9, 10], [0, 1]), ([11, 10, 0, 1, 2, 3, 4, 5, 6, 7, 8, 9, 10], [10, 11])])
def galoisref09_Add.B6 : List Nat := [0, 0, 0, 0, 12, 28, 0, 0, 192, 448, 1020, 2047, 4095]
theorem galoisref09_Add.tab6 : rtab .any (opsOf Try.f50 6) = galoisref09_Add.T6 := by kernel_rfl
theorem galoisref09_Add.bits6 : waitsOk galoisref09_Add.T6.2 galoisref09_Add.B6 = true := by kernel_rfl
def galoisref09_Add.T8 : Bool × List (List Nat × List Nat) := (true, [([], []), ([], []), ([], []), ([], []), ([2, 3], [2, 3]), ([4], [4]), ([], []), ([], []), ([6, 7], [6, 7]), ([8], [8]), ([5, 9], [5, 9]), ([0, 1, 0, 1, 2, 3, 4, 5, 6, 7, 8, 9, 10], [0, 1]), ([11, 10, 0, 1, 2, 3, 4, 5, 6, 7, 8, 9, 10], [10, 11])])
def galoisref09_Add.B8 : List Nat := [0, 0, 0, 0, 12, 28, 0, 0, 192, 448, 1020, 2047, 4095]
theorem galoisref09_Add.tab8 : rtab .any (opsOf Try.f50 8) = galoisref09_Add.T8 := by kernel_rfl
theorem galoisref09_Add.bits8 : waitsOk galoisref09_Add.T8.2 galoisref09_Add.B8 = true := by kernel_rfl
set_option maxHeartbeats 8000000 in
set_option maxRecDepth 100000 in
theorem galoisref09_Add.calls (k : Nat) (a0 : Int) (A1 : Option Addr) (c1 : Nat) (l1 : List Int) (A2 : Option Addr) (c2 : Nat) (l2 : List Int) (r : List Int) (w : World) (hr1 : Kd.C (Kd.int .i64) w A1 l1.length l1) (hc1 : l1.length ≤ c1) (hr2 : Kd.C (Kd.int .i64) w A2 l2.length l2) (hc2 : l2.length ≤ c2) (h : galoisref09_Add.f k a0 l1 l2 = some r) :
 Calls Try.prog 50 #[.int .i64 a0, .slice A1 l1.length c1, .slice A2 l2.length c2] w fun e w' => ∃ v0_ : Value, e = .returned (v0_) ∧ Kd.V (Kd.int .i64) 3 w' w.heap.size (fun k_ => (w.heap.size ≤ k_)) v0_ r ∧ Below w.heap.size w w' := by
 have HR1 := ak hr1
 have HC1 := ak hc1
 clear hr1 hc1
 have HR2 := ak hr2
 have HC2 := ak hc2
 clear hr2 hc2
 have HB := ak (Below.refl w.heap.size w)
 have H : (if 0 ≤ (mx (l1.length : Int) (l2.length : Int)) then (if (mx (l1.length : Int) (l2.length : Int) : Int).toNat ≤ 35184372088832 then (galoisref09_Add.l0 k a0 l1 l2 (List.replicate (mx (l1.length : Int) (l2.length : Int) : Int).toNat 0) 0) else (none)) else (none)) = some r := h
 clear h
 obtain ⟨ji4, hji4⟩ : ∃ j_ : Int, (mx (l1.length : Int) (l2.length : Int)) = j_ := ⟨_, rfl⟩
 replace H : (if 0 ≤ (ji4) then (if (ji4 : Int).toNat ≤ 35184372088832 then (galoisref09_Add.l0 k a0 l1 l2 (List.replicate (ji4 : Int).toNat 0) 0) else (none)) else (none)) = some r := by first | (rw [hji4] at H; exact H) | (simp only [hji4] at H ⊢; exact H)
 (try (have hji4l : 0 ≤ ji4 := by (rw [← hji4]; unfold mx; (repeat' split) <;> omega)))
 (try (have hji4m : 0 ≤ ji4 := by omega))
 have hji4_ : (if (l1.length : Int) < (l2.length : Int) then (l2.length : Int) else (l1.length : Int)) = ji4 := hji4
 (try (have hji4n_ : (if l1.length < l2.length then (l2.length : Int) else (l1.length : Int)) = ji4 := by rw [← hji4_]; simp only [Int.ofNat_lt]))
 by_cases c5 : 0 ≤ (ji4)
 · rw [if_pos c5] at H
   have c5b0 := eq_true c5
   have c5b1 : decide (0 ≤ (ji4)) = true := decide_eq_true c5
   clear c5
   by_cases c6 : (ji4 : Int).toNat ≤ 35184372088832
   · rw [if_pos c6] at H
     have c6b0 := eq_true c6
     have c6b1 : decide ((ji4 : Int).toNat ≤ 35184372088832) = true := decide_eq_true c6
     clear c6
     obtain ⟨y435, hy435⟩ : ∃ y_ : List Int, y_ = (List.replicate (ji4 : Int).toNat 0) := ⟨_, rfl⟩
     replace H : (galoisref09_Add.l0 k a0 l1 l2 y435 0) = some r := by first | (rw [hy435]; with_reducible exact H) | (have H2_ := (Option.bind_some _ _).symm.trans H; rw [hy435]; with_reducible exact H2_) | (have H2_ := (Option.bind_some _ _).symm.trans H; with_reducible exact H2_) | with_reducible exact H | (rw [hy435]; exact H) | exact H
     have Ny435 := ak hy435
     clear hy435
     have H' := ak H
     clear H
     go_enter Try.func50, Try.ntmps50
     go_wp2_with (first | ((with_reducible refine gate_dst (N := 14) rfl ?_); refine Kd.R_make (Kd.int .i64) _ 3 rfl (N := 14) rfl 23 _ _ rfl ji4 rfl rfl Try.underlying23 (.int .i64 0) 8 info3 rfl (by decide) (by omega) 0 (ok := fun _ => True) (okp := fun _ => True) rfl (fun _ hk => hk) trivial (of_decide_eq_true aX) (Nat.le_trans (Nat.mul_le_mul_right _ (of_decide_eq_true aX : ji4.toNat ≤ 35184372088832)) (by omega)) (Below.refl _ _) (Nat.le_refl _) ?_; intro v436 w7 ho8 hb hg_ hnew_; clear hg_ hnew_; (first | rw [← Ny435.out] at ho8 | (simp only [Int.reduceToNat] at ho8; rw [← Ny435.out] at ho8)); have n0_ := ak (Kd.R_lower (Kd.R_newM (M := fun k_ => (w.heap.size ≤ k_)) ho8 (below_size bX) (fun k_ h_ => h_)) (below_size bX)); have n1_ := ak (below_step bX hb); clear HB; have HO437 := n0_; have HB := n1_; clear n0_ n1_; clear hb ho8))
     go_loopg [8] k (fun kq v8 w' => ∃ (x7_1 : List Int) (x8_1 : Int), v8 = .int .i64 x8_1 ∧ Aside0 (galoisref09_Add.l0 kq a0 l1 l2 x7_1 x8_1 = some r) ∧ Aside0 (kq ≤ k) ∧ Aside0 (Kd.R (Kd.int .i64) 3 w' w.heap.size (fun k_ => (w.heap.size ≤ k_)) v436 x7_1) ∧ Aside0 (Below w.heap.size w w'))
     case atStart => exact ⟨(y435), (0), (by first | rfl | (simp; done) | (simp [*]; done)), H', ⟨Nat.le_refl _⟩, ⟨by (with_reducible repeat (first | apply Kd.R_alloc | apply Kd.R_drewN | apply Kd.R_drew)); exact Kd.R_mono HO437.out (fun _ hk => hk.1)⟩, ⟨by repeat (first | (with_reducible first | exact HB.out | apply bA | apply bB | apply bC) | exact HB.out)⟩⟩
     case round =>
      clear H'
      try clear c1
      try clear c2
      try clear p2
      try clear c5
      try clear c5b0
      try clear c5b1
      try clear c6
      try clear c6b0
      try clear c6b1
      obtain ⟨x7_1, x8_1, rfl, HA, HK1, HO_7, HB⟩ := hrel
      cases gk with
      | zero => exact absurd HA.out (by simp [galoisref09_Add.l0])
      | succ k1 =>
        have H := HA.out
        clear HA
        simp only [galoisref09_Add.l0] at H
        by_cases c9 : x8_1 < (x7_1.length : Int)
        · rw [if_pos c9] at H
          have c9b0 : decide (x8_1 < (x7_1.length : Int)) = true := decide_eq_true c9
          clear c9
          by_cases c10 : x8_1 < (l1.length : Int)
          · rw [if_pos c10] at H
            have c10b0 : decide (x8_1 < (l1.length : Int)) = true := decide_eq_true c10
            clear c10
            by_cases c11 : 0 ≤ x8_1
            · rw [if_pos c11] at H
              have c11b0 : decide (0 ≤ x8_1) = true := decide_eq_true c11
              clear c11
              obtain ⟨y443, hy443⟩ : ∃ y_ : List Int, y_ = (x7_1.set (x8_1 : Int).toNat (wrap64 ((rd x7_1 x8_1) + (rd l1 x8_1)))) := ⟨_, rfl⟩
              replace H : (if x8_1 < (l2.length : Int) then ((some (y443.set (x8_1 : Int).toNat (wrap64 ((rd y443 x8_1) + (rd l2 x8_1))) : List Int)).bind fun y446 => (if a0 = 0 then (none) else (galoisref09_Add.l0 k1 a0 l1 l2 (y446.set (x8_1 : Int).toNat (Int.tmod (rd y446 x8_1) a0)) (wrap64 (x8_1 + 1))))) else (if a0 = 0 then (none) else (galoisref09_Add.l0 k1 a0 l1 l2 (y443.set (x8_1 : Int).toNat (Int.tmod (rd y443 x8_1) a0)) (wrap64 (x8_1 + 1))))) = some r := by first | (rw [hy443]; with_reducible exact H) | (have H2_ := (Option.bind_some _ _).symm.trans H; rw [hy443]; with_reducible exact H2_) | (have H2_ := (Option.bind_some _ _).symm.trans H; with_reducible exact H2_) | with_reducible exact H | (rw [hy443]; exact H) | exact H
              have Ny443 := ak hy443
              clear hy443
              by_cases c13 : x8_1 < (l2.length : Int)
              · rw [if_pos c13] at H
                have c13b0 : decide (x8_1 < (l2.length : Int)) = true := decide_eq_true c13
                clear c13
                obtain ⟨y446, hy446⟩ : ∃ y_ : List Int, y_ = (y443.set (x8_1 : Int).toNat (wrap64 ((rd y443 x8_1) + (rd l2 x8_1)))) := ⟨_, rfl⟩
                replace H : (if a0 = 0 then (none) else (galoisref09_Add.l0 k1 a0 l1 l2 (y446.set (x8_1 : Int).toNat (Int.tmod (rd y446 x8_1) a0)) (wrap64 (x8_1 + 1)))) = some r := by first | (rw [hy446]; with_reducible exact H) | (have H2_ := (Option.bind_some _ _).symm.trans H; rw [hy446]; with_reducible exact H2_) | (have H2_ := (Option.bind_some _ _).symm.trans H; with_reducible exact H2_) | with_reducible exact H | (rw [hy446]; exact H) | exact H
                have Ny446 := ak hy446
                clear hy446
                by_cases c15 : a0 = 0
                · rw [if_pos c15] at H
                  exact absurd H (by simp)
                · rw [if_neg c15] at H
                  have c15b0 : (a0 == 0) = false := beq_eq_false_iff_ne.mpr c15
                  have c15b1 : (a0 != 0) = true := bne_iff_ne.mpr c15
                  obtain ⟨y448, hy448⟩ : ∃ y_ : List Int, y_ = (y446.set (x8_1 : Int).toNat (Int.tmod (rd y446 x8_1) a0)) := ⟨_, rfl⟩
                  replace H : (galoisref09_Add.l0 k1 a0 l1 l2 y448 (wrap64 (x8_1 + 1))) = some r := by first | (rw [hy448]; with_reducible exact H) | (have H2_ := (Option.bind_some _ _).symm.trans H; rw [hy448]; with_reducible exact H2_) | (have H2_ := (Option.bind_some _ _).symm.trans H; with_reducible exact H2_) | with_reducible exact H | (rw [hy448]; exact H) | exact H
                  have Ny448 := ak hy448
                  clear hy448
                  as_aux_lemma =>
                   have H' := ak H
                   clear H
                   obtain ⟨Ao17, co17, eo17⟩ := Kd.R_slice HO_7.out
                   subst eo17
                   try go_wp2
                   have n0_ := ak (Kd.R_drew HO_7.out)
                   have n1_ := ak (below_drew1 HB.out)
                   clear HO_7
                   clear HB
                   have HO_7 := n0_
                   have HB := n1_
                   clear n0_ n1_
                   have p441 : 0 ≤ (x8_1 : Int) := of_decide_eq_true aX
                   have q441 : x8_1 < (x7_1.length : Int) := of_decide_eq_true aX
                   obtain ⟨ad441, e441, hx441_0⟩ := Kd.at_int (Kd.R_reads' HO_7.out).2.2 x8_1 p441 q441
                   cases e441
                   replace p441 := eq_true p441
                   replace q441 := eq_true q441
                   have p442 : 0 ≤ (x8_1 : Int) := of_decide_eq_true aX
                   have q442 : x8_1 < (l1.length : Int) := of_decide_eq_true aX
                   obtain ⟨ad442, e442, hx442_0⟩ := Kd.at_int HR1.out x8_1 p442 q442
                   have hw442_0 := hx442_0
                   cases e442
                   replace hx442_0 := (HB.out.cell (World.block_lt_of_cell? w _ hx442_0)).trans hx442_0
                   replace p442 := eq_true p442
                   replace q442 := eq_true q442
                   have p12 : 0 ≤ (x8_1 : Int) := of_decide_eq_true aX
                   have q12 : (x8_1 : Int) < ((x7_1.length : Int) : Int) := of_decide_eq_true aX
                   obtain ⟨go12, co12, eo12, gb12, gl12, cl12, HG12⟩ := Kd.R_form HO_7.out (by omega)
                   (first | cases eo12 | (injection eo12 with ea_ en_ ec_; (first | subst ea_ | (injection ea_ with ea_; subst ea_)); subst ec_; clear en_))
                   have GB12 := ak gb12
                   have GG12 := ak HG12
                   clear gb12 gl12 HG12
                   (first | simp only [add_plain] at hx441_0 | skip)
                   obtain ⟨hx12_0, hf12_0⟩ := Kd.R_celln 0 HO_7.out (x8_1 : Int) p12 q12
                   replace p12 := eq_true p12
                   replace q12 := eq_true q12
                   have HP19 := Kd.R_putn HO_7.out (x8_1 : Int) (wrap64 ((rd x7_1 x8_1) + (rd l1 x8_1)))
                   rw [← Ny443.out] at HP19
                   have HQ19 := ak HP19
                   clear HP19
                   refine start_ (n := 13) (S := fun w' => w'.cell? ⟨go12, (x8_1).toNat, none⟩ = some (.int .i64 (rd x7_1 x8_1)) ∧ w'.cell? (ad442.add (x8_1).toNat) = some (.int .i64 (rd l1 x8_1))) (ds := [12]) #[false, false, false, false, false, false, false, false, false, false, false, false, false] (by kernel_rfl) rfl rfl ⟨hx441_0, ((HB.out.cell (World.block_lt_of_cell? w _ hw442_0)).trans hw442_0)⟩ (fun hHeld => ?_); refine with_tabW galoisref09_Add.tab6 galoisref09_Add.bits6 (fun HT_ HW_ => ?_)
                   generalize wr.drew = w18 at HO_7 HB GG12 HQ19 hf12_0 hx12_0 hx441_0 hx442_0 hHeld ⊢
                   refine pure_ (i := 0) (N := some 25) (v := ?_) (a' := ?_) #[true, false, false, false, false, false, false, false, false, false, false, false, false] rfl rfl (any_of HT_.out (by kernel_rfl)) (fun _ _ _ h => h) (Or.inl ⟨by rfl, ?_⟩) ?_ ?_
                   rotate_left
                   · intro w'
                     go_simp
                     with_reducible rfl
                   rotate_left
                   · simp only [Act.put, sS, s0, s1, i64_w, i32_w]
                     rfl
                   refine pure_ (i := 1) (N := some 26) (v := ?_) (a' := ?_) #[true, true, false, false, false, false, false, false, false, false, false, false, false] rfl rfl (any_of HT_.out (by kernel_rfl)) (fun _ _ _ h => h) (Or.inl ⟨by rfl, ?_⟩) ?_ ?_
                   rotate_left
                   · intro w'
                     go_simp
                     with_reducible rfl
                   rotate_left
                   · simp only [Act.put, sS, s0, s1, i64_w, i32_w]
                     rfl
                   refine pure_ (i := 2) (N := some 27) (v := ?_) (a' := ?_) #[true, true, true, false, false, false, false, false, false, false, false, false, false] rfl rfl (any_of HT_.out (by kernel_rfl)) (fun _ _ _ h => h) (Or.inl ⟨by rfl, ?_⟩) ?_ ?_
                   rotate_left
                   · intro w'
                     go_simp
                     with_reducible rfl
                   rotate_left
                   · simp only [Act.put, sS, s0, s1, i64_w, i32_w]
                     rfl
                   refine pure_ (i := 3) (N := some 28) (v := ?_) (a' := ?_) #[true, true, true, true, false, false, false, false, false, false, false, false, false] rfl rfl (any_of HT_.out (by kernel_rfl)) (fun _ _ _ h => h) (Or.inl ⟨by rfl, ?_⟩) ?_ ?_
                   rotate_left
                   · intro w'
                     go_simp
                     with_reducible rfl
                   rotate_left
                   · simp only [Act.put, sS, s0, s1, i64_w, i32_w]
                     rfl
                   refine pure_ (i := 4) (N := some 29) (v := ?_) (a' := ?_) #[true, true, true, true, true, false, false, false, false, false, false, false, false] rfl rfl (any_of HT_.out (by kernel_rfl)) (fun _ _ _ h => h) (Or.inl ⟨by rfl, ?_⟩) ?_ ?_
                   rotate_left
                   · intro w'
                     go_simp
                     with_reducible rfl
                   rotate_left
                   · simp only [Act.put, sS, s0, s1, i64_w, i32_w]
                     rfl
                   refine pure_ (i := 6) (N := some 31) (v := ?_) (a' := ?_) #[true, true, true, true, true, false, true, false, false, false, false, false, false] rfl rfl (any_of HT_.out (by kernel_rfl)) (fun _ _ _ h => h) (Or.inl ⟨by rfl, ?_⟩) ?_ ?_
                   rotate_left
                   · intro w'
                     go_simp
                     with_reducible rfl
                   rotate_left
                   · simp only [Act.put, sS, s0, s1, i64_w, i32_w]
                     rfl
                   refine pure_ (i := 7) (N := some 32) (v := ?_) (a' := ?_) #[true, true, true, true, true, false, true, true, false, false, false, false, false] rfl rfl (any_of HT_.out (by kernel_rfl)) (fun _ _ _ h => h) (Or.inl ⟨by rfl, ?_⟩) ?_ ?_
                   rotate_left
                   · intro w'
                     go_simp
                     with_reducible rfl
                   rotate_left
                   · simp only [Act.put, sS, s0, s1, i64_w, i32_w]
                     rfl
                   refine pure_ (i := 8) (N := some 33) (v := ?_) (a' := ?_) #[true, true, true, true, true, false, true, true, true, false, false, false, false] rfl rfl (any_of HT_.out (by kernel_rfl)) (fun _ _ _ h => h) (Or.inl ⟨by rfl, ?_⟩) ?_ ?_
                   rotate_left
                   · intro w'
                     go_simp
                     with_reducible rfl
                   rotate_left
                   · simp only [Act.put, sS, s0, s1, i64_w, i32_w]
                     rfl
                   refine take_ (i := 5) (N := some 30) (v := ?_) (a' := ?_) #[true, true, true, true, true, true, true, true, true, false, false, false, false] rfl rfl (take_ofW HT_.out HW_.out (by kernel_rfl)) (fun _ _ _ h => h) (Or.inl ⟨by rfl, ?_⟩) hHeld ?_ ?_
                   rotate_left
                   · rintro w' ⟨s0, s1⟩
                     go_simp
                     with_reducible rfl
                   rotate_left
                   · simp only [Act.put, sS, s0, s1, i64_w, i32_w]
                     rfl
                   refine take_ (i := 9) (N := some 34) (v := ?_) (a' := ?_) #[true, true, true, true, true, true, true, true, true, true, false, false, false] rfl rfl (take_ofW HT_.out HW_.out (by kernel_rfl)) (fun _ _ _ h => h) (Or.inl ⟨by rfl, ?_⟩) hHeld ?_ ?_
                   rotate_left
                   · rintro w' ⟨s0, s1⟩
                     go_simp
                     with_reducible rfl
                   rotate_left
                   · simp only [Act.put, sS, s0, s1, i64_w, i32_w]
                     rfl
                   refine pure_ (i := 10) (N := some 35) (v := ?_) (a' := ?_) #[true, true, true, true, true, true, true, true, true, true, true, false, false] rfl rfl (any_of HT_.out (by kernel_rfl)) (fun _ _ _ h => h) (Or.inl ⟨by rfl, ?_⟩) ?_ ?_
                   rotate_left
                   · intro w'
                     go_simp
                     with_reducible rfl
                   rotate_left
                   · simp only [Act.put, sS, s0, s1, i64_w, i32_w]
                     rfl
                   refine pure_ (i := 11) (N := some 36) (v := ?_) (a' := ?_) #[true, true, true, true, true, true, true, true, true, true, true, true, false] rfl rfl (any_of HT_.out (by kernel_rfl)) (fun _ _ _ h => h) (Or.inl ⟨by rfl, ?_⟩) ?_ ?_
                   rotate_left
                   · intro w'
                     go_simp
                     with_reducible rfl
                   rotate_left
                   · simp only [Act.put, sS, s0, s1, i64_w, i32_w]
                     rfl
                   refine last_ (i := 12) (N := none) #[true, true, true, true, true, true, true, true, true, true, true, true, true] rfl rfl (one_of HT_.out (by kernel_rfl)) (by decide) (fun K hK => ?_)
                   refine skip_ (w1 := ?_) (by rfl) rfl ?_ ?_
                   rotate_left
                   · go_simp
                     rfl
                   refine hK.out _ _ ?_
                   clear hK K
                   refine done_ (done_of HT_.out (by kernel_rfl)) ?_
                   try go_wp2
                   have n0_ : Aside0 (Kd.R (Kd.int .i64) 3 (w18.setCell ⟨go12, (x8_1 : Int).toNat, none⟩ (.int .i64 (wrap64 ((rd x7_1 x8_1) + (rd l1 x8_1))))) w.heap.size (fun k_ => (w.heap.size ≤ k_)) (.slice (some ⟨go12, 0, none⟩) x7_1.length co17) y443) := ⟨by (with_reducible repeat (first | apply Kd.R_alloc | apply Kd.R_drewN | apply Kd.R_drew)); exact HQ19.out⟩
                   have n1_ : Aside0 (Below w.heap.size w (w18.setCell ⟨go12, (x8_1 : Int).toNat, none⟩ (.int .i64 (wrap64 ((rd x7_1 x8_1) + (rd l1 x8_1)))))) := ⟨by repeat (first | (with_reducible first | exact HB.out | apply bA | apply bB | apply bC | refine below_set ?_ GB12.out) | exact HB.out)⟩
                   (try clear HO_7)
                   (try clear HB)
                   generalize (w18.setCell ⟨go12, (x8_1 : Int).toNat, none⟩ (.int .i64 (wrap64 ((rd x7_1 x8_1) + (rd l1 x8_1))))) = w20 at n0_ n1_ ⊢
                   have HO_7 := n0_
                   have HB := n1_
                   clear n0_ n1_
                   have n0_ := ak (Kd.R_drew HO_7.out)
                   have n1_ := ak (below_drew1 HB.out)
                   clear HO_7
                   clear HB
                   have HO_7 := n0_
                   have HB := n1_
                   clear n0_ n1_
                   have p444 : 0 ≤ (x8_1 : Int) := of_decide_eq_true aX
                   have q444 : x8_1 < (y443.length : Int) := (by have h_ : (x8_1 : Int) < ((x7_1.length : Int) : Int) := of_decide_eq_true aX; first | (have e_ := (Kd.R_reads' HO_7.out).1; omega) | simpa only [Ny443.out, List.length_set] using h_)
                   have ql444 : ((x8_1 : Int) < ((x7_1.length : Int) : Int)) = True := eq_true (of_decide_eq_true aX)
                   obtain ⟨ad444, e444, hx444_0⟩ := Kd.at_int (Kd.R_reads' HO_7.out).2.2 x8_1 p444 q444
                   obtain rfl : (⟨go12, 0, none⟩ : Addr) = ad444 := (by injection e444)
                   (first | simp only [add_plain] at hx444_0 | simp only [add_at] at hx444_0 | simp only [Addr.add, Nat.zero_add] at hx444_0 | skip)
                   replace p444 := eq_true p444
                   replace q444 := eq_true q444
                   have p445 : 0 ≤ (x8_1 : Int) := of_decide_eq_true aX
                   have q445 : x8_1 < (l2.length : Int) := of_decide_eq_true aX
                   obtain ⟨ad445, e445, hx445_0⟩ := Kd.at_int HR2.out x8_1 p445 q445
                   have hw445_0 := hx445_0
                   cases e445
                   replace hx445_0 := (HB.out.cell (World.block_lt_of_cell? w _ hx445_0)).trans hx445_0
                   replace p445 := eq_true p445
                   replace q445 := eq_true q445
                   have p14 : 0 ≤ (x8_1 : Int) := of_decide_eq_true aX
                   have q14 : (x8_1 : Int) < ((x7_1.length : Int) : Int) := of_decide_eq_true aX
                   obtain ⟨hx14_0, hf14_0⟩ := Kd.R_celln 0 HO_7.out (x8_1 : Int) p14 q14
                   replace p14 := eq_true p14
                   replace q14 := eq_true q14
                   have HP22 := Kd.R_putn HO_7.out (x8_1 : Int) (wrap64 ((rd y443 x8_1) + (rd l2 x8_1)))
                   rw [← Ny446.out] at HP22
                   have HQ22 := ak HP22
                   clear HP22
                   refine start_ (n := 13) (S := fun w' => w'.cell? ⟨go12, (x8_1).toNat, none⟩ = some (.int .i64 (rd y443 x8_1)) ∧ w'.cell? (ad445.add (x8_1).toNat) = some (.int .i64 (rd l2 x8_1))) (ds := [12]) #[false, false, false, false, false, false, false, false, false, false, false, false, false] (by kernel_rfl) rfl rfl ⟨hx444_0, ((HB.out.cell (World.block_lt_of_cell? w _ hw445_0)).trans hw445_0)⟩ (fun hHeld => ?_); refine with_tabW galoisref09_Add.tab8 galoisref09_Add.bits8 (fun HT_ HW_ => ?_)
                   generalize w20.drew = w21 at HO_7 HB HQ19 HQ22 hf14_0 hx14_0 hx444_0 hx445_0 hHeld ⊢
                   refine pure_ (i := 0) (N := some 41) (v := ?_) (a' := ?_) #[true, false, false, false, false, false, false, false, false, false, false, false, false] rfl rfl (any_of HT_.out (by kernel_rfl)) (fun _ _ _ h => h) (Or.inl ⟨by rfl, ?_⟩) ?_ ?_
                   rotate_left
                   · intro w'
                     go_simp
                     with_reducible rfl
                   rotate_left
                   · simp only [Act.put, sS, s0, s1, i64_w, i32_w]
                     rfl
                   refine pure_ (i := 1) (N := some 42) (v := ?_) (a' := ?_) #[true, true, false, false, false, false, false, false, false, false, false, false, false] rfl rfl (any_of HT_.out (by kernel_rfl)) (fun _ _ _ h => h) (Or.inl ⟨by rfl, ?_⟩) ?_ ?_
                   rotate_left
                   · intro w'
                     go_simp
                     with_reducible rfl
                   rotate_left
                   · simp only [Act.put, sS, s0, s1, i64_w, i32_w]
                     rfl
                   refine pure_ (i := 2) (N := some 43) (v := ?_) (a' := ?_) #[true, true, true, false, false, false, false, false, false, false, false, false, false] rfl rfl (any_of HT_.out (by kernel_rfl)) (fun _ _ _ h => h) (Or.inl ⟨by rfl, ?_⟩) ?_ ?_
                   rotate_left
                   · intro w'
                     go_simp
                     with_reducible rfl
                   rotate_left
                   · simp only [Act.put, sS, s0, s1, i64_w, i32_w]
                     rfl
                   refine pure_ (i := 3) (N := some 44) (v := ?_) (a' := ?_) #[true, true, true, true, false, false, false, false, false, false, false, false, false] rfl rfl (any_of HT_.out (by kernel_rfl)) (fun _ _ _ h => h) (Or.inl ⟨by rfl, ?_⟩) ?_ ?_
                   rotate_left
                   · intro w'
                     go_simp
                     with_reducible rfl
                   rotate_left
                   · simp only [Act.put, sS, s0, s1, i64_w, i32_w]
                     rfl
                   refine pure_ (i := 4) (N := some 45) (v := ?_) (a' := ?_) #[true, true, true, true, true, false, false, false, false, false, false, false, false] rfl rfl (any_of HT_.out (by kernel_rfl)) (fun _ _ _ h => h) (Or.inl ⟨by rfl, ?_⟩) ?_ ?_
                   rotate_left
                   · intro w'
                     go_simp
                     with_reducible rfl
                   rotate_left
                   · simp only [Act.put, sS, s0, s1, i64_w, i32_w]
                     rfl
                   refine pure_ (i := 6) (N := some 47) (v := ?_) (a' := ?_) #[true, true, true, true, true, false, true, false, false, false, false, false, false] rfl rfl (any_of HT_.out (by kernel_rfl)) (fun _ _ _ h => h) (Or.inl ⟨by rfl, ?_⟩) ?_ ?_
                   rotate_left
                   · intro w'
                     go_simp
                     with_reducible rfl
                   rotate_left
                   · simp only [Act.put, sS, s0, s1, i64_w, i32_w]
                     rfl
                   refine pure_ (i := 7) (N := some 48) (v := ?_) (a' := ?_) #[true, true, true, true, true, false, true, true, false, false, false, false, false] rfl rfl (any_of HT_.out (by kernel_rfl)) (fun _ _ _ h => h) (Or.inl ⟨by rfl, ?_⟩) ?_ ?_
                   rotate_left
                   · intro w'
                     go_simp
                     with_reducible rfl
                   rotate_left
                   · simp only [Act.put, sS, s0, s1, i64_w, i32_w]
                     rfl
                   refine pure_ (i := 8) (N := some 49) (v := ?_) (a' := ?_) #[true, true, true, true, true, false, true, true, true, false, false, false, false] rfl rfl (any_of HT_.out (by kernel_rfl)) (fun _ _ _ h => h) (Or.inl ⟨by rfl, ?_⟩) ?_ ?_
                   rotate_left
                   · intro w'
                     go_simp
                     with_reducible rfl
                   rotate_left
                   · simp only [Act.put, sS, s0, s1, i64_w, i32_w]
                     rfl
                   refine take_ (i := 5) (N := some 46) (v := ?_) (a' := ?_) #[true, true, true, true, true, true, true, true, true, false, false, false, false] rfl rfl (take_ofW HT_.out HW_.out (by kernel_rfl)) (fun _ _ _ h => h) (Or.inl ⟨by rfl, ?_⟩) hHeld ?_ ?_
                   rotate_left
                   · rintro w' ⟨s0, s1⟩
                     go_simp
                     with_reducible rfl
                   rotate_left
                   · simp only [Act.put, sS, s0, s1, i64_w, i32_w]
                     rfl
                   refine take_ (i := 9) (N := some 50) (v := ?_) (a' := ?_) #[true, true, true, true, true, true, true, true, true, true, false, false, false] rfl rfl (take_ofW HT_.out HW_.out (by kernel_rfl)) (fun _ _ _ h => h) (Or.inl ⟨by rfl, ?_⟩) hHeld ?_ ?_
                   rotate_left
                   · rintro w' ⟨s0, s1⟩
                     go_simp
                     with_reducible rfl
                   rotate_left
                   · simp only [Act.put, sS, s0, s1, i64_w, i32_w]
                     rfl
                   refine pure_ (i := 10) (N := some 51) (v := ?_) (a' := ?_) #[true, true, true, true, true, true, true, true, true, true, true, false, false] rfl rfl (any_of HT_.out (by kernel_rfl)) (fun _ _ _ h => h) (Or.inl ⟨by rfl, ?_⟩) ?_ ?_
                   rotate_left
                   · intro w'
                     go_simp
                     with_reducible rfl
                   rotate_left
                   · simp only [Act.put, sS, s0, s1, i64_w, i32_w]
                     rfl
                   refine pure_ (i := 11) (N := some 52) (v := ?_) (a' := ?_) #[true, true, true, true, true, true, true, true, true, true, true, true, false] rfl rfl (any_of HT_.out (by kernel_rfl)) (fun _ _ _ h => h) (Or.inl ⟨by rfl, ?_⟩) ?_ ?_
                   rotate_left
                   · intro w'
                     go_simp
                     with_reducible rfl
                   rotate_left
                   · simp only [Act.put, sS, s0, s1, i64_w, i32_w]
                     rfl
                   refine last_ (i := 12) (N := none) #[true, true, true, true, true, true, true, true, true, true, true, true, true] rfl rfl (one_of HT_.out (by kernel_rfl)) (by decide) (fun K hK => ?_)
                   refine skip_ (w1 := ?_) (by rfl) rfl ?_ ?_
                   rotate_left
                   · go_simp
                     rfl
                   refine hK.out _ _ ?_
                   clear hK K
                   refine done_ (done_of HT_.out (by kernel_rfl)) ?_
                   have n0_ : Aside0 (Kd.R (Kd.int .i64) 3 (w21.setCell ⟨go12, (x8_1 : Int).toNat, none⟩ (.int .i64 (wrap64 ((rd y443 x8_1) + (rd l2 x8_1))))) w.heap.size (fun k_ => (w.heap.size ≤ k_)) (.slice (some ⟨go12, 0, none⟩) x7_1.length co17) y446) := ⟨by (with_reducible repeat (first | apply Kd.R_alloc | apply Kd.R_drewN | apply Kd.R_drew)); exact HQ22.out⟩
                   have n1_ : Aside0 (Below w.heap.size w (w21.setCell ⟨go12, (x8_1 : Int).toNat, none⟩ (.int .i64 (wrap64 ((rd y443 x8_1) + (rd l2 x8_1)))))) := ⟨by repeat (first | (with_reducible first | exact HB.out | apply bA | apply bB | apply bC | refine below_set ?_ GB12.out) | exact HB.out)⟩
                   (try clear HO_7)
                   (try clear HB)
                   generalize (w21.setCell ⟨go12, (x8_1 : Int).toNat, none⟩ (.int .i64 (wrap64 ((rd y443 x8_1) + (rd l2 x8_1))))) = w23 at n0_ n1_ ⊢
                   have HO_7 := n0_
                   have HB := n1_
                   clear n0_ n1_
                   have p447 : 0 ≤ (x8_1 : Int) := of_decide_eq_true aX
                   have q447 : x8_1 < (y446.length : Int) := (by have h_ : (x8_1 : Int) < ((x7_1.length : Int) : Int) := of_decide_eq_true aX; first | (have e_ := (Kd.R_reads' HO_7.out).1; omega) | simpa only [Ny443.out, Ny446.out, List.length_set] using h_)
                   have ql447 : ((x8_1 : Int) < ((x7_1.length : Int) : Int)) = True := eq_true (of_decide_eq_true aX)
                   obtain ⟨ad447, e447, hx447_0⟩ := Kd.at_int (Kd.R_reads' HO_7.out).2.2 x8_1 p447 q447
                   obtain rfl : (⟨go12, 0, none⟩ : Addr) = ad447 := (by injection e447)
                   (first | simp only [add_plain] at hx447_0 | simp only [add_at] at hx447_0 | simp only [Addr.add, Nat.zero_add] at hx447_0 | skip)
                   replace p447 := eq_true p447
                   replace q447 := eq_true q447
                   have p16 : 0 ≤ (x8_1 : Int) := of_decide_eq_true aX
                   have q16 : (x8_1 : Int) < ((x7_1.length : Int) : Int) := of_decide_eq_true aX
                   obtain ⟨hx16_0, hf16_0⟩ := Kd.R_celln 0 HO_7.out (x8_1 : Int) p16 q16
                   replace p16 := eq_true p16
                   replace q16 := eq_true q16
                   obtain ⟨hy24_, hz24_⟩ := Kd.R_celln 0 HO_7.out (x8_1 : Int) (of_decide_eq_true aX) (of_decide_eq_true aX)
                   have HP24 := Kd.R_putg HO_7.out (x8_1 : Int) (Int.tmod (rd y446 x8_1) a0)
                   try go_wp2_with (first | ((with_reducible refine gate_store (t := 3) (p := 61) rfl ?_); refine store_event (t := 3) (p := 61) (v := ?vo_w25) (w1 := (w23.setCell ⟨go12, (x8_1 : Int).toNat, none⟩ (.int .i64 (Int.tmod (rd y446 x8_1) a0)))) ?hg ?ho ?hn ?hr ?_; (case ho => rfl); (case hg => rfl); (case hn => rfl); (case hr => first | (go_simp; done) | (go_simp; rfl)); intro w25 hw; have hg : w23.grownBy w25 (some go12) := (by rw [hw]; exact HP24.2); have hp_ : Kd.R (Kd.int .i64) 3 w25 w.heap.size (fun k_ => (w.heap.size ≤ k_)) (.slice (some ⟨go12, 0, none⟩) x7_1.length co17) y448 := (by rw [hw, Ny448.out]; exact HP24.1); clear HP24; have n0_ := ak (hp_); have n1_ := ak ((by rw [hw]; exact below_set (HB.out) GB12.out : Below w.heap.size w w25)); clear HO_7; clear HB; have HO_7 := n0_; have HB := n1_; clear n0_ n1_; clear hg hw hp_))
                   (first | go_roundg k1 | (refine Handed.intro k1 ?measure ?_; rotate_left; go_step; (repeat rw [add_plain]); (repeat apply Exists.intro); refine ⟨?rel, rfl⟩))
                   case measure => have := HK1.out; omega
                   case rel => exact ⟨(y448), (wrap64 (x8_1 + 1)), (by first | rfl | (simp; done) | (simp [*]; done)), H', ⟨by have := HK1.out; omega⟩, ⟨by (with_reducible repeat (first | apply Kd.R_alloc | apply Kd.R_drewN | apply Kd.R_drew)); exact HO_7.out⟩, ⟨by repeat (first | (with_reducible first | exact HB.out | apply bA | apply bB | apply bC) | exact HB.out)⟩⟩
              · rw [if_neg c13] at H
                have c13b0 : decide (x8_1 < (l2.length : Int)) = false := decide_eq_false c13
                clear c13
                by_cases c26 : a0 = 0
                · rw [if_pos c26] at H
                  exact absurd H (by simp)
                · rw [if_neg c26] at H
                  have c26b0 : (a0 == 0) = false := beq_eq_false_iff_ne.mpr c26
                  have c26b1 : (a0 != 0) = true := bne_iff_ne.mpr c26
                  obtain ⟨y450, hy450⟩ : ∃ y_ : List Int, y_ = (y443.set (x8_1 : Int).toNat (Int.tmod (rd y443 x8_1) a0)) := ⟨_, rfl⟩
                  replace H : (galoisref09_Add.l0 k1 a0 l1 l2 y450 (wrap64 (x8_1 + 1))) = some r := by first | (rw [hy450]; with_reducible exact H) | (have H2_ := (Option.bind_some _ _).symm.trans H; rw [hy450]; with_reducible exact H2_) | (have H2_ := (Option.bind_some _ _).symm.trans H; with_reducible exact H2_) | with_reducible exact H | (rw [hy450]; exact H) | exact H
                  have Ny450 := ak hy450
                  clear hy450
                  as_aux_lemma =>
                   have H' := ak H
                   clear H
                   obtain ⟨Ao28, co28, eo28⟩ := Kd.R_slice HO_7.out
                   subst eo28
                   try go_wp2
                   have n0_ := ak (Kd.R_drew HO_7.out)
                   have n1_ := ak (below_drew1 HB.out)
                   clear HO_7
                   clear HB
                   have HO_7 := n0_
                   have HB := n1_
                   clear n0_ n1_
                   have p441 : 0 ≤ (x8_1 : Int) := of_decide_eq_true aX
                   have q441 : x8_1 < (x7_1.length : Int) := of_decide_eq_true aX
                   obtain ⟨ad441, e441, hx441_0⟩ := Kd.at_int (Kd.R_reads' HO_7.out).2.2 x8_1 p441 q441
                   cases e441
                   replace p441 := eq_true p441
                   replace q441 := eq_true q441
                   have p442 : 0 ≤ (x8_1 : Int) := of_decide_eq_true aX
                   have q442 : x8_1 < (l1.length : Int) := of_decide_eq_true aX
                   obtain ⟨ad442, e442, hx442_0⟩ := Kd.at_int HR1.out x8_1 p442 q442
                   have hw442_0 := hx442_0
                   cases e442
                   replace hx442_0 := (HB.out.cell (World.block_lt_of_cell? w _ hx442_0)).trans hx442_0
                   replace p442 := eq_true p442
                   replace q442 := eq_true q442
                   have p12 : 0 ≤ (x8_1 : Int) := of_decide_eq_true aX
                   have q12 : (x8_1 : Int) < ((x7_1.length : Int) : Int) := of_decide_eq_true aX
                   obtain ⟨go12, co12, eo12, gb12, gl12, cl12, HG12⟩ := Kd.R_form HO_7.out (by omega)
                   (first | cases eo12 | (injection eo12 with ea_ en_ ec_; (first | subst ea_ | (injection ea_ with ea_; subst ea_)); subst ec_; clear en_))
                   have GB12 := ak gb12
                   have GG12 := ak HG12
                   clear gb12 gl12 HG12
                   (first | simp only [add_plain] at hx441_0 | skip)
                   obtain ⟨hx12_0, hf12_0⟩ := Kd.R_celln 0 HO_7.out (x8_1 : Int) p12 q12
                   replace p12 := eq_true p12
                   replace q12 := eq_true q12
                   have HP30 := Kd.R_putn HO_7.out (x8_1 : Int) (wrap64 ((rd x7_1 x8_1) + (rd l1 x8_1)))
                   rw [← Ny443.out] at HP30
                   have HQ30 := ak HP30
                   clear HP30
                   refine start_ (n := 13) (S := fun w' => w'.cell? ⟨go12, (x8_1).toNat, none⟩ = some (.int .i64 (rd x7_1 x8_1)) ∧ w'.cell? (ad442.add (x8_1).toNat) = some (.int .i64 (rd l1 x8_1))) (ds := [12]) #[false, false, false, false, false, false, false, false, false, false, false, false, false] (by kernel_rfl) rfl rfl ⟨hx441_0, ((HB.out.cell (World.block_lt_of_cell? w _ hw442_0)).trans hw442_0)⟩ (fun hHeld => ?_); refine with_tabW galoisref09_Add.tab6 galoisref09_Add.bits6 (fun HT_ HW_ => ?_)
                   generalize wr.drew = w29 at HO_7 HB GG12 HQ30 hf12_0 hx12_0 hx441_0 hx442_0 hHeld ⊢
                   refine pure_ (i := 0) (N := some 25) (v := ?_) (a' := ?_) #[true, false, false, false, false, false, false, false, false, false, false, false, false] rfl rfl (any_of HT_.out (by kernel_rfl)) (fun _ _ _ h => h) (Or.inl ⟨by rfl, ?_⟩) ?_ ?_
                   rotate_left
                   · intro w'
                     go_simp
                     with_reducible rfl
                   rotate_left
                   · simp only [Act.put, sS, s0, s1, i64_w, i32_w]
                     rfl
                   refine pure_ (i := 1) (N := some 26) (v := ?_) (a' := ?_) #[true, true, false, false, false, false, false, false, false, false, false, false, false] rfl rfl (any_of HT_.out (by kernel_rfl)) (fun _ _ _ h => h) (Or.inl ⟨by rfl, ?_⟩) ?_ ?_
                   rotate_left
                   · intro w'
                     go_simp
                     with_reducible rfl
                   rotate_left
                   · simp only [Act.put, sS, s0, s1, i64_w, i32_w]
                     rfl
                   refine pure_ (i := 2) (N := some 27) (v := ?_) (a' := ?_) #[true, true, true, false, false, false, false, false, false, false, false, false, false] rfl rfl (any_of HT_.out (by kernel_rfl)) (fun _ _ _ h => h) (Or.inl ⟨by rfl, ?_⟩) ?_ ?_
                   rotate_left
                   · intro w'
                     go_simp
                     with_reducible rfl
                   rotate_left
                   · simp only [Act.put, sS, s0, s1, i64_w, i32_w]
                     rfl
                   refine pure_ (i := 3) (N := some 28) (v := ?_) (a' := ?_) #[true, true, true, true, false, false, false, false, false, false, false, false, false] rfl rfl (any_of HT_.out (by kernel_rfl)) (fun _ _ _ h => h) (Or.inl ⟨by rfl, ?_⟩) ?_ ?_
                   rotate_left
                   · intro w'
                     go_simp
                     with_reducible rfl
                   rotate_left
                   · simp only [Act.put, sS, s0, s1, i64_w, i32_w]
                     rfl
                   refine pure_ (i := 4) (N := some 29) (v := ?_) (a' := ?_) #[true, true, true, true, true, false, false, false, false, false, false, false, false] rfl rfl (any_of HT_.out (by kernel_rfl)) (fun _ _ _ h => h) (Or.inl ⟨by rfl, ?_⟩) ?_ ?_
                   rotate_left
                   · intro w'
                     go_simp
                     with_reducible rfl
                   rotate_left
                   · simp only [Act.put, sS, s0, s1, i64_w, i32_w]
                     rfl
                   refine pure_ (i := 6) (N := some 31) (v := ?_) (a' := ?_) #[true, true, true, true, true, false, true, false, false, false, false, false, false] rfl rfl (any_of HT_.out (by kernel_rfl)) (fun _ _ _ h => h) (Or.inl ⟨by rfl, ?_⟩) ?_ ?_
                   rotate_left
                   · intro w'
                     go_simp
                     with_reducible rfl
                   rotate_left
                   · simp only [Act.put, sS, s0, s1, i64_w, i32_w]
                     rfl
                   refine pure_ (i := 7) (N := some 32) (v := ?_) (a' := ?_) #[true, true, true, true, true, false, true, true, false, false, false, false, false] rfl rfl (any_of HT_.out (by kernel_rfl)) (fun _ _ _ h => h) (Or.inl ⟨by rfl, ?_⟩) ?_ ?_
                   rotate_left
                   · intro w'
                     go_simp
                     with_reducible rfl
                   rotate_left
                   · simp only [Act.put, sS, s0, s1, i64_w, i32_w]
                     rfl
                   refine pure_ (i := 8) (N := some 33) (v := ?_) (a' := ?_) #[true, true, true, true, true, false, true, true, true, false, false, false, false] rfl rfl (any_of HT_.out (by kernel_rfl)) (fun _ _ _ h => h) (Or.inl ⟨by rfl, ?_⟩) ?_ ?_
                   rotate_left
                   · intro w'
                     go_simp
                     with_reducible rfl
                   rotate_left
                   · simp only [Act.put, sS, s0, s1, i64_w, i32_w]
                     rfl
                   refine take_ (i := 5) (N := some 30) (v := ?_) (a' := ?_) #[true, true, true, true, true, true, true, true, true, false, false, false, false] rfl rfl (take_ofW HT_.out HW_.out (by kernel_rfl)) (fun _ _ _ h => h) (Or.inl ⟨by rfl, ?_⟩) hHeld ?_ ?_
                   rotate_left
                   · rintro w' ⟨s0, s1⟩
                     go_simp
                     with_reducible rfl
                   rotate_left
                   · simp only [Act.put, sS, s0, s1, i64_w, i32_w]
                     rfl
                   refine take_ (i := 9) (N := some 34) (v := ?_) (a' := ?_) #[true, true, true, true, true, true, true, true, true, true, false, false, false] rfl rfl (take_ofW HT_.out HW_.out (by kernel_rfl)) (fun _ _ _ h => h) (Or.inl ⟨by rfl, ?_⟩) hHeld ?_ ?_
                   rotate_left
                   · rintro w' ⟨s0, s1⟩
                     go_simp
                     with_reducible rfl
                   rotate_left
                   · simp only [Act.put, sS, s0, s1, i64_w, i32_w]
                     rfl
                   refine pure_ (i := 10) (N := some 35) (v := ?_) (a' := ?_) #[true, true, true, true, true, true, true, true, true, true, true, false, false] rfl rfl (any_of HT_.out (by kernel_rfl)) (fun _ _ _ h => h) (Or.inl ⟨by rfl, ?_⟩) ?_ ?_
                   rotate_left
                   · intro w'
                     go_simp
                     with_reducible rfl
                   rotate_left
                   · simp only [Act.put, sS, s0, s1, i64_w, i32_w]
                     rfl
                   refine pure_ (i := 11) (N := some 36) (v := ?_) (a' := ?_) #[true, true, true, true, true, true, true, true, true, true, true, true, false] rfl rfl (any_of HT_.out (by kernel_rfl)) (fun _ _ _ h => h) (Or.inl ⟨by rfl, ?_⟩) ?_ ?_
                   rotate_left
                   · intro w'
                     go_simp
                     with_reducible rfl
                   rotate_left
                   · simp only [Act.put, sS, s0, s1, i64_w, i32_w]
                     rfl
                   refine last_ (i := 12) (N := none) #[true, true, true, true, true, true, true, true, true, true, true, true, true] rfl rfl (one_of HT_.out (by kernel_rfl)) (by decide) (fun K hK => ?_)
                   refine skip_ (w1 := ?_) (by rfl) rfl ?_ ?_
                   rotate_left
                   · go_simp
                     rfl
                   refine hK.out _ _ ?_
                   clear hK K
                   refine done_ (done_of HT_.out (by kernel_rfl)) ?_
                   have n0_ : Aside0 (Kd.R (Kd.int .i64) 3 (w29.setCell ⟨go12, (x8_1 : Int).toNat, none⟩ (.int .i64 (wrap64 ((rd x7_1 x8_1) + (rd l1 x8_1))))) w.heap.size (fun k_ => (w.heap.size ≤ k_)) (.slice (some ⟨go12, 0, none⟩) x7_1.length co28) y443) := ⟨by (with_reducible repeat (first | apply Kd.R_alloc | apply Kd.R_drewN | apply Kd.R_drew)); exact HQ30.out⟩
                   have n1_ : Aside0 (Below w.heap.size w (w29.setCell ⟨go12, (x8_1 : Int).toNat, none⟩ (.int .i64 (wrap64 ((rd x7_1 x8_1) + (rd l1 x8_1)))))) := ⟨by repeat (first | (with_reducible first | exact HB.out | apply bA | apply bB | apply bC | refine below_set ?_ GB12.out) | exact HB.out)⟩
                   (try clear HO_7)
                   (try clear HB)
                   generalize (w29.setCell ⟨go12, (x8_1 : Int).toNat, none⟩ (.int .i64 (wrap64 ((rd x7_1 x8_1) + (rd l1 x8_1))))) = w31 at n0_ n1_ ⊢
                   have HO_7 := n0_
                   have HB := n1_
                   clear n0_ n1_
                   have p449 : 0 ≤ (x8_1 : Int) := of_decide_eq_true aX
                   have q449 : x8_1 < (y443.length : Int) := (by have h_ : (x8_1 : Int) < ((x7_1.length : Int) : Int) := of_decide_eq_true aX; first | (have e_ := (Kd.R_reads' HO_7.out).1; omega) | simpa only [Ny443.out, List.length_set] using h_)
                   have ql449 : ((x8_1 : Int) < ((x7_1.length : Int) : Int)) = True := eq_true (of_decide_eq_true aX)
                   obtain ⟨ad449, e449, hx449_0⟩ := Kd.at_int (Kd.R_reads' HO_7.out).2.2 x8_1 p449 q449
                   obtain rfl : (⟨go12, 0, none⟩ : Addr) = ad449 := (by injection e449)
                   (first | simp only [add_plain] at hx449_0 | simp only [add_at] at hx449_0 | simp only [Addr.add, Nat.zero_add] at hx449_0 | skip)
                   replace p449 := eq_true p449
                   replace q449 := eq_true q449
                   have p27 : 0 ≤ (x8_1 : Int) := of_decide_eq_true aX
                   have q27 : (x8_1 : Int) < ((x7_1.length : Int) : Int) := of_decide_eq_true aX
                   obtain ⟨hx27_0, hf27_0⟩ := Kd.R_celln 0 HO_7.out (x8_1 : Int) p27 q27
                   replace p27 := eq_true p27
                   replace q27 := eq_true q27
                   obtain ⟨hy32_, hz32_⟩ := Kd.R_celln 0 HO_7.out (x8_1 : Int) (of_decide_eq_true aX) (of_decide_eq_true aX)
                   have HP32 := Kd.R_putg HO_7.out (x8_1 : Int) (Int.tmod (rd y443 x8_1) a0)
                   try go_wp2_with (first | ((with_reducible refine gate_store (t := 3) (p := 61) rfl ?_); refine store_event (t := 3) (p := 61) (v := ?vo_w33) (w1 := (w31.setCell ⟨go12, (x8_1 : Int).toNat, none⟩ (.int .i64 (Int.tmod (rd y443 x8_1) a0)))) ?hg ?ho ?hn ?hr ?_; (case ho => rfl); (case hg => rfl); (case hn => rfl); (case hr => first | (go_simp; done) | (go_simp; rfl)); intro w33 hw; have hg : w31.grownBy w33 (some go12) := (by rw [hw]; exact HP32.2); have hp_ : Kd.R (Kd.int .i64) 3 w33 w.heap.size (fun k_ => (w.heap.size ≤ k_)) (.slice (some ⟨go12, 0, none⟩) x7_1.length co28) y450 := (by rw [hw, Ny450.out]; exact HP32.1); clear HP32; have n0_ := ak (hp_); have n1_ := ak ((by rw [hw]; exact below_set (HB.out) GB12.out : Below w.heap.size w w33)); clear HO_7; clear HB; have HO_7 := n0_; have HB := n1_; clear n0_ n1_; clear hg hw hp_))
                   (first | go_roundg k1 | (refine Handed.intro k1 ?measure ?_; rotate_left; go_step; (repeat rw [add_plain]); (repeat apply Exists.intro); refine ⟨?rel, rfl⟩))
                   case measure => have := HK1.out; omega
                   case rel => exact ⟨(y450), (wrap64 (x8_1 + 1)), (by first | rfl | (simp; done) | (simp [*]; done)), H', ⟨by have := HK1.out; omega⟩, ⟨by (with_reducible repeat (first | apply Kd.R_alloc | apply Kd.R_drewN | apply Kd.R_drew)); exact HO_7.out⟩, ⟨by repeat (first | (with_reducible first | exact HB.out | apply bA | apply bB | apply bC) | exact HB.out)⟩⟩
            · rw [if_neg c11] at H
              exact absurd H (by simp)
          · rw [if_neg c10] at H
            have c10b0 : decide (x8_1 < (l1.length : Int)) = false := decide_eq_false c10
            clear c10
            by_cases c34 : x8_1 < (l2.length : Int)
            · rw [if_pos c34] at H
              have c34b0 : decide (x8_1 < (l2.length : Int)) = true := decide_eq_true c34
              clear c34
              by_cases c35 : 0 ≤ x8_1
              · rw [if_pos c35] at H
                have c35b0 : decide (0 ≤ x8_1) = true := decide_eq_true c35
                clear c35
                obtain ⟨y453, hy453⟩ : ∃ y_ : List Int, y_ = (x7_1.set (x8_1 : Int).toNat (wrap64 ((rd x7_1 x8_1) + (rd l2 x8_1)))) := ⟨_, rfl⟩
                replace H : (if a0 = 0 then (none) else (galoisref09_Add.l0 k1 a0 l1 l2 (y453.set (x8_1 : Int).toNat (Int.tmod (rd y453 x8_1) a0)) (wrap64 (x8_1 + 1)))) = some r := by first | (rw [hy453]; with_reducible exact H) | (have H2_ := (Option.bind_some _ _).symm.trans H; rw [hy453]; with_reducible exact H2_) | (have H2_ := (Option.bind_some _ _).symm.trans H; with_reducible exact H2_) | with_reducible exact H | (rw [hy453]; exact H) | exact H
                have Ny453 := ak hy453
                clear hy453
                by_cases c37 : a0 = 0
                · rw [if_pos c37] at H
                  exact absurd H (by simp)
                · rw [if_neg c37] at H
                  have c37b0 : (a0 == 0) = false := beq_eq_false_iff_ne.mpr c37
                  have c37b1 : (a0 != 0) = true := bne_iff_ne.mpr c37
                  obtain ⟨y455, hy455⟩ : ∃ y_ : List Int, y_ = (y453.set (x8_1 : Int).toNat (Int.tmod (rd y453 x8_1) a0)) := ⟨_, rfl⟩
                  replace H : (galoisref09_Add.l0 k1 a0 l1 l2 y455 (wrap64 (x8_1 + 1))) = some r := by first | (rw [hy455]; with_reducible exact H) | (have H2_ := (Option.bind_some _ _).symm.trans H; rw [hy455]; with_reducible exact H2_) | (have H2_ := (Option.bind_some _ _).symm.trans H; with_reducible exact H2_) | with_reducible exact H | (rw [hy455]; exact H) | exact H
                  have Ny455 := ak hy455
                  clear hy455
                  as_aux_lemma =>
                   have H' := ak H
                   clear H
                   obtain ⟨Ao39, co39, eo39⟩ := Kd.R_slice HO_7.out
                   subst eo39
                   try go_wp2
                   have n0_ := ak (Kd.R_drew HO_7.out)
                   have n1_ := ak (below_drew1 HB.out)
                   clear HO_7
                   clear HB
                   have HO_7 := n0_
                   have HB := n1_
                   clear n0_ n1_
                   have p451 : 0 ≤ (x8_1 : Int) := of_decide_eq_true aX
                   have q451 : x8_1 < (x7_1.length : Int) := of_decide_eq_true aX
                   obtain ⟨ad451, e451, hx451_0⟩ := Kd.at_int (Kd.R_reads' HO_7.out).2.2 x8_1 p451 q451
                   cases e451
                   replace p451 := eq_true p451
                   replace q451 := eq_true q451
                   have p452 : 0 ≤ (x8_1 : Int) := of_decide_eq_true aX
                   have q452 : x8_1 < (l2.length : Int) := of_decide_eq_true aX
                   obtain ⟨ad452, e452, hx452_0⟩ := Kd.at_int HR2.out x8_1 p452 q452
                   have hw452_0 := hx452_0
                   cases e452
                   replace hx452_0 := (HB.out.cell (World.block_lt_of_cell? w _ hx452_0)).trans hx452_0
                   replace p452 := eq_true p452
                   replace q452 := eq_true q452
                   have p36 : 0 ≤ (x8_1 : Int) := of_decide_eq_true aX
                   have q36 : (x8_1 : Int) < ((x7_1.length : Int) : Int) := of_decide_eq_true aX
                   obtain ⟨go36, co36, eo36, gb36, gl36, cl36, HG36⟩ := Kd.R_form HO_7.out (by omega)
                   (first | cases eo36 | (injection eo36 with ea_ en_ ec_; (first | subst ea_ | (injection ea_ with ea_; subst ea_)); subst ec_; clear en_))
                   have GB36 := ak gb36
                   have GG36 := ak HG36
                   clear gb36 gl36 HG36
                   (first | simp only [add_plain] at hx451_0 | skip)
                   obtain ⟨hx36_0, hf36_0⟩ := Kd.R_celln 0 HO_7.out (x8_1 : Int) p36 q36
                   replace p36 := eq_true p36
                   replace q36 := eq_true q36
                   have HP41 := Kd.R_putn HO_7.out (x8_1 : Int) (wrap64 ((rd x7_1 x8_1) + (rd l2 x8_1)))
                   rw [← Ny453.out] at HP41
                   have HQ41 := ak HP41
                   clear HP41
                   refine start_ (n := 13) (S := fun w' => w'.cell? ⟨go36, (x8_1).toNat, none⟩ = some (.int .i64 (rd x7_1 x8_1)) ∧ w'.cell? (ad452.add (x8_1).toNat) = some (.int .i64 (rd l2 x8_1))) (ds := [12]) #[false, false, false, false, false, false, false, false, false, false, false, false, false] (by kernel_rfl) rfl rfl ⟨hx451_0, ((HB.out.cell (World.block_lt_of_cell? w _ hw452_0)).trans hw452_0)⟩ (fun hHeld => ?_); refine with_tabW galoisref09_Add.tab8 galoisref09_Add.bits8 (fun HT_ HW_ => ?_)
                   generalize wr.drew = w40 at HO_7 HB GG36 HQ41 hf36_0 hx36_0 hx451_0 hx452_0 hHeld ⊢
                   refine pure_ (i := 0) (N := some 41) (v := ?_) (a' := ?_) #[true, false, false, false, false, false, false, false, false, false, false, false, false] rfl rfl (any_of HT_.out (by kernel_rfl)) (fun _ _ _ h => h) (Or.inl ⟨by rfl, ?_⟩) ?_ ?_
                   rotate_left
                   · intro w'
                     go_simp
                     with_reducible rfl
                   rotate_left
                   · simp only [Act.put, sS, s0, s1, i64_w, i32_w]
                     rfl
                   refine pure_ (i := 1) (N := some 42) (v := ?_) (a' := ?_) #[true, true, false, false, false, false, false, false, false, false, false, false, false] rfl rfl (any_of HT_.out (by kernel_rfl)) (fun _ _ _ h => h) (Or.inl ⟨by rfl, ?_⟩) ?_ ?_
                   rotate_left
                   · intro w'
                     go_simp
                     with_reducible rfl
                   rotate_left
                   · simp only [Act.put, sS, s0, s1, i64_w, i32_w]
                     rfl
                   refine pure_ (i := 2) (N := some 43) (v := ?_) (a' := ?_) #[true, true, true, false, false, false, false, false, false, false, false, false, false] rfl rfl (any_of HT_.out (by kernel_rfl)) (fun _ _ _ h => h) (Or.inl ⟨by rfl, ?_⟩) ?_ ?_
                   rotate_left
                   · intro w'
                     go_simp
                     with_reducible rfl
                   rotate_left
                   · simp only [Act.put, sS, s0, s1, i64_w, i32_w]
                     rfl
                   refine pure_ (i := 3) (N := some 44) (v := ?_) (a' := ?_) #[true, true, true, true, false, false, false, false, false, false, false, false, false] rfl rfl (any_of HT_.out (by kernel_rfl)) (fun _ _ _ h => h) (Or.inl ⟨by rfl, ?_⟩) ?_ ?_
                   rotate_left
                   · intro w'
                     go_simp
                     with_reducible rfl
                   rotate_left
                   · simp only [Act.put, sS, s0, s1, i64_w, i32_w]
                     rfl
                   refine pure_ (i := 4) (N := some 45) (v := ?_) (a' := ?_) #[true, true, true, true, true, false, false, false, false, false, false, false, false] rfl rfl (any_of HT_.out (by kernel_rfl)) (fun _ _ _ h => h) (Or.inl ⟨by rfl, ?_⟩) ?_ ?_
                   rotate_left
                   · intro w'
                     go_simp
                     with_reducible rfl
                   rotate_left
                   · simp only [Act.put, sS, s0, s1, i64_w, i32_w]
                     rfl
                   refine pure_ (i := 6) (N := some 47) (v := ?_) (a' := ?_) #[true, true, true, true, true, false, true, false, false, false, false, false, false] rfl rfl (any_of HT_.out (by kernel_rfl)) (fun _ _ _ h => h) (Or.inl ⟨by rfl, ?_⟩) ?_ ?_
                   rotate_left
                   · intro w'
                     go_simp
                     with_reducible rfl
                   rotate_left
                   · simp only [Act.put, sS, s0, s1, i64_w, i32_w]
                     rfl
                   refine pure_ (i := 7) (N := some 48) (v := ?_) (a' := ?_) #[true, true, true, true, true, false, true, true, false, false, false, false, false] rfl rfl (any_of HT_.out (by kernel_rfl)) (fun _ _ _ h => h) (Or.inl ⟨by rfl, ?_⟩) ?_ ?_
                   rotate_left
                   · intro w'
                     go_simp
                     with_reducible rfl
                   rotate_left
                   · simp only [Act.put, sS, s0, s1, i64_w, i32_w]
                     rfl
                   refine pure_ (i := 8) (N := some 49) (v := ?_) (a' := ?_) #[true, true, true, true, true, false, true, true, true, false, false, false, false] rfl rfl (any_of HT_.out (by kernel_rfl)) (fun _ _ _ h => h) (Or.inl ⟨by rfl, ?_⟩) ?_ ?_
                   rotate_left
                   · intro w'
                     go_simp
                     with_reducible rfl
                   rotate_left
                   · simp only [Act.put, sS, s0, s1, i64_w, i32_w]
                     rfl
                   refine take_ (i := 5) (N := some 46) (v := ?_) (a' := ?_) #[true, true, true, true, true, true, true, true, true, false, false, false, false] rfl rfl (take_ofW HT_.out HW_.out (by kernel_rfl)) (fun _ _ _ h => h) (Or.inl ⟨by rfl, ?_⟩) hHeld ?_ ?_
                   rotate_left
                   · rintro w' ⟨s0, s1⟩
                     go_simp
                     with_reducible rfl
                   rotate_left
                   · simp only [Act.put, sS, s0, s1, i64_w, i32_w]
                     rfl
                   refine take_ (i := 9) (N := some 50) (v := ?_) (a' := ?_) #[true, true, true, true, true, true, true, true, true, true, false, false, false] rfl rfl (take_ofW HT_.out HW_.out (by kernel_rfl)) (fun _ _ _ h => h) (Or.inl ⟨by rfl, ?_⟩) hHeld ?_ ?_
                   rotate_left
                   · rintro w' ⟨s0, s1⟩
                     go_simp
                     with_reducible rfl
                   rotate_left
                   · simp only [Act.put, sS, s0, s1, i64_w, i32_w]
                     rfl
                   refine pure_ (i := 10) (N := some 51) (v := ?_) (a' := ?_) #[true, true, true, true, true, true, true, true, true, true, true, false, false] rfl rfl (any_of HT_.out (by kernel_rfl)) (fun _ _ _ h => h) (Or.inl ⟨by rfl, ?_⟩) ?_ ?_
                   rotate_left
                   · intro w'
                     go_simp
                     with_reducible rfl
                   rotate_left
                   · simp only [Act.put, sS, s0, s1, i64_w, i32_w]
                     rfl
                   refine pure_ (i := 11) (N := some 52) (v := ?_) (a' := ?_) #[true, true, true, true, true, true, true, true, true, true, true, true, false] rfl rfl (any_of HT_.out (by kernel_rfl)) (fun _ _ _ h => h) (Or.inl ⟨by rfl, ?_⟩) ?_ ?_
                   rotate_left
                   · intro w'
                     go_simp
                     with_reducible rfl
                   rotate_left
                   · simp only [Act.put, sS, s0, s1, i64_w, i32_w]
                     rfl
                   refine last_ (i := 12) (N := none) #[true, true, true, true, true, true, true, true, true, true, true, true, true] rfl rfl (one_of HT_.out (by kernel_rfl)) (by decide) (fun K hK => ?_)
                   refine skip_ (w1 := ?_) (by rfl) rfl ?_ ?_
                   rotate_left
                   · go_simp
                     rfl
                   refine hK.out _ _ ?_
                   clear hK K
                   refine done_ (done_of HT_.out (by kernel_rfl)) ?_
                   have n0_ : Aside0 (Kd.R (Kd.int .i64) 3 (w40.setCell ⟨go36, (x8_1 : Int).toNat, none⟩ (.int .i64 (wrap64 ((rd x7_1 x8_1) + (rd l2 x8_1))))) w.heap.size (fun k_ => (w.heap.size ≤ k_)) (.slice (some ⟨go36, 0, none⟩) x7_1.length co39) y453) := ⟨by (with_reducible repeat (first | apply Kd.R_alloc | apply Kd.R_drewN | apply Kd.R_drew)); exact HQ41.out⟩
                   have n1_ : Aside0 (Below w.heap.size w (w40.setCell ⟨go36, (x8_1 : Int).toNat, none⟩ (.int .i64 (wrap64 ((rd x7_1 x8_1) + (rd l2 x8_1)))))) := ⟨by repeat (first | (with_reducible first | exact HB.out | apply bA | apply bB | apply bC | refine below_set ?_ GB36.out) | exact HB.out)⟩
                   (try clear HO_7)
                   (try clear HB)
                   generalize (w40.setCell ⟨go36, (x8_1 : Int).toNat, none⟩ (.int .i64 (wrap64 ((rd x7_1 x8_1) + (rd l2 x8_1))))) = w42 at n0_ n1_ ⊢
                   have HO_7 := n0_
                   have HB := n1_
                   clear n0_ n1_
                   have p454 : 0 ≤ (x8_1 : Int) := of_decide_eq_true aX
                   have q454 : x8_1 < (y453.length : Int) := (by have h_ : (x8_1 : Int) < ((x7_1.length : Int) : Int) := of_decide_eq_true aX; first | (have e_ := (Kd.R_reads' HO_7.out).1; omega) | simpa only [Ny453.out, List.length_set] using h_)
                   have ql454 : ((x8_1 : Int) < ((x7_1.length : Int) : Int)) = True := eq_true (of_decide_eq_true aX)
                   obtain ⟨ad454, e454, hx454_0⟩ := Kd.at_int (Kd.R_reads' HO_7.out).2.2 x8_1 p454 q454
                   obtain rfl : (⟨go36, 0, none⟩ : Addr) = ad454 := (by injection e454)
                   (first | simp only [add_plain] at hx454_0 | simp only [add_at] at hx454_0 | simp only [Addr.add, Nat.zero_add] at hx454_0 | skip)
                   replace p454 := eq_true p454
                   replace q454 := eq_true q454
                   have p38 : 0 ≤ (x8_1 : Int) := of_decide_eq_true aX
                   have q38 : (x8_1 : Int) < ((x7_1.length : Int) : Int) := of_decide_eq_true aX
                   obtain ⟨hx38_0, hf38_0⟩ := Kd.R_celln 0 HO_7.out (x8_1 : Int) p38 q38
                   replace p38 := eq_true p38
                   replace q38 := eq_true q38
                   obtain ⟨hy43_, hz43_⟩ := Kd.R_celln 0 HO_7.out (x8_1 : Int) (of_decide_eq_true aX) (of_decide_eq_true aX)
                   have HP43 := Kd.R_putg HO_7.out (x8_1 : Int) (Int.tmod (rd y453 x8_1) a0)
                   try go_wp2_with (first | ((with_reducible refine gate_store (t := 3) (p := 61) rfl ?_); refine store_event (t := 3) (p := 61) (v := ?vo_w44) (w1 := (w42.setCell ⟨go36, (x8_1 : Int).toNat, none⟩ (.int .i64 (Int.tmod (rd y453 x8_1) a0)))) ?hg ?ho ?hn ?hr ?_; (case ho => rfl); (case hg => rfl); (case hn => rfl); (case hr => first | (go_simp; done) | (go_simp; rfl)); intro w44 hw; have hg : w42.grownBy w44 (some go36) := (by rw [hw]; exact HP43.2); have hp_ : Kd.R (Kd.int .i64) 3 w44 w.heap.size (fun k_ => (w.heap.size ≤ k_)) (.slice (some ⟨go36, 0, none⟩) x7_1.length co39) y455 := (by rw [hw, Ny455.out]; exact HP43.1); clear HP43; have n0_ := ak (hp_); have n1_ := ak ((by rw [hw]; exact below_set (HB.out) GB36.out : Below w.heap.size w w44)); clear HO_7; clear HB; have HO_7 := n0_; have HB := n1_; clear n0_ n1_; clear hg hw hp_))
                   (first | go_roundg k1 | (refine Handed.intro k1 ?measure ?_; rotate_left; go_step; (repeat rw [add_plain]); (repeat apply Exists.intro); refine ⟨?rel, rfl⟩))
                   case measure => have := HK1.out; omega
                   case rel => exact ⟨(y455), (wrap64 (x8_1 + 1)), (by first | rfl | (simp; done) | (simp [*]; done)), H', ⟨by have := HK1.out; omega⟩, ⟨by (with_reducible repeat (first | apply Kd.R_alloc | apply Kd.R_drewN | apply Kd.R_drew)); exact HO_7.out⟩, ⟨by repeat (first | (with_reducible first | exact HB.out | apply bA | apply bB | apply bC) | exact HB.out)⟩⟩
              · rw [if_neg c35] at H
                exact absurd H (by simp)
            · rw [if_neg c34] at H
              have c34b0 : decide (x8_1 < (l2.length : Int)) = false := decide_eq_false c34
              clear c34
              by_cases c45 : 0 ≤ x8_1
              · rw [if_pos c45] at H
                have c45b0 : decide (0 ≤ x8_1) = true := decide_eq_true c45
                clear c45
                by_cases c46 : a0 = 0
                · rw [if_pos c46] at H
                  exact absurd H (by simp)
                · rw [if_neg c46] at H
                  have c46b0 : (a0 == 0) = false := beq_eq_false_iff_ne.mpr c46
                  have c46b1 : (a0 != 0) = true := bne_iff_ne.mpr c46
                  obtain ⟨y457, hy457⟩ : ∃ y_ : List Int, y_ = (x7_1.set (x8_1 : Int).toNat (Int.tmod (rd x7_1 x8_1) a0)) := ⟨_, rfl⟩
                  replace H : (galoisref09_Add.l0 k1 a0 l1 l2 y457 (wrap64 (x8_1 + 1))) = some r := by first | (rw [hy457]; with_reducible exact H) | (have H2_ := (Option.bind_some _ _).symm.trans H; rw [hy457]; with_reducible exact H2_) | (have H2_ := (Option.bind_some _ _).symm.trans H; with_reducible exact H2_) | with_reducible exact H | (rw [hy457]; exact H) | exact H
                  have Ny457 := ak hy457
                  clear hy457
                  as_aux_lemma =>
                   have H' := ak H
                   clear H
                   obtain ⟨Ao48, co48, eo48⟩ := Kd.R_slice HO_7.out
                   subst eo48
                   have p456 : 0 ≤ (x8_1 : Int) := of_decide_eq_true aX
                   have q456 : x8_1 < (x7_1.length : Int) := of_decide_eq_true aX
                   obtain ⟨ad456, e456, hx456_0⟩ := Kd.at_int (Kd.R_reads' HO_7.out).2.2 x8_1 p456 q456
                   cases e456
                   replace p456 := eq_true p456
                   replace q456 := eq_true q456
                   have p47 : 0 ≤ (x8_1 : Int) := of_decide_eq_true aX
                   have q47 : (x8_1 : Int) < ((x7_1.length : Int) : Int) := of_decide_eq_true aX
                   obtain ⟨go47, co47, eo47, gb47, gl47, cl47, HG47⟩ := Kd.R_form HO_7.out (by omega)
                   (first | cases eo47 | (injection eo47 with ea_ en_ ec_; (first | subst ea_ | (injection ea_ with ea_; subst ea_)); subst ec_; clear en_))
                   have GB47 := ak gb47
                   have GG47 := ak HG47
                   clear gb47 gl47 HG47
                   (first | simp only [add_plain] at hx456_0 | skip)
                   obtain ⟨hx47_0, hf47_0⟩ := Kd.R_celln 0 HO_7.out (x8_1 : Int) p47 q47
                   replace p47 := eq_true p47
                   replace q47 := eq_true q47
                   have HP49 := Kd.R_putg HO_7.out (x8_1 : Int) (Int.tmod (rd x7_1 x8_1) a0)
                   go_wp2_with (first | ((with_reducible refine gate_store (t := 3) (p := 61) rfl ?_); refine store_event (t := 3) (p := 61) (v := ?vo_w50) (w1 := (wr.setCell ⟨go47, (x8_1 : Int).toNat, none⟩ (.int .i64 (Int.tmod (rd x7_1 x8_1) a0)))) ?hg ?ho ?hn ?hr ?_; (case ho => rfl); (case hg => rfl); (case hn => rfl); (case hr => first | (go_simp; done) | (go_simp; rfl)); intro w50 hw; have hg : wr.grownBy w50 (some go47) := (by rw [hw]; exact HP49.2); have hp_ : Kd.R (Kd.int .i64) 3 w50 w.heap.size (fun k_ => (w.heap.size ≤ k_)) (.slice (some ⟨go47, 0, none⟩) x7_1.length co48) y457 := (by rw [hw, Ny457.out]; exact HP49.1); clear HP49; have n0_ := ak (hp_); have n1_ := ak ((by rw [hw]; exact below_set (HB.out) GB47.out : Below w.heap.size w w50)); clear HO_7; clear HB; have HO_7 := n0_; have HB := n1_; clear n0_ n1_; clear hg hw hp_))
                   (first | go_roundg k1 | (refine Handed.intro k1 ?measure ?_; rotate_left; go_step; (repeat rw [add_plain]); (repeat apply Exists.intro); refine ⟨?rel, rfl⟩))
                   case measure => have := HK1.out; omega
                   case rel => exact ⟨(y457), (wrap64 (x8_1 + 1)), (by first | rfl | (simp; done) | (simp [*]; done)), H', ⟨by have := HK1.out; omega⟩, ⟨by (with_reducible repeat (first | apply Kd.R_alloc | apply Kd.R_drewN | apply Kd.R_drew)); exact HO_7.out⟩, ⟨by repeat (first | (with_reducible first | exact HB.out | apply bA | apply bB | apply bC) | exact HB.out)⟩⟩
              · rw [if_neg c45] at H
                exact absurd H (by simp)
        · rw [if_neg c9] at H
          have c9b0 : decide (x8_1 < (x7_1.length : Int)) = false := decide_eq_false c9
          clear c9
          replace H := Option.bind_eq_some_iff.mp H
          obtain ⟨t438, A510, H⟩ := H
          replace H : (some t438) = some r := H
          have A51 := ak A510
          clear A510
          as_aux_lemma =>
           obtain rfl := Option.some.inj H
           obtain ⟨Ao52, co52, eo52⟩ := Kd.R_slice HO_7.out
           subst eo52
           go_wp2_with (first | ((with_reducible refine gate_callee (f := 40) rfl ?_); refine goesL_ (some 63) rfl rfl Try.func40 (by kernel_rfl) rfl #[.slice Ao52 x7_1.length co52] rfl mX ?_; (with_reducible refine (galoisref09_Trim.calls k1 (fun k_ => some k_ = (.slice Ao52 x7_1.length co52 : Value).ownBlock) _ _ x7_1 t438 _ ?side1 A51.out).mono ?_); (case side1 => exact Kd.R_V (Kd.R_tight rfl (HO_7.out))); rintro e w53 ⟨v439, rfl, ho0, hb⟩; refine ⟨_, rfl, ?_⟩; have n0_ := ak (Kd.R_below (rX HO_7.out) hb); have n1_ := ak (Kd.V_lower (Kd.V_mono (ok' := fun k_ => (w.heap.size ≤ k_)) ho0 (fun k_ hk_ => Or.elim hk_ (fun hs_ => ((HO_7.out).1 k_ hs_.symm)) (fun hn_ => (Nat.le_trans (below_size bX) hn_)))) (below_size bX)); have n2_ := ak (below_step bX hb); clear HO_7; clear HB; have HO_7 := n0_; have HO440 := n1_; have HB := n2_; clear n0_ n1_ n2_; (try clear hb); (try clear hb2); (try clear hk); (try clear hi); (try clear ho0)))
           go_ret
           exact ⟨_, by first | rfl | (simp [errW_none, errW_some] <;> rfl) | (simp only [← hji4]; first | rfl | (simp [errW_none, errW_some] <;> rfl)) | (simp [*, errW_none, errW_some] <;> rfl), by (with_reducible repeat (first | apply vA | apply vB | apply vC)); exact HO440.out, by repeat (first | (with_reducible first | exact HB.out | apply bA | apply bB | apply bC) | exact HB.out)⟩
   · rw [if_neg c6] at H
     exact absurd H (by simp)
 · rw [if_neg c5] at H
   exact absurd H (by simp)

end Go.Proofs.Ytmknclgamadphaa.PPolymodPrimes
