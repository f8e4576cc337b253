-- WRITTEN BY sprint.py (a program of this repo, over the kit's print.py): nothing here is trusted, Lean checks it.
import Derived.Test.YtmknclgamadphaaPPolymodPrimesx0
import Derived.Test.YtmknclgamadphaaPPolymodPrimesx7
import Derived.Test.YtmknclgamadphaaPPolymodPrimesx8
namespace Go.Proofs.Ytmknclgamadphaa.PPolymodPrimes
open Go.RowKit Go.Proofs.YtmknclgamadphaaW.PrintWords Go.Proofs.YtmknclgamadphaaW.PrintLast Go.Proofs.YtmknclgamadphaaW.PrintMore
attribute [local go_sem] max2_int min2_int max_two min_two max_three min_three max_four min_four   -- for this text's walks alone
set_option linter.unusedVariables false
set_option linter.unusedSimpArgs false

/-! ### galoisref09_Mul: function 52 -/
mutual
def galoisref09_Mul.j0 : Nat → Int → List Int → List Int → Bool → Option (List Int)
 | 0, _, _, _, _ => none
 | k + 1, x0, x1, x2, x17 => if x17 = true then (some ([] : List Int)) else (if 0 ≤ (wrap64 ((wrap64 ((x1.length : Int) + (x2.length : Int))) - 1)) then (if (wrap64 ((wrap64 ((x1.length : Int) + (x2.length : Int))) - 1) : Int).toNat ≤ 35184372088832 then (galoisref09_Mul.l0 k x0 x1 x2 (List.replicate (wrap64 ((wrap64 ((x1.length : Int) + (x2.length : Int))) - 1) : Int).toNat 0) 0) else (none)) else (none))
def galoisref09_Mul.l0 : Nat → Int → List Int → List Int → List Int → Int → Option (List Int)
 | 0, _, _, _, _, _ => none
 | k + 1, x0, x1, x2, x7, x8 => if x8 < (x1.length : Int) then (galoisref09_Mul.l1 k x0 x1 x2 x7 x8 0) else ((galoisref09_Trim.f k x7).bind fun t398 => (some t398))
def galoisref09_Mul.l1 : Nat → Int → List Int → List Int → List Int → Int → Int → Option (List Int)
 | 0, _, _, _, _, _, _ => none
 | k + 1, x0, x1, x2, x7, x8, x9 => if x9 < (x2.length : Int) then (if 0 ≤ (wrap64 (x8 + x9)) then (if (wrap64 (x8 + x9)) < (x7.length : Int) then (if 0 ≤ x8 then (if x8 < (x1.length : Int) then (if 0 ≤ x9 then (if x0 = 0 then (none) else (galoisref09_Mul.l1 k x0 x1 x2 (x7.set ((wrap64 (x8 + x9)) : Int).toNat (Int.tmod (wrap64 ((rd x7 (wrap64 (x8 + x9))) + (wrap64 ((rd x1 x8) * (rd x2 x9))))) x0)) x8 (wrap64 (x9 + 1)))) else (none)) else (none)) else (none)) else (none)) else (none)) else (galoisref09_Mul.l0 k x0 x1 x2 x7 (wrap64 (x8 + 1)))
end
def galoisref09_Mul.f (k : Nat) (a0 : Int) (l1 : List Int) (l2 : List Int) : Option (List Int) := if (l1.length : Int) = 0 then (galoisref09_Mul.j0 k a0 l1 l2 true) else (galoisref09_Mul.j0 k a0 l1 l2 ((l2.length : Int) == 0))
theorem galoisref09_Mul.mono_l : ∀ k, (∀ y0 y1 y2 y3, LeO (galoisref09_Mul.j0 k y0 y1 y2 y3) (galoisref09_Mul.j0 (k + 1) y0 y1 y2 y3)) ∧ (∀ y0 y1 y2 y3 y4, LeO (galoisref09_Mul.l0 k y0 y1 y2 y3 y4) (galoisref09_Mul.l0 (k + 1) y0 y1 y2 y3 y4)) ∧ (∀ y0 y1 y2 y3 y4 y5, LeO (galoisref09_Mul.l1 k y0 y1 y2 y3 y4 y5) (galoisref09_Mul.l1 (k + 1) y0 y1 y2 y3 y4 y5))
 | 0 => ⟨fun _ _ _ _ r h => by simp [galoisref09_Mul.j0] at h, fun _ _ _ _ _ r h => by simp [galoisref09_Mul.l0] at h, fun _ _ _ _ _ _ r h => by simp [galoisref09_Mul.l1] at h⟩
 | k + 1 => by
   obtain ⟨ih0, ih1, ih2⟩ := galoisref09_Mul.mono_l k
   refine ⟨?_, ?_, ?_⟩
   · intro y0 y1 y2 y3
     unfold galoisref09_Mul.j0
     repeat' first
     | (with_reducible apply ih0)
     | (with_reducible apply ih1)
     | (with_reducible apply ih2)
     | (with_reducible apply galoisref09_Trim.mono)
     | (with_reducible apply LeO.refl)
     | (with_reducible apply LeO.none)
     | (with_reducible refine LeO.ite ?_ ?_)
     | (with_reducible refine LeO.bind ?_ (fun _ => ?_))
   · intro y0 y1 y2 y3 y4
     unfold galoisref09_Mul.l0
     repeat' first
     | (with_reducible apply ih0)
     | (with_reducible apply ih1)
     | (with_reducible apply ih2)
     | (with_reducible apply galoisref09_Trim.mono)
     | (with_reducible apply LeO.refl)
     | (with_reducible apply LeO.none)
     | (with_reducible refine LeO.ite ?_ ?_)
     | (with_reducible refine LeO.bind ?_ (fun _ => ?_))
   · intro y0 y1 y2 y3 y4 y5
     unfold galoisref09_Mul.l1
     repeat' first
     | (with_reducible apply ih0)
     | (with_reducible apply ih1)
     | (with_reducible apply ih2)
     | (with_reducible apply galoisref09_Trim.mono)
     | (with_reducible apply LeO.refl)
     | (with_reducible apply LeO.none)
     | (with_reducible refine LeO.ite ?_ ?_)
     | (with_reducible refine LeO.bind ?_ (fun _ => ?_))
theorem galoisref09_Mul.mono : ∀ a0 a1 a2 k, LeO (galoisref09_Mul.f k a0 a1 a2) (galoisref09_Mul.f (k + 1) a0 a1 a2) := by
 intro a0 a1 a2 k
 obtain ⟨ih0, ih1, ih2⟩ := galoisref09_Mul.mono_l k
 unfold galoisref09_Mul.f
 repeat' first
  | (with_reducible apply ih0)
  | (with_reducible apply ih1)
  | (with_reducible apply ih2)
  | (with_reducible apply galoisref09_Trim.mono)
  | (with_reducible apply LeO.refl)
  | (with_reducible apply LeO.none)
  | (with_reducible refine LeO.ite ?_ ?_)
  | (with_reducible refine LeO.bind ?_ (fun _ => ?_))
def galoisref09_Mul.T10 : Bool × List (List Nat × List Nat) := (true, [([], []), ([], []), ([], []), ([1, 2], [1, 2]), ([], []), ([], []), ([], []), ([5, 6], [5, 6]), ([4, 7], [4, 7]), ([8], [8]), ([], []), ([], []), ([10, 11], [10, 11]), ([12], [12]), ([], []), ([], []), ([14, 15], [14, 15]), ([16], [16]), ([13, 17], [13, 17]), ([9, 18], [9, 18]), ([], []), ([19, 20], [19, 20]), ([0, 3, 0, 1, 2, 3, 4, 5, 6, 7, 8, 9, 10, 11, 12, 13, 14, 15, 16, 17, 18, 19, 20, 21], [0, 3]), ([22, 21, 0, 1, 2, 3, 4, 5, 6, 7, 8, 9, 10, 11, 12, 13, 14, 15, 16, 17, 18, 19, 20, 21], [21, 22])])
def galoisref09_Mul.B10 : List Nat := [0, 0, 0, 6, 0, 0, 0, 96, 240, 496, 0, 0, 3072, 7168, 0, 0, 49152, 114688, 261120, 524272, 0, 2097136, 4194303, 8388607]
theorem galoisref09_Mul.tab10 : rtab .any (opsOf Try.f52 10) = galoisref09_Mul.T10 := by kernel_rfl
theorem galoisref09_Mul.bits10 : waitsOk galoisref09_Mul.T10.2 galoisref09_Mul.B10 = true := by kernel_rfl
set_option maxHeartbeats 8000000 in
set_option maxRecDepth 100000 in
theorem galoisref09_Mul.calls (k : Nat) (a0 : Int) (A1 : Option Addr) (c1 : Nat) (l1 : List Int) (A2 : Option Addr) (c2 : Nat) (l2 : List Int) (r : List Int) (w : World) (hr1 : Kd.C (Kd.int .i64) w A1 l1.length l1) (hc1 : l1.length ≤ c1) (hr2 : Kd.C (Kd.int .i64) w A2 l2.length l2) (hc2 : l2.length ≤ c2) (h : galoisref09_Mul.f k a0 l1 l2 = some r) :
 Calls Try.prog 52 #[.int .i64 a0, .slice A1 l1.length c1, .slice A2 l2.length c2] w fun e w' => ∃ v0_ : Value, e = .returned (v0_) ∧ Kd.V (Kd.int .i64) 3 w' w.heap.size (fun k_ => (w.heap.size ≤ k_)) v0_ r ∧ Below w.heap.size w w' := by
 have HR1 := ak hr1
 have HC1 := ak hc1
 clear hr1 hc1
 have HR2 := ak hr2
 have HC2 := ak hc2
 clear hr2 hc2
 have HB := ak (Below.refl w.heap.size w)
 have H : (if (l1.length : Int) = 0 then (galoisref09_Mul.j0 k a0 l1 l2 true) else (galoisref09_Mul.j0 k a0 l1 l2 ((l2.length : Int) == 0))) = some r := h
 clear h
 have HC4 := ak H
 clear H
 go_enter Try.func52, Try.ntmps52
 go_upto_region 1 with (fail)
 go_cut [17] (fun v17 wc => ∃ (kq : Nat) (x17_3 : Bool), v17 = .bool x17_3 ∧ Aside0 (galoisref09_Mul.j0 kq a0 l1 l2 x17_3 = some r) ∧ Aside0 (kq ≤ k) ∧ Aside0 (Below w.heap.size w wc))
 case first =>
  have H := HC4.out
  clear HC4
  by_cases c5 : (l1.length : Int) = 0
  · rw [if_pos c5] at H
    have c5b0 : ((l1.length : Int) == 0) = true := beq_iff_eq.mpr c5
    have c5b1 : ((l1.length : Int) != 0) = false := bne_eq_false_iff_eq.mpr c5
    clear c5
    (first | rw [c5b0] | (simp only [i64_w, i32_w]; rw [c5b0]) | skip)
    as_aux_lemma =>
     have H' := ak H
     clear H
     go_wp2
     go_meet
     case rel => exact ⟨_, (true), (by first | rfl | (simp; done) | (simp [*]; done)), H', ⟨by first | omega | exact Nat.le_refl _⟩, ⟨by repeat (first | (with_reducible first | exact HB.out | apply bA | apply bB | apply bC) | exact HB.out)⟩⟩
  · rw [if_neg c5] at H
    have c5b0 : ((l1.length : Int) == 0) = false := beq_eq_false_iff_ne.mpr c5
    have c5b1 : ((l1.length : Int) != 0) = true := bne_iff_ne.mpr c5
    have c5b2 : ¬ (l1 = []) := fun h_ => c5 (by rw [h_]; rfl)
    (first | rw [c5b0] | (simp only [i64_w, i32_w]; rw [c5b0]) | skip)
    as_aux_lemma =>
     have H' := ak H
     clear H
     go_wp2
     go_meet
     case rel => exact ⟨_, (((l2.length : Int) == 0)), (by first | rfl | (simp; done) | (simp [*]; done)), H', ⟨by first | omega | exact Nat.le_refl _⟩, ⟨by repeat (first | (with_reducible first | exact HB.out | apply bA | apply bB | apply bC) | exact HB.out)⟩⟩
 case rest =>
  clear HC4
  try clear c1
  try clear c2
  try clear p2
  try clear c5
  try clear c5b0
  try clear c5b1
  try clear c5b2
  obtain ⟨kq, x17_3, rfl, HA, HJ3, HB⟩ := hcut
  cases kq with
  | zero => exact absurd HA.out (by simp [galoisref09_Mul.j0])
  | succ kj3 =>
    have H := HA.out
    clear HA
    simp only [galoisref09_Mul.j0] at H
    by_cases c6 : x17_3 = true
    · subst c6
      have H1 : (some ([] : List Int)) = some r := by rw [if_pos rfl] at H; exact H
      clear H
      have H := H1
      clear H1
      as_aux_lemma =>
       obtain rfl := Option.some.inj H
       go_wp2
       go_ret
       exact ⟨(.slice none 0 0), by first | rfl | (simp [errW_none, errW_some] <;> rfl) | (simp [*, errW_none, errW_some] <;> rfl), (Kd.V_nil _ _ _ _ _), by repeat (first | (with_reducible first | exact HB.out | apply bA | apply bB | apply bC) | exact HB.out)⟩
    · replace c6 := Bool.eq_false_iff.mpr c6
      subst c6
      have H1 : (if 0 ≤ (wrap64 ((wrap64 ((l1.length : Int) + (l2.length : Int))) - 1)) then (if (wrap64 ((wrap64 ((l1.length : Int) + (l2.length : Int))) - 1) : Int).toNat ≤ 35184372088832 then (galoisref09_Mul.l0 kj3 a0 l1 l2 (List.replicate (wrap64 ((wrap64 ((l1.length : Int) + (l2.length : Int))) - 1) : Int).toNat 0) 0) else (none)) else (none)) = some r := by rw [if_neg (show ¬ (false = true) by decide)] at H; exact H
      clear H
      have H := H1
      clear H1
      obtain ⟨ji7, hji7⟩ : ∃ j_ : Int, (wrap64 ((wrap64 ((l1.length : Int) + (l2.length : Int))) - 1)) = j_ := ⟨_, rfl⟩
      replace H : (if 0 ≤ (ji7) then (if (ji7 : Int).toNat ≤ 35184372088832 then (galoisref09_Mul.l0 kj3 a0 l1 l2 (List.replicate (ji7 : Int).toNat 0) 0) else (none)) else (none)) = some r := by first | (rw [hji7] at H; exact H) | (simp only [hji7] at H ⊢; exact H)
      have hji7w : (IntKind.i64.wrap ((wrap64 ((l1.length : Int) + (l2.length : Int))) - 1)) = ji7 := (i64_w _).trans hji7
      by_cases c8 : 0 ≤ (ji7)
      · rw [if_pos c8] at H
        have c8b0 := eq_true c8
        have c8b1 : decide (0 ≤ (ji7)) = true := decide_eq_true c8
        clear c8
        by_cases c9 : (ji7 : Int).toNat ≤ 35184372088832
        · rw [if_pos c9] at H
          have c9b0 := eq_true c9
          have c9b1 : decide ((ji7 : Int).toNat ≤ 35184372088832) = true := decide_eq_true c9
          clear c9
          obtain ⟨y395, hy395⟩ : ∃ y_ : List Int, y_ = (List.replicate (ji7 : Int).toNat 0) := ⟨_, rfl⟩
          replace H : (galoisref09_Mul.l0 kj3 a0 l1 l2 y395 0) = some r := by first | (rw [hy395]; with_reducible exact H) | (have H2_ := (Option.bind_some _ _).symm.trans H; rw [hy395]; with_reducible exact H2_) | (have H2_ := (Option.bind_some _ _).symm.trans H; with_reducible exact H2_) | with_reducible exact H | (rw [hy395]; exact H) | exact H
          have Ny395 := ak hy395
          clear hy395
          have H' := ak H
          clear H
          go_wp2_with (first | ((with_reducible refine gate_dst (N := 24) rfl ?_); (try (refine gate_guard (by rfl) ?_; dsimp only)); refine Kd.R_make (Kd.int .i64) _ 3 rfl (N := 24) rfl 23 _ _ rfl ji7 rfl rfl Try.underlying23 (.int .i64 0) 8 info3 rfl (by decide) (by omega) 0 (ok := fun _ => True) (okp := fun _ => True) rfl (fun _ hk => hk) trivial (of_decide_eq_true aX) (Nat.le_trans (Nat.mul_le_mul_right _ (of_decide_eq_true aX : ji7.toNat ≤ 35184372088832)) (by omega)) (Below.refl _ _) (Nat.le_refl _) ?_; intro v396 w10 ho11 hb hg_ hnew_; clear hg_ hnew_; (first | rw [← Ny395.out] at ho11 | (simp only [Int.reduceToNat] at ho11; rw [← Ny395.out] at ho11)); have n0_ := ak (Kd.R_lower (Kd.R_newM (M := fun k_ => (w.heap.size ≤ k_)) ho11 (below_size bX) (fun k_ h_ => h_)) (below_size bX)); have n1_ := ak (below_step bX hb); clear HB; have HO397 := n0_; have HB := n1_; clear n0_ n1_; clear hb ho11))
          go_loopg [8] kj3 (fun kq v8 w' => ∃ (x7_2 : List Int) (x8_2 : Int), v8 = .int .i64 x8_2 ∧ Aside0 (galoisref09_Mul.l0 kq a0 l1 l2 x7_2 x8_2 = some r) ∧ Aside0 (kq ≤ kj3) ∧ Aside0 (Kd.R (Kd.int .i64) 3 w' w.heap.size (fun k_ => (w.heap.size ≤ k_)) v396 x7_2) ∧ Aside0 (Below w.heap.size w w'))
          case atStart => exact ⟨(y395), (0), (by first | rfl | (simp; done) | (simp [*]; done)), H', ⟨Nat.le_refl _⟩, ⟨by (with_reducible repeat (first | apply Kd.R_alloc | apply Kd.R_drewN | apply Kd.R_drew)); exact Kd.R_mono HO397.out (fun _ hk => hk.1)⟩, ⟨by repeat (first | (with_reducible first | exact HB.out | apply bA | apply bB | apply bC) | exact HB.out)⟩⟩
          case round =>
           clear H'
           try clear c1
           try clear c2
           try clear p2
           try clear c5
           try clear c5b0
           try clear c5b1
           try clear c5b2
           try clear c6
           try clear p6
           try clear c8
           try clear c8b0
           try clear c8b1
           try clear c9
           try clear c9b0
           try clear c9b1
           try clear p2
           obtain ⟨x7_2, x8_2, rfl, HA, HK2, HO_7, HB⟩ := hrel
           cases gk with
           | zero => exact absurd HA.out (by simp [galoisref09_Mul.l0])
           | succ k2 =>
             have H := HA.out
             clear HA
             simp only [galoisref09_Mul.l0] at H
             by_cases c12 : x8_2 < (l1.length : Int)
             · rw [if_pos c12] at H
               have c12b0 : decide (x8_2 < (l1.length : Int)) = true := decide_eq_true c12
               clear c12
               have H' := ak H
               clear H
               go_wp2
               go_loopg [9] k2 (fun kq v9 w' => ∃ (x7_3 : List Int) (x9_3 : Int), v9 = .int .i64 x9_3 ∧ Aside0 (galoisref09_Mul.l1 kq a0 l1 l2 x7_3 x8_2 x9_3 = some r) ∧ Aside0 (kq ≤ k2) ∧ Aside0 (Kd.R (Kd.int .i64) 3 w' w.heap.size (fun k_ => (w.heap.size ≤ k_)) v396 x7_3) ∧ Aside0 (Below w.heap.size w w'))
               case atStart => exact ⟨(x7_2), (0), (by first | rfl | (simp; done) | (simp [*]; done)), H', ⟨Nat.le_refl _⟩, ⟨by (with_reducible repeat (first | apply Kd.R_alloc | apply Kd.R_drewN | apply Kd.R_drew)); exact HO_7.out⟩, ⟨by repeat (first | (with_reducible first | exact HB.out | apply bA | apply bB | apply bC) | exact HB.out)⟩⟩
               case round =>
                clear H'
                try clear c1
                try clear c2
                try clear p2
                try clear c5
                try clear c5b0
                try clear c5b1
                try clear c5b2
                try clear c6
                try clear p6
                try clear c8
                try clear c8b0
                try clear c8b1
                try clear c9
                try clear c9b0
                try clear c9b1
                try clear c12
                try clear c12b0
                try clear p2
                try clear p6
                obtain ⟨x7_3, x9_3, rfl, HA, HK3, HO_7, HB⟩ := hrel
                cases gk with
                | zero => exact absurd HA.out (by simp [galoisref09_Mul.l1])
                | succ k3 =>
                  have H := HA.out
                  clear HA
                  simp only [galoisref09_Mul.l1] at H
                  by_cases c13 : x9_3 < (l2.length : Int)
                  · rw [if_pos c13] at H
                    have c13b0 : decide (x9_3 < (l2.length : Int)) = true := decide_eq_true c13
                    clear c13
                    obtain ⟨ji14, hji14⟩ : ∃ j_ : Int, (wrap64 (x8_2 + x9_3)) = j_ := ⟨_, rfl⟩
                    replace H : (if 0 ≤ (ji14) then (if (ji14) < (x7_3.length : Int) then (if 0 ≤ x8_2 then (if x8_2 < (l1.length : Int) then (if 0 ≤ x9_3 then (if a0 = 0 then (none) else (galoisref09_Mul.l1 k3 a0 l1 l2 (x7_3.set ((ji14) : Int).toNat (Int.tmod (wrap64 ((rd x7_3 (ji14)) + (wrap64 ((rd l1 x8_2) * (rd l2 x9_3))))) a0)) x8_2 (wrap64 (x9_3 + 1)))) else (none)) else (none)) else (none)) else (none)) else (none)) = some r := by first | (rw [hji14] at H; exact H) | (simp only [hji14] at H ⊢; exact H)
                    have hji14w : (IntKind.i64.wrap (x8_2 + x9_3)) = ji14 := (i64_w _).trans hji14
                    by_cases c15 : 0 ≤ (ji14)
                    · rw [if_pos c15] at H
                      have c15b0 : decide (0 ≤ (ji14)) = true := decide_eq_true c15
                      clear c15
                      by_cases c16 : (ji14) < (x7_3.length : Int)
                      · rw [if_pos c16] at H
                        have c16b0 : decide ((ji14) < (x7_3.length : Int)) = true := decide_eq_true c16
                        clear c16
                        by_cases c17 : 0 ≤ x8_2
                        · rw [if_pos c17] at H
                          have c17b0 : decide (0 ≤ x8_2) = true := decide_eq_true c17
                          clear c17
                          by_cases c18 : x8_2 < (l1.length : Int)
                          · rw [if_pos c18] at H
                            have c18b0 : decide (x8_2 < (l1.length : Int)) = true := decide_eq_true c18
                            clear c18
                            by_cases c19 : 0 ≤ x9_3
                            · rw [if_pos c19] at H
                              have c19b0 : decide (0 ≤ x9_3) = true := decide_eq_true c19
                              clear c19
                              by_cases c20 : a0 = 0
                              · rw [if_pos c20] at H
                                exact absurd H (by simp)
                              · rw [if_neg c20] at H
                                have c20b0 : (a0 == 0) = false := beq_eq_false_iff_ne.mpr c20
                                have c20b1 : (a0 != 0) = true := bne_iff_ne.mpr c20
                                obtain ⟨y404, hy404⟩ : ∃ y_ : List Int, y_ = (x7_3.set ((ji14) : Int).toNat (Int.tmod (wrap64 ((rd x7_3 (ji14)) + (wrap64 ((rd l1 x8_2) * (rd l2 x9_3))))) a0)) := ⟨_, rfl⟩
                                replace H : (galoisref09_Mul.l1 k3 a0 l1 l2 y404 x8_2 (wrap64 (x9_3 + 1))) = some r := by first | (rw [hy404]; with_reducible exact H) | (have H2_ := (Option.bind_some _ _).symm.trans H; rw [hy404]; with_reducible exact H2_) | (have H2_ := (Option.bind_some _ _).symm.trans H; with_reducible exact H2_) | with_reducible exact H | (rw [hy404]; exact H) | exact H
                                have Ny404 := ak hy404
                                clear hy404
                                as_aux_lemma =>
                                 have H' := ak H
                                 clear H
                                 try go_wp2
                                 have n0_ := ak (Kd.R_drew HO_7.out)
                                 have n1_ := ak (below_drew1 HB.out)
                                 clear HO_7
                                 clear HB
                                 have HO_7 := n0_
                                 have HB := n1_
                                 clear n0_ n1_
                                 obtain ⟨Ao23, co23, eo23⟩ := Kd.R_slice HO_7.out
                                 (first | subst eo23 | (injection eo23 with f1_ f2_ f3_; have f4_ := f1_.symm; have f5_ := f3_.symm; clear f1_ f2_ f3_; subst f4_; subst f5_))
                                 have p401 : 0 ≤ ((ji14) : Int) := of_decide_eq_true aX
                                 have q401 : (ji14) < (x7_3.length : Int) := of_decide_eq_true aX
                                 obtain ⟨ad401, e401, hx401_0⟩ := Kd.at_int (Kd.R_reads' HO_7.out).2.2 (ji14) p401 q401
                                 cases e401
                                 replace p401 := eq_true p401
                                 replace q401 := eq_true q401
                                 have p402 : 0 ≤ (x8_2 : Int) := of_decide_eq_true aX
                                 have q402 : x8_2 < (l1.length : Int) := of_decide_eq_true aX
                                 obtain ⟨ad402, e402, hx402_0⟩ := Kd.at_int HR1.out x8_2 p402 q402
                                 have hw402_0 := hx402_0
                                 cases e402
                                 replace hx402_0 := (HB.out.cell (World.block_lt_of_cell? w _ hx402_0)).trans hx402_0
                                 replace p402 := eq_true p402
                                 replace q402 := eq_true q402
                                 have p403 : 0 ≤ (x9_3 : Int) := of_decide_eq_true aX
                                 have q403 : x9_3 < (l2.length : Int) := of_decide_eq_true aX
                                 obtain ⟨ad403, e403, hx403_0⟩ := Kd.at_int HR2.out x9_3 p403 q403
                                 have hw403_0 := hx403_0
                                 cases e403
                                 replace hx403_0 := (HB.out.cell (World.block_lt_of_cell? w _ hx403_0)).trans hx403_0
                                 replace p403 := eq_true p403
                                 replace q403 := eq_true q403
                                 have p21 : 0 ≤ ((ji14) : Int) := of_decide_eq_true aX
                                 have q21 : ((ji14) : Int) < ((x7_3.length : Int) : Int) := of_decide_eq_true aX
                                 obtain ⟨go21, co21, eo21, gb21, gl21, cl21, HG21⟩ := Kd.R_form HO_7.out (by omega)
                                 (first | cases eo21 | (injection eo21 with ea_ en_ ec_; (first | subst ea_ | (injection ea_ with ea_; subst ea_)); subst ec_; clear en_))
                                 have GB21 := ak gb21
                                 have GG21 := ak HG21
                                 clear gb21 gl21 HG21
                                 (first | simp only [add_plain] at hx401_0 | skip)
                                 obtain ⟨hx21_0, hf21_0⟩ := Kd.R_celln 0 HO_7.out ((ji14) : Int) p21 q21
                                 replace p21 := eq_true p21
                                 replace q21 := eq_true q21
                                 have HP24 := Kd.R_putn HO_7.out ((ji14) : Int) (Int.tmod (wrap64 ((rd x7_3 (ji14)) + (wrap64 ((rd l1 x8_2) * (rd l2 x9_3))))) a0)
                                 rw [← Ny404.out] at HP24
                                 have HQ24 := ak HP24
                                 clear HP24
                                 refine start_ (n := 24) (S := fun w' => w'.cell? ⟨go21, ((ji14)).toNat, none⟩ = some (.int .i64 (rd x7_3 (ji14))) ∧ w'.cell? (ad402.add (x8_2).toNat) = some (.int .i64 (rd l1 x8_2)) ∧ w'.cell? (ad403.add (x9_3).toNat) = some (.int .i64 (rd l2 x9_3))) (ds := [23]) #[false, false, false, false, false, false, false, false, false, false, false, false, false, false, false, false, false, false, false, false, false, false, false, false] (by kernel_rfl) rfl rfl ⟨hx401_0, ((HB.out.cell (World.block_lt_of_cell? w _ hw402_0)).trans hw402_0), ((HB.out.cell (World.block_lt_of_cell? w _ hw403_0)).trans hw403_0)⟩ (fun hHeld => ?_); refine with_tabW galoisref09_Mul.tab10 galoisref09_Mul.bits10 (fun HT_ HW_ => ?_)
                                 generalize wr.drew = w22 at HO_7 HB GG21 HQ24 hf21_0 hx21_0 hx401_0 hx402_0 hx403_0 hHeld ⊢
                                 refine pure_ (i := 0) (N := some 37) (v := ?_) (a' := ?_) #[true, false, false, false, false, false, false, false, false, false, false, false, false, false, false, false, false, false, false, false, false, false, false, false] rfl rfl (any_of HT_.out (by kernel_rfl)) (fun _ _ _ h => h) (Or.inl ⟨by rfl, ?_⟩) ?_ ?_
                                 rotate_left
                                 · intro w'
                                   go_simp
                                   with_reducible rfl
                                 rotate_left
                                 · simp only [Act.put, sS, s0, s1, i64_w, i32_w]
                                   rfl
                                 refine pure_ (i := 1) (N := some 38) (v := ?_) (a' := ?_) #[true, true, false, false, false, false, false, false, false, false, false, false, false, false, false, false, false, false, false, false, false, false, false, false] rfl rfl (any_of HT_.out (by kernel_rfl)) (fun _ _ _ h => h) (Or.inl ⟨by rfl, ?_⟩) ?_ ?_
                                 rotate_left
                                 · intro w'
                                   go_simp
                                   with_reducible rfl
                                 rotate_left
                                 · simp only [Act.put, sS, s0, s1, i64_w, i32_w]
                                   rfl
                                 refine pure_ (i := 2) (N := some 39) (v := ?_) (a' := ?_) #[true, true, true, false, false, false, false, false, false, false, false, false, false, false, false, false, false, false, false, false, false, false, false, false] rfl rfl (any_of HT_.out (by kernel_rfl)) (fun _ _ _ h => h) (Or.inl ⟨by rfl, ?_⟩) ?_ ?_
                                 rotate_left
                                 · intro w'
                                   go_simp
                                   with_reducible rfl
                                 rotate_left
                                 · simp only [Act.put, sS, s0, s1, i64_w, i32_w]
                                   rfl
                                 refine pure_ (i := 3) (N := some 40) (v := ?_) (a' := ?_) #[true, true, true, true, false, false, false, false, false, false, false, false, false, false, false, false, false, false, false, false, false, false, false, false] rfl rfl (any_of HT_.out (by kernel_rfl)) (fun _ _ _ h => h) (Or.inl ⟨by rfl, ?_⟩) ?_ ?_
                                 rotate_left
                                 · intro w'
                                   go_simp
                                   with_reducible rfl
                                 rotate_left
                                 · simp only [Act.put, sS, s0, s1, i64_w, i32_w]
                                   rfl
                                 refine pure_ (i := 4) (N := some 41) (v := ?_) (a' := ?_) #[true, true, true, true, true, false, false, false, false, false, false, false, false, false, false, false, false, false, false, false, false, false, false, false] rfl rfl (any_of HT_.out (by kernel_rfl)) (fun _ _ _ h => h) (Or.inl ⟨by rfl, ?_⟩) ?_ ?_
                                 rotate_left
                                 · intro w'
                                   go_simp
                                   with_reducible rfl
                                 rotate_left
                                 · simp only [Act.put, sS, s0, s1, i64_w, i32_w]
                                   rfl
                                 refine pure_ (i := 5) (N := some 42) (v := ?_) (a' := ?_) #[true, true, true, true, true, true, false, false, false, false, false, false, false, false, false, false, false, false, false, false, false, false, false, false] rfl rfl (any_of HT_.out (by kernel_rfl)) (fun _ _ _ h => h) (Or.inl ⟨by rfl, ?_⟩) ?_ ?_
                                 rotate_left
                                 · intro w'
                                   go_simp
                                   with_reducible rfl
                                 rotate_left
                                 · simp only [Act.put, sS, s0, s1, i64_w, i32_w]
                                   rfl
                                 refine pure_ (i := 6) (N := some 43) (v := ?_) (a' := ?_) #[true, true, true, true, true, true, true, false, false, false, false, false, false, false, false, false, false, false, false, false, false, false, false, false] rfl rfl (any_of HT_.out (by kernel_rfl)) (fun _ _ _ h => h) (Or.inl ⟨by rfl, ?_⟩) ?_ ?_
                                 rotate_left
                                 · intro w'
                                   go_simp
                                   with_reducible rfl
                                 rotate_left
                                 · simp only [Act.put, sS, s0, s1, i64_w, i32_w]
                                   rfl
                                 refine pure_ (i := 7) (N := some 44) (v := ?_) (a' := ?_) #[true, true, true, true, true, true, true, true, false, false, false, false, false, false, false, false, false, false, false, false, false, false, false, false] rfl rfl (any_of HT_.out (by kernel_rfl)) (fun _ _ _ h => h) (Or.inl ⟨by rfl, ?_⟩) ?_ ?_
                                 rotate_left
                                 · intro w'
                                   go_simp
                                   with_reducible rfl
                                 rotate_left
                                 · simp only [Act.put, sS, s0, s1, i64_w, i32_w]
                                   rfl
                                 refine pure_ (i := 8) (N := some 45) (v := ?_) (a' := ?_) #[true, true, true, true, true, true, true, true, true, false, false, false, false, false, false, false, false, false, false, false, false, false, false, false] rfl rfl (any_of HT_.out (by kernel_rfl)) (fun _ _ _ h => h) (Or.inl ⟨by rfl, ?_⟩) ?_ ?_
                                 rotate_left
                                 · intro w'
                                   go_simp
                                   with_reducible rfl
                                 rotate_left
                                 · simp only [Act.put, sS, s0, s1, i64_w, i32_w]
                                   rfl
                                 refine pure_ (i := 10) (N := some 47) (v := ?_) (a' := ?_) #[true, true, true, true, true, true, true, true, true, false, true, false, false, false, false, false, false, false, false, false, false, false, false, false] rfl rfl (any_of HT_.out (by kernel_rfl)) (fun _ _ _ h => h) (Or.inl ⟨by rfl, ?_⟩) ?_ ?_
                                 rotate_left
                                 · intro w'
                                   go_simp
                                   with_reducible rfl
                                 rotate_left
                                 · simp only [Act.put, sS, s0, s1, i64_w, i32_w]
                                   rfl
                                 refine pure_ (i := 11) (N := some 48) (v := ?_) (a' := ?_) #[true, true, true, true, true, true, true, true, true, false, true, true, false, false, false, false, false, false, false, false, false, false, false, false] rfl rfl (any_of HT_.out (by kernel_rfl)) (fun _ _ _ h => h) (Or.inl ⟨by rfl, ?_⟩) ?_ ?_
                                 rotate_left
                                 · intro w'
                                   go_simp
                                   with_reducible rfl
                                 rotate_left
                                 · simp only [Act.put, sS, s0, s1, i64_w, i32_w]
                                   rfl
                                 refine pure_ (i := 12) (N := some 49) (v := ?_) (a' := ?_) #[true, true, true, true, true, true, true, true, true, false, true, true, true, false, false, false, false, false, false, false, false, false, false, false] rfl rfl (any_of HT_.out (by kernel_rfl)) (fun _ _ _ h => h) (Or.inl ⟨by rfl, ?_⟩) ?_ ?_
                                 rotate_left
                                 · intro w'
                                   go_simp
                                   with_reducible rfl
                                 rotate_left
                                 · simp only [Act.put, sS, s0, s1, i64_w, i32_w]
                                   rfl
                                 refine pure_ (i := 14) (N := some 51) (v := ?_) (a' := ?_) #[true, true, true, true, true, true, true, true, true, false, true, true, true, false, true, false, false, false, false, false, false, false, false, false] rfl rfl (any_of HT_.out (by kernel_rfl)) (fun _ _ _ h => h) (Or.inl ⟨by rfl, ?_⟩) ?_ ?_
                                 rotate_left
                                 · intro w'
                                   go_simp
                                   with_reducible rfl
                                 rotate_left
                                 · simp only [Act.put, sS, s0, s1, i64_w, i32_w]
                                   rfl
                                 refine pure_ (i := 15) (N := some 52) (v := ?_) (a' := ?_) #[true, true, true, true, true, true, true, true, true, false, true, true, true, false, true, true, false, false, false, false, false, false, false, false] rfl rfl (any_of HT_.out (by kernel_rfl)) (fun _ _ _ h => h) (Or.inl ⟨by rfl, ?_⟩) ?_ ?_
                                 rotate_left
                                 · intro w'
                                   go_simp
                                   with_reducible rfl
                                 rotate_left
                                 · simp only [Act.put, sS, s0, s1, i64_w, i32_w]
                                   rfl
                                 refine pure_ (i := 16) (N := some 53) (v := ?_) (a' := ?_) #[true, true, true, true, true, true, true, true, true, false, true, true, true, false, true, true, true, false, false, false, false, false, false, false] rfl rfl (any_of HT_.out (by kernel_rfl)) (fun _ _ _ h => h) (Or.inl ⟨by rfl, ?_⟩) ?_ ?_
                                 rotate_left
                                 · intro w'
                                   go_simp
                                   with_reducible rfl
                                 rotate_left
                                 · simp only [Act.put, sS, s0, s1, i64_w, i32_w]
                                   rfl
                                 refine pure_ (i := 20) (N := some 57) (v := ?_) (a' := ?_) #[true, true, true, true, true, true, true, true, true, false, true, true, true, false, true, true, true, false, false, false, true, false, false, false] rfl rfl (any_of HT_.out (by kernel_rfl)) (fun _ _ _ h => h) (Or.inl ⟨by rfl, ?_⟩) ?_ ?_
                                 rotate_left
                                 · intro w'
                                   go_simp
                                   with_reducible rfl
                                 rotate_left
                                 · simp only [Act.put, sS, s0, s1, i64_w, i32_w]
                                   rfl
                                 refine take_ (i := 9) (N := some 46) (v := ?_) (a' := ?_) #[true, true, true, true, true, true, true, true, true, true, true, true, true, false, true, true, true, false, false, false, true, false, false, false] rfl rfl (take_ofW HT_.out HW_.out (by kernel_rfl)) (fun _ _ _ h => h) (Or.inl ⟨by rfl, ?_⟩) hHeld ?_ ?_
                                 rotate_left
                                 · rintro w' ⟨s0, s1, s2⟩
                                   go_simp
                                   with_reducible rfl
                                 rotate_left
                                 · simp only [Act.put, sS, s0, s1, i64_w, i32_w]
                                   rfl
                                 refine take_ (i := 13) (N := some 50) (v := ?_) (a' := ?_) #[true, true, true, true, true, true, true, true, true, true, true, true, true, true, true, true, true, false, false, false, true, false, false, false] rfl rfl (take_ofW HT_.out HW_.out (by kernel_rfl)) (fun _ _ _ h => h) (Or.inl ⟨by rfl, ?_⟩) hHeld ?_ ?_
                                 rotate_left
                                 · rintro w' ⟨s0, s1, s2⟩
                                   go_simp
                                   with_reducible rfl
                                 rotate_left
                                 · simp only [Act.put, sS, s0, s1, i64_w, i32_w]
                                   rfl
                                 refine take_ (i := 17) (N := some 54) (v := ?_) (a' := ?_) #[true, true, true, true, true, true, true, true, true, true, true, true, true, true, true, true, true, true, false, false, true, false, false, false] rfl rfl (take_ofW HT_.out HW_.out (by kernel_rfl)) (fun _ _ _ h => h) (Or.inl ⟨by rfl, ?_⟩) hHeld ?_ ?_
                                 rotate_left
                                 · rintro w' ⟨s0, s1, s2⟩
                                   go_simp
                                   with_reducible rfl
                                 rotate_left
                                 · simp only [Act.put, sS, s0, s1, i64_w, i32_w]
                                   rfl
                                 refine pure_ (i := 18) (N := some 55) (v := ?_) (a' := ?_) #[true, true, true, true, true, true, true, true, true, true, true, true, true, true, true, true, true, true, true, false, true, false, false, false] rfl rfl (any_of HT_.out (by kernel_rfl)) (fun _ _ _ h => h) (Or.inl ⟨by rfl, ?_⟩) ?_ ?_
                                 rotate_left
                                 · intro w'
                                   go_simp
                                   with_reducible rfl
                                 rotate_left
                                 · simp only [Act.put, sS, s0, s1, i64_w, i32_w]
                                   rfl
                                 refine pure_ (i := 19) (N := some 56) (v := ?_) (a' := ?_) #[true, true, true, true, true, true, true, true, true, true, true, true, true, true, true, true, true, true, true, true, true, false, false, false] rfl rfl (any_of HT_.out (by kernel_rfl)) (fun _ _ _ h => h) (Or.inl ⟨by rfl, ?_⟩) ?_ ?_
                                 rotate_left
                                 · intro w'
                                   go_simp
                                   with_reducible rfl
                                 rotate_left
                                 · simp only [Act.put, sS, s0, s1, i64_w, i32_w]
                                   rfl
                                 refine pure_ (i := 21) (N := some 58) (v := ?_) (a' := ?_) #[true, true, true, true, true, true, true, true, true, true, true, true, true, true, true, true, true, true, true, true, true, true, false, false] rfl rfl (any_of HT_.out (by kernel_rfl)) (fun _ _ _ h => h) (Or.inl ⟨by rfl, ?_⟩) ?_ ?_
                                 rotate_left
                                 · intro w'
                                   go_simp
                                   with_reducible rfl
                                 rotate_left
                                 · simp only [Act.put, sS, s0, s1, i64_w, i32_w]
                                   rfl
                                 refine pure_ (i := 22) (N := some 59) (v := ?_) (a' := ?_) #[true, true, true, true, true, true, true, true, true, true, true, true, true, true, true, true, true, true, true, true, true, true, true, false] rfl rfl (any_of HT_.out (by kernel_rfl)) (fun _ _ _ h => h) (Or.inl ⟨by rfl, ?_⟩) ?_ ?_
                                 rotate_left
                                 · intro w'
                                   go_simp
                                   with_reducible rfl
                                 rotate_left
                                 · simp only [Act.put, sS, s0, s1, i64_w, i32_w]
                                   rfl
                                 refine last_ (i := 23) (N := none) #[true, true, true, true, true, true, true, true, true, true, true, true, true, true, true, true, true, true, true, true, true, true, true, true] rfl rfl (one_of HT_.out (by kernel_rfl)) (by decide) (fun K hK => ?_)
                                 refine skip_ (w1 := ?_) (by rfl) rfl ?_ ?_
                                 rotate_left
                                 · go_simp
                                   rfl
                                 refine hK.out _ _ ?_
                                 clear hK K
                                 refine done_ (done_of HT_.out (by kernel_rfl)) ?_
                                 try go_wp2
                                 (first | go_roundg k3 | (refine Handed.intro k3 ?measure ?_; rotate_left; go_step; (repeat rw [add_plain]); (repeat apply Exists.intro); refine ⟨?rel, rfl⟩))
                                 case measure => have := HJ3.out; have := HK2.out; have := HK3.out; omega
                                 case rel => exact ⟨(y404), (wrap64 (x9_3 + 1)), (by first | rfl | (simp; done) | (simp [*]; done)), H', ⟨by have := HJ3.out; have := HK2.out; have := HK3.out; omega⟩, ⟨by (with_reducible repeat (first | apply Kd.R_alloc | apply Kd.R_drewN | apply Kd.R_drew)); exact HQ24.out⟩, ⟨by repeat (first | (with_reducible first | exact HB.out | apply bA | apply bB | apply bC | refine below_set ?_ GB21.out) | exact HB.out)⟩⟩
                            · rw [if_neg c19] at H
                              exact absurd H (by simp)
                          · rw [if_neg c18] at H
                            exact absurd H (by simp)
                        · rw [if_neg c17] at H
                          exact absurd H (by simp)
                      · rw [if_neg c16] at H
                        exact absurd H (by simp)
                    · rw [if_neg c15] at H
                      exact absurd H (by simp)
                  · rw [if_neg c13] at H
                    have c13b0 : decide (x9_3 < (l2.length : Int)) = false := decide_eq_false c13
                    clear c13
                    as_aux_lemma =>
                     have H' := ak H
                     clear H
                     go_wp2
                     (first | go_roundg k3 | (refine Handed.intro k3 ?measure ?_; rotate_left; go_step; (repeat rw [add_plain]); (repeat apply Exists.intro); refine ⟨?rel, rfl⟩))
                     case measure => have := HJ3.out; have := HK2.out; have := HK3.out; omega
                     case rel => exact ⟨(x7_3), (wrap64 (x8_2 + 1)), (by first | rfl | (simp; done) | (simp [*]; done)), H', ⟨by have := HJ3.out; have := HK2.out; have := HK3.out; omega⟩, ⟨by (with_reducible repeat (first | apply Kd.R_alloc | apply Kd.R_drewN | apply Kd.R_drew)); exact HO_7.out⟩, ⟨by repeat (first | (with_reducible first | exact HB.out | apply bA | apply bB | apply bC) | exact HB.out)⟩⟩
             · rw [if_neg c12] at H
               have c12b0 : decide (x8_2 < (l1.length : Int)) = false := decide_eq_false c12
               clear c12
               replace H := Option.bind_eq_some_iff.mp H
               obtain ⟨t398, A250, H⟩ := H
               replace H : (some t398) = some r := H
               have A25 := ak A250
               clear A250
               as_aux_lemma =>
                obtain rfl := Option.some.inj H
                obtain ⟨Ao26, co26, eo26⟩ := Kd.R_slice HO_7.out
                subst eo26
                go_wp2_with (first | ((with_reducible refine gate_callee (f := 40) rfl ?_); refine goesL_ (some 61) rfl rfl Try.func40 (by kernel_rfl) rfl #[.slice Ao26 x7_2.length co26] rfl mX ?_; (with_reducible refine (galoisref09_Trim.calls k2 (fun k_ => some k_ = (.slice Ao26 x7_2.length co26 : Value).ownBlock) _ _ x7_2 t398 _ ?side1 A25.out).mono ?_); (case side1 => exact Kd.R_V (Kd.R_tight rfl (HO_7.out))); rintro e w27 ⟨v399, rfl, ho0, hb⟩; refine ⟨_, rfl, ?_⟩; have n0_ := ak (Kd.R_below (rX HO_7.out) hb); have n1_ := ak (Kd.V_lower (Kd.V_mono (ok' := fun k_ => (w.heap.size ≤ k_)) ho0 (fun k_ hk_ => Or.elim hk_ (fun hs_ => ((HO_7.out).1 k_ hs_.symm)) (fun hn_ => (Nat.le_trans (below_size bX) hn_)))) (below_size bX)); have n2_ := ak (below_step bX hb); clear HO_7; clear HB; have HO_7 := n0_; have HO400 := n1_; have HB := n2_; clear n0_ n1_ n2_; (try clear hb); (try clear hb2); (try clear hk); (try clear hi); (try clear ho0)))
                go_ret
                exact ⟨_, by first | rfl | (simp [errW_none, errW_some] <;> rfl) | (simp only [← hji7]; first | rfl | (simp [errW_none, errW_some] <;> rfl)) | (simp [*, errW_none, errW_some] <;> rfl), by (with_reducible repeat (first | apply vA | apply vB | apply vC)); exact HO400.out, by repeat (first | (with_reducible first | exact HB.out | apply bA | apply bB | apply bC) | exact HB.out)⟩
        · rw [if_neg c9] at H
          exact absurd H (by simp)
      · rw [if_neg c8] at H
        exact absurd H (by simp)

/-! ### galoisref09_MulMod: function 79 -/
def galoisref09_MulMod.f (k : Nat) (a0 : Int) (l1 : List Int) (l2 : List Int) (l3 : List Int) : Option (List Int) := (galoisref09_Mul.f k a0 l1 l2).bind fun t405 => ((galoisref09_Mod.f k a0 t405 l3).bind fun t408 => (some t408))
theorem galoisref09_MulMod.mono : ∀ a0 a1 a2 a3 k, LeO (galoisref09_MulMod.f k a0 a1 a2 a3) (galoisref09_MulMod.f (k + 1) a0 a1 a2 a3) := by
 intro a0 a1 a2 a3 k
 unfold galoisref09_MulMod.f
 repeat' first
  | (with_reducible apply galoisref09_Mod.mono)
  | (with_reducible apply galoisref09_Mul.mono)
  | (with_reducible apply LeO.refl)
  | (with_reducible apply LeO.none)
  | (with_reducible refine LeO.ite ?_ ?_)
  | (with_reducible refine LeO.bind ?_ (fun _ => ?_))
set_option maxHeartbeats 8000000 in
set_option maxRecDepth 100000 in
theorem galoisref09_MulMod.calls (k : Nat) (a0 : Int) (A1 : Option Addr) (c1 : Nat) (l1 : List Int) (A2 : Option Addr) (c2 : Nat) (l2 : List Int) (A3 : Option Addr) (c3 : Nat) (l3 : List Int) (r : List Int) (w : World) (hr1 : Kd.C (Kd.int .i64) w A1 l1.length l1) (hc1 : l1.length ≤ c1) (hr2 : Kd.C (Kd.int .i64) w A2 l2.length l2) (hc2 : l2.length ≤ c2) (hr3 : Kd.C (Kd.int .i64) w A3 l3.length l3) (hc3 : l3.length ≤ c3) (h : galoisref09_MulMod.f k a0 l1 l2 l3 = some r) :
 Calls Try.prog 79 #[.int .i64 a0, .slice A1 l1.length c1, .slice A2 l2.length c2, .slice A3 l3.length c3] w fun e w' => ∃ v0_ : Value, e = .returned (v0_) ∧ Kd.V (Kd.int .i64) 3 w' w.heap.size (fun k_ => (w.heap.size ≤ k_)) v0_ r ∧ Below w.heap.size w w' := by
 have HR1 := ak hr1
 have HC1 := ak hc1
 clear hr1 hc1
 have HR2 := ak hr2
 have HC2 := ak hc2
 clear hr2 hc2
 have HR3 := ak hr3
 have HC3 := ak hc3
 clear hr3 hc3
 have HB := ak (Below.refl w.heap.size w)
 have H : ((galoisref09_Mul.f k a0 l1 l2).bind fun t405 => ((galoisref09_Mod.f k a0 t405 l3).bind fun t408 => (some t408))) = some r := h
 clear h
 replace H := Option.bind_eq_some_iff.mp H
 obtain ⟨t405, A50, H⟩ := H
 replace H : ((galoisref09_Mod.f k a0 t405 l3).bind fun t408 => (some t408)) = some r := H
 have A5 := ak A50
 clear A50
 replace H := Option.bind_eq_some_iff.mp H
 obtain ⟨t408, A60, H⟩ := H
 replace H : (some t408) = some r := H
 have A6 := ak A60
 clear A60
 as_aux_lemma =>
  obtain rfl := Option.some.inj H
  go_enter Try.func79, Try.ntmps79
  go_wp2_with (first | ((with_reducible refine gate_callee (f := 52) rfl ?_); refine goesL_ (some 13) rfl rfl Try.func52 (by kernel_rfl) rfl #[.int .i64 a0, .slice A1 l1.length c1, .slice A2 l2.length c2] rfl mX ?_; (with_reducible refine (galoisref09_Mul.calls k a0 _ _ l1 _ _ l2 t405 _ ?side1 ?side2 ?side3 ?side4 A5.out).mono ?_); (case side1 => repeat (first | exact HR1.out | (with_reducible first | apply cA | apply cB | apply cC))); (case side2 => exact HC1.out); (case side3 => repeat (first | exact HR2.out | (with_reducible first | apply cA | apply cB | apply cC))); (case side4 => exact HC2.out); rintro e w7 ⟨v406, rfl, ho0, hb⟩; refine ⟨_, rfl, ?_⟩; have n0_ := ak (Kd.V_lower (Kd.V_mono (ok' := fun k_ => (w.heap.size ≤ k_)) ho0 (fun k_ hk_ => (Nat.le_trans (below_size bX) hk_))) (below_size bX)); have n1_ := ak (below_step bX hb); clear HB; have HO407 := n0_; have HB := n1_; clear n0_ n1_; (try clear hb); (try clear hb2); (try clear hk); (try clear hi); (try clear ho0); obtain ⟨Ao8, co8, eo8⟩ := Kd.V_slice HO407.out; subst eo8) | ((with_reducible refine gate_callee (f := 62) rfl ?_); refine goesL_ (some 15) rfl rfl Try.func62 (by kernel_rfl) rfl #[.int .i64 a0, .slice Ao8 t405.length co8, .slice A3 l3.length c3] rfl mX ?_; (with_reducible refine (galoisref09_Mod.calls k a0 _ _ t405 _ _ l3 t408 _ ?side1 ?side2 ?side3 ?side4 A6.out).mono ?_); (case side1 => exact cX (Kd.V_reads' HO407.out).2.2); (case side2 => exact (Kd.V_reads' HO407.out).2.1); (case side3 => exact cX (Kd.C_below HR3.out HB.out)); (case side4 => exact HC3.out); rintro e w9 ⟨v409, rfl, ho0, hb⟩; refine ⟨_, rfl, ?_⟩; have n0_ := ak (Kd.V_below (vX HO407.out) hb); have n1_ := ak (Kd.V_lower (Kd.V_mono (ok' := fun k_ => (w.heap.size ≤ k_)) ho0 (fun k_ hk_ => (Nat.le_trans (below_size bX) hk_))) (below_size bX)); have n2_ := ak (below_step bX hb); clear HO407; clear HB; have HO407 := n0_; have HO410 := n1_; have HB := n2_; clear n0_ n1_ n2_; (try clear hb); (try clear hb2); (try clear hk); (try clear hi); (try clear ho0)))
  go_ret
  exact ⟨_, by first | rfl | (simp [errW_none, errW_some] <;> rfl) | (simp [*, errW_none, errW_some] <;> rfl), by (with_reducible repeat (first | apply vA | apply vB | apply vC)); exact HO410.out, by repeat (first | (with_reducible first | exact HB.out | apply bA | apply bB | apply bC) | exact HB.out)⟩

/-! ### galoisref09_PowMod: function 28 -/
mutual
def galoisref09_PowMod.l0 : Nat → Int → List Int → ByteArray → List Int → List Int → Int → Option (List Int)
 | 0, _, _, _, _, _, _ => none
 | k + 1, x0, x1, x2, x3, x9, x10 => if x10 < (x2.size : Int) then (galoisref09_PowMod.l1 k x0 x1 x2 x3 x9 x10 7) else (some x9)
def galoisref09_PowMod.l1 : Nat → Int → List Int → ByteArray → List Int → List Int → Int → Int → Option (List Int)
 | 0, _, _, _, _, _, _, _ => none
 | k + 1, x0, x1, x2, x3, x9, x10, x11 => if x11 ≥ 0 then ((galoisref09_MulMod.f k x0 x9 x9 x3).bind fun t420 => (if 0 ≤ x10 then (if x10 < (x2.size : Int) then (if 0 ≤ x11 then (if (Int.tmod (shr .u8 (bt x2 x10) x11) 2) = 1 then ((galoisref09_MulMod.f k x0 t420 x1 x3).bind fun t423 => (galoisref09_PowMod.l1 k x0 x1 x2 x3 t423 x10 (wrap64 (x11 - 1)))) else (galoisref09_PowMod.l1 k x0 x1 x2 x3 t420 x10 (wrap64 (x11 - 1)))) else (none)) else (none)) else (none))) else (galoisref09_PowMod.l0 k x0 x1 x2 x3 x9 (wrap64 (x10 + 1)))
end
def galoisref09_PowMod.f (k : Nat) (a0 : Int) (l1 : List Int) (a2 : ByteArray) (l3 : List Int) : Option (List Int) := (galoisref09_Mod.f k a0 (([1] : List Int)) l3).bind fun t414 => ((galoisref09_Mod.f k a0 l1 l3).bind fun t417 => (galoisref09_PowMod.l0 k a0 t417 a2 l3 t414 0))
theorem galoisref09_PowMod.mono_l : ∀ k, (∀ y0 y1 y2 y3 y4 y5, LeO (galoisref09_PowMod.l0 k y0 y1 y2 y3 y4 y5) (galoisref09_PowMod.l0 (k + 1) y0 y1 y2 y3 y4 y5)) ∧ (∀ y0 y1 y2 y3 y4 y5 y6, LeO (galoisref09_PowMod.l1 k y0 y1 y2 y3 y4 y5 y6) (galoisref09_PowMod.l1 (k + 1) y0 y1 y2 y3 y4 y5 y6))
 | 0 => ⟨fun _ _ _ _ _ _ r h => by simp [galoisref09_PowMod.l0] at h, fun _ _ _ _ _ _ _ r h => by simp [galoisref09_PowMod.l1] at h⟩
 | k + 1 => by
   obtain ⟨ih0, ih1⟩ := galoisref09_PowMod.mono_l k
   refine ⟨?_, ?_⟩
   · intro y0 y1 y2 y3 y4 y5
     unfold galoisref09_PowMod.l0
     repeat' first
     | (with_reducible apply ih0)
     | (with_reducible apply ih1)
     | (with_reducible apply galoisref09_Mod.mono)
     | (with_reducible apply galoisref09_MulMod.mono)
     | (with_reducible apply LeO.refl)
     | (with_reducible apply LeO.none)
     | (with_reducible refine LeO.ite ?_ ?_)
     | (with_reducible refine LeO.bind ?_ (fun _ => ?_))
   · intro y0 y1 y2 y3 y4 y5 y6
     unfold galoisref09_PowMod.l1
     repeat' first
     | (with_reducible apply ih0)
     | (with_reducible apply ih1)
     | (with_reducible apply galoisref09_Mod.mono)
     | (with_reducible apply galoisref09_MulMod.mono)
     | (with_reducible apply LeO.refl)
     | (with_reducible apply LeO.none)
     | (with_reducible refine LeO.ite ?_ ?_)
     | (with_reducible refine LeO.bind ?_ (fun _ => ?_))
theorem galoisref09_PowMod.mono : ∀ a0 a1 a2 a3 k, LeO (galoisref09_PowMod.f k a0 a1 a2 a3) (galoisref09_PowMod.f (k + 1) a0 a1 a2 a3) := by
 intro a0 a1 a2 a3 k
 obtain ⟨ih0, ih1⟩ := galoisref09_PowMod.mono_l k
 unfold galoisref09_PowMod.f
 repeat' first
  | (with_reducible apply ih0)
  | (with_reducible apply ih1)
  | (with_reducible apply galoisref09_Mod.mono)
  | (with_reducible apply galoisref09_MulMod.mono)
  | (with_reducible apply LeO.refl)
  | (with_reducible apply LeO.none)
  | (with_reducible refine LeO.ite ?_ ?_)
  | (with_reducible refine LeO.bind ?_ (fun _ => ?_))
set_option maxHeartbeats 8000000 in
set_option maxRecDepth 100000 in
theorem galoisref09_PowMod.calls (k : Nat) (a0 : Int) (A1 : Option Addr) (c1 : Nat) (l1 : List Int) (a2 : ByteArray) (A3 : Option Addr) (c3 : Nat) (l3 : List Int) (r : List Int) (w : World) (hr1 : Kd.C (Kd.int .i64) w A1 l1.length l1) (hc1 : l1.length ≤ c1) (hr3 : Kd.C (Kd.int .i64) w A3 l3.length l3) (hc3 : l3.length ≤ c3) (h : galoisref09_PowMod.f k a0 l1 a2 l3 = some r) :
 Calls Try.prog 28 #[.int .i64 a0, .slice A1 l1.length c1, .string a2, .slice A3 l3.length c3] w fun e w' => ∃ v0_ : Value, e = .returned (v0_) ∧ Kd.V (Kd.int .i64) 3 w' w.heap.size (fun k_ => (w.heap.size ≤ k_)) v0_ r ∧ Below w.heap.size w w' := by
 have HR1 := ak hr1
 have HC1 := ak hc1
 clear hr1 hc1
 have HR3 := ak hr3
 have HC3 := ak hc3
 clear hr3 hc3
 have HB := ak (Below.refl w.heap.size w)
 have H : ((galoisref09_Mod.f k a0 (([1] : List Int)) l3).bind fun t414 => ((galoisref09_Mod.f k a0 l1 l3).bind fun t417 => (galoisref09_PowMod.l0 k a0 t417 a2 l3 t414 0))) = some r := h
 clear h
 obtain ⟨y411, hy411⟩ : ∃ y_ : List Int, y_ = (([1] : List Int)) := ⟨_, rfl⟩
 replace H : ((galoisref09_Mod.f k a0 y411 l3).bind fun t414 => ((galoisref09_Mod.f k a0 l1 l3).bind fun t417 => (galoisref09_PowMod.l0 k a0 t417 a2 l3 t414 0))) = some r := by first | (rw [hy411]; with_reducible exact H) | (have H2_ := (Option.bind_some _ _).symm.trans H; rw [hy411]; with_reducible exact H2_) | (have H2_ := (Option.bind_some _ _).symm.trans H; with_reducible exact H2_) | with_reducible exact H | (rw [hy411]; exact H) | exact H
 have Ny411 := ak hy411
 clear hy411
 replace H := Option.bind_eq_some_iff.mp H
 obtain ⟨t414, A50, H⟩ := H
 replace H : ((galoisref09_Mod.f k a0 l1 l3).bind fun t417 => (galoisref09_PowMod.l0 k a0 t417 a2 l3 t414 0)) = some r := H
 have A5 := ak A50
 clear A50
 replace H := Option.bind_eq_some_iff.mp H
 obtain ⟨t417, A60, H⟩ := H
 replace H : (galoisref09_PowMod.l0 k a0 t417 a2 l3 t414 0) = some r := H
 have A6 := ak A60
 clear A60
 have H' := ak H
 clear H
 go_enter Try.func28, Try.ntmps28
 go_wp2_with (first | ((with_reducible refine gate_dst (N := 13) rfl ?_); refine Kd.R_lit (Kd.int .i64) _ 3 ?hg (N := 13) ?hd (xs := ([1] : List Int)) (inner := [.int .i64 1]) (ok := fun _ => True) (okp := fun _ => True) ?hr ?hp (fun _ hk => hk) trivial (Below.refl _ _) (Nat.le_refl _) (by simp) ?_; (case hd => rfl); (case hg => rfl); (case hr => first | (go_simp; done) | (go_simp; rfl)); (case hp => exact (Reps.one (show Kd.M (Kd.int .i64) _ _ _ 1 [.int .i64 1] from rfl) (Reps.none _ _))); intro v412 w7 ho8 hb hg_ hnew_; clear hg_ hnew_; (first | rw [← Ny411.out] at ho8 | (simp only [Int.reduceToNat] at ho8; rw [← Ny411.out] at ho8)); have n0_ := ak (Kd.R_lower (Kd.R_newM (M := fun k_ => (w.heap.size ≤ k_)) ho8 (below_size bX) (fun k_ h_ => h_)) (below_size bX)); have n1_ := ak (below_step bX hb); clear HB; have HO413 := n0_; have HB := n1_; clear n0_ n1_; clear hb ho8; obtain ⟨Ao9, co9, eo9⟩ := Kd.R_slice HO413.out; subst eo9) | ((with_reducible refine gate_callee (f := 62) rfl ?_); refine goesL_ (some 15) rfl rfl Try.func62 (by kernel_rfl) rfl #[.int .i64 a0, .slice Ao9 y411.length co9, .slice A3 l3.length c3] rfl mX ?_; (with_reducible refine (galoisref09_Mod.calls k a0 _ _ y411 _ _ l3 t414 _ ?side1 ?side2 ?side3 ?side4 A5.out).mono ?_); (case side1 => exact cX (Kd.R_reads' HO413.out).2.2); (case side2 => exact (Kd.R_reads' HO413.out).2.1); (case side3 => exact cX (Kd.C_below HR3.out HB.out)); (case side4 => exact HC3.out); rintro e w10 ⟨v415, rfl, ho0, hb⟩; refine ⟨_, rfl, ?_⟩; have n0_ := ak (Kd.R_below (rX HO413.out) hb); have n1_ := ak (Kd.V_lower (Kd.V_mono (ok' := fun k_ => (w.heap.size ≤ k_) ∧ some k_ ≠ (.slice Ao9 y411.length co9 : Value).ownBlock) ho0 (fun k_ hk_ => ⟨(Nat.le_trans (below_size bX) hk_), (Kd.fresh' (Kd.R_lt (rX HO413.out)) k_ hk_)⟩)) (below_size bX)); have n2_ := ak (below_step bX hb); clear HO413; clear HB; have HO413 := n0_; have HO416 := n1_; have HB := n2_; clear n0_ n1_ n2_; (try clear hb); (try clear hb2); (try clear hk); (try clear hi); (try clear ho0)) | ((with_reducible refine gate_callee (f := 62) rfl ?_); refine goesL_ (some 19) rfl rfl Try.func62 (by kernel_rfl) rfl #[.int .i64 a0, .slice A1 l1.length c1, .slice A3 l3.length c3] rfl mX ?_; (with_reducible refine (galoisref09_Mod.calls k a0 _ _ l1 _ _ l3 t417 _ ?side1 ?side2 ?side3 ?side4 A6.out).mono ?_); (case side1 => exact cX (Kd.C_below HR1.out HB.out)); (case side2 => exact HC1.out); (case side3 => exact cX (Kd.C_below HR3.out HB.out)); (case side4 => exact HC3.out); rintro e w11 ⟨v418, rfl, ho0, hb⟩; refine ⟨_, rfl, ?_⟩; have n0_ := ak (Kd.R_below (rX HO413.out) hb); have n1_ := ak (Kd.V_below (vX HO416.out) hb); have n2_ := ak (Kd.V_lower (Kd.V_mono (ok' := fun k_ => (w.heap.size ≤ k_) ∧ some k_ ≠ (.slice Ao9 y411.length co9 : Value).ownBlock) ho0 (fun k_ hk_ => ⟨(Nat.le_trans (below_size bX) hk_), (Kd.fresh' (Kd.R_lt (rX HO413.out)) k_ hk_)⟩)) (below_size bX)); have n3_ := ak (below_step bX hb); clear HO413; clear HO416; clear HB; have HO413 := n0_; have HO416 := n1_; have HO419 := n2_; have HB := n3_; clear n0_ n1_ n2_ n3_; (try clear hb); (try clear hb2); (try clear hk); (try clear hi); (try clear ho0)))
 go_loopg [9, 10] k (fun kq v9 v10 w' => ∃ (x9_1 : List Int) (x10_1 : Int), v10 = .int .i64 x10_1 ∧ Aside0 (galoisref09_PowMod.l0 kq a0 t417 a2 l3 x9_1 x10_1 = some r) ∧ Aside0 (kq ≤ k) ∧ Aside0 (Kd.V (Kd.int .i64) 3 w' w.heap.size (fun k_ => (w.heap.size ≤ k_)) v418 t417) ∧ Aside0 (Kd.V (Kd.int .i64) 3 w' w.heap.size (fun k_ => (w.heap.size ≤ k_)) v9 x9_1) ∧ Aside0 (Below w.heap.size w w'))
 case atStart => exact ⟨(t414), (0), (by first | rfl | (simp; done) | (simp [*]; done)), H', ⟨Nat.le_refl _⟩, ⟨by (with_reducible repeat (first | apply vA | apply vB | apply vC)); exact Kd.V_mono HO419.out (fun _ hk => hk.1)⟩, ⟨by (with_reducible repeat (first | apply vA | apply vB | apply vC)); exact Kd.V_mono HO416.out (fun _ hk => hk.1)⟩, ⟨by repeat (first | (with_reducible first | exact HB.out | apply bA | apply bB | apply bC) | exact HB.out)⟩⟩
 case round =>
  clear H'
  try clear c1
  try clear c2
  try clear p2
  try clear c3
  try clear c6
  obtain ⟨x9_1, x10_1, rfl, HA, HK1, HO_1, HO_9, HB⟩ := hrel
  cases gk with
  | zero => exact absurd HA.out (by simp [galoisref09_PowMod.l0])
  | succ k1 =>
    have H := HA.out
    clear HA
    simp only [galoisref09_PowMod.l0] at H
    by_cases c12 : x10_1 < (a2.size : Int)
    · rw [if_pos c12] at H
      have c12b0 : decide (x10_1 < (a2.size : Int)) = true := decide_eq_true c12
      clear c12
      have H' := ak H
      clear H
      go_wp2
      go_loopg [9, 11] k1 (fun kq v9 v11 w' => ∃ (x9_2 : List Int) (x11_2 : Int), v11 = .int .i64 x11_2 ∧ Aside0 (galoisref09_PowMod.l1 kq a0 t417 a2 l3 x9_2 x10_1 x11_2 = some r) ∧ Aside0 (kq ≤ k1) ∧ Aside0 (Kd.V (Kd.int .i64) 3 w' w.heap.size (fun k_ => (w.heap.size ≤ k_)) v418 t417) ∧ Aside0 (Kd.V (Kd.int .i64) 3 w' w.heap.size (fun k_ => (w.heap.size ≤ k_)) v9 x9_2) ∧ Aside0 (Below w.heap.size w w'))
      case atStart => exact ⟨(x9_1), (7), (by first | rfl | (simp; done) | (simp [*]; done)), H', ⟨Nat.le_refl _⟩, ⟨by (with_reducible repeat (first | apply vA | apply vB | apply vC)); exact HO_1.out⟩, ⟨by (with_reducible repeat (first | apply vA | apply vB | apply vC)); exact HO_9.out⟩, ⟨by repeat (first | (with_reducible first | exact HB.out | apply bA | apply bB | apply bC) | exact HB.out)⟩⟩
      case round =>
       clear H'
       try clear c1
       try clear c2
       try clear p2
       try clear c3
       try clear c6
       try clear c12
       try clear c12b0
       try clear p2
       obtain ⟨x9_2, x11_2, rfl, HA, HK2, HO_1, HO_9, HB⟩ := hrel
       cases gk with
       | zero => exact absurd HA.out (by simp [galoisref09_PowMod.l1])
       | succ k2 =>
         have H := HA.out
         clear HA
         simp only [galoisref09_PowMod.l1] at H
         by_cases c13 : x11_2 ≥ 0
         · rw [if_pos c13] at H
           have c13b0 : decide (0 ≤ x11_2) = true := decide_eq_true c13
           clear c13
           replace H := Option.bind_eq_some_iff.mp H
           obtain ⟨t420, A140, H⟩ := H
           replace H : (if 0 ≤ x10_1 then (if x10_1 < (a2.size : Int) then (if 0 ≤ x11_2 then (if (Int.tmod (shr .u8 (bt a2 x10_1) x11_2) 2) = 1 then ((galoisref09_MulMod.f k2 a0 t420 t417 l3).bind fun t423 => (galoisref09_PowMod.l1 k2 a0 t417 a2 l3 t423 x10_1 (wrap64 (x11_2 - 1)))) else (galoisref09_PowMod.l1 k2 a0 t417 a2 l3 t420 x10_1 (wrap64 (x11_2 - 1)))) else (none)) else (none)) else (none)) = some r := H
           have A14 := ak A140
           clear A140
           by_cases c15 : 0 ≤ x10_1
           · rw [if_pos c15] at H
             have c15b0 : decide (0 ≤ x10_1) = true := decide_eq_true c15
             clear c15
             by_cases c16 : x10_1 < (a2.size : Int)
             · rw [if_pos c16] at H
               have c16b0 : decide (x10_1 < (a2.size : Int)) = true := decide_eq_true c16
               clear c16
               by_cases c18 : 0 ≤ x11_2
               · rw [if_pos c18] at H
                 have c18b0 := eq_true c18
                 have c18b1 : decide (0 ≤ x11_2) = true := decide_eq_true c18
                 clear c18
                 obtain ⟨ji19, hji19⟩ : ∃ j_ : Int, (shr .u8 (bt a2 x10_1) x11_2) = j_ := ⟨_, rfl⟩
                 replace H : (if (Int.tmod (ji19) 2) = 1 then ((galoisref09_MulMod.f k2 a0 t420 t417 l3).bind fun t423 => (galoisref09_PowMod.l1 k2 a0 t417 a2 l3 t423 x10_1 (wrap64 (x11_2 - 1)))) else (galoisref09_PowMod.l1 k2 a0 t417 a2 l3 t420 x10_1 (wrap64 (x11_2 - 1)))) = some r := by first | (rw [hji19] at H; exact H) | (simp only [hji19] at H ⊢; exact H)
                 (try rw [hji19] at A14)
                 have hji19_ : ((bt a2 x10_1) / 2 ^ min x11_2.toNat 8) = ji19 := hji19
                 have hji19z : x11_2 ≤ 8 → ((bt a2 x10_1) / 2 ^ x11_2.toNat) = ji19 := shr_small hji19
                 by_cases c20 : (Int.tmod (ji19) 2) = 1
                 · rw [if_pos c20] at H
                   have c20b0 : ((Int.tmod (ji19) 2) == 1) = true := beq_iff_eq.mpr c20
                   have c20b1 : ((Int.tmod (ji19) 2) != 1) = false := bne_eq_false_iff_eq.mpr c20
                   clear c20
                   replace H := Option.bind_eq_some_iff.mp H
                   obtain ⟨t423, A210, H⟩ := H
                   replace H : (galoisref09_PowMod.l1 k2 a0 t417 a2 l3 t423 x10_1 (wrap64 (x11_2 - 1))) = some r := H
                   have A21 := ak A210
                   clear A210
                   as_aux_lemma =>
                    have H' := ak H
                    clear H
                    obtain ⟨Ao22, co22, eo22⟩ := Kd.V_slice HO_9.out
                    subst eo22
                    go_wp2_with (first | ((with_reducible refine gate_callee (f := 79) rfl ?_); refine goesL_ (some 34) rfl rfl Try.func79 (by kernel_rfl) rfl #[.int .i64 a0, .slice Ao22 x9_2.length co22, .slice Ao22 x9_2.length co22, .slice A3 l3.length c3] rfl mX ?_; (with_reducible refine (galoisref09_MulMod.calls k2 a0 _ _ x9_2 _ _ x9_2 _ _ l3 t420 _ ?side1 ?side2 ?side3 ?side4 ?side5 ?side6 A14.out).mono ?_); (case side1 => exact cX (Kd.V_reads' HO_9.out).2.2); (case side2 => exact (Kd.V_reads' HO_9.out).2.1); (case side3 => exact cX (Kd.V_reads' HO_9.out).2.2); (case side4 => exact (Kd.V_reads' HO_9.out).2.1); (case side5 => exact cX (Kd.C_below HR3.out HB.out)); (case side6 => exact HC3.out); rintro e w23 ⟨v421, rfl, ho0, hb⟩; refine ⟨_, rfl, ?_⟩; have n0_ := ak (Kd.V_below (vX HO_1.out) hb); have n1_ := ak (Kd.V_below (vX HO_9.out) hb); have n2_ := ak (Kd.V_lower (Kd.V_mono (ok' := fun k_ => (w.heap.size ≤ k_)) ho0 (fun k_ hk_ => (Nat.le_trans (below_size bX) hk_))) (below_size bX)); have n3_ := ak (below_step bX hb); clear HO_1; clear HO_9; clear HB; have HO_1 := n0_; have HO_9 := n1_; have HO422 := n2_; have HB := n3_; clear n0_ n1_ n2_ n3_; (try clear hb); (try clear hb2); (try clear hk); (try clear hi); (try clear ho0); have p17 : 0 ≤ (x10_1 : Int) := of_decide_eq_true aX; have q17 : x10_1 < (a2.size : Int) := of_decide_eq_true aX; have hx17 := bt_at a2 x10_1; replace p17 := eq_true p17; replace q17 := eq_true q17; obtain ⟨Ao24, co24, eo24⟩ := Kd.V_slice HO422.out; subst eo24; obtain ⟨Ao25, co25, eo25⟩ := Kd.V_slice HO_1.out; subst eo25) | ((with_reducible refine gate_callee (f := 79) rfl ?_); refine goesL_ (some 46) rfl rfl Try.func79 (by kernel_rfl) rfl #[.int .i64 a0, .slice Ao24 t420.length co24, .slice Ao25 t417.length co25, .slice A3 l3.length c3] rfl mX ?_; (with_reducible refine (galoisref09_MulMod.calls k2 a0 _ _ t420 _ _ t417 _ _ l3 t423 _ ?side1 ?side2 ?side3 ?side4 ?side5 ?side6 A21.out).mono ?_); (case side1 => exact cX (Kd.V_reads' HO422.out).2.2); (case side2 => exact (Kd.V_reads' HO422.out).2.1); (case side3 => exact cX (Kd.V_reads' HO_1.out).2.2); (case side4 => exact (Kd.V_reads' HO_1.out).2.1); (case side5 => exact cX (Kd.C_below HR3.out HB.out)); (case side6 => exact HC3.out); rintro e w26 ⟨v424, rfl, ho0, hb⟩; refine ⟨_, rfl, ?_⟩; have n0_ := ak (Kd.V_below (vX HO_1.out) hb); have n1_ := ak (Kd.V_below (vX HO_9.out) hb); have n2_ := ak (Kd.V_below (vX HO422.out) hb); have n3_ := ak (Kd.V_lower (Kd.V_mono (ok' := fun k_ => (w.heap.size ≤ k_)) ho0 (fun k_ hk_ => (Nat.le_trans (below_size bX) hk_))) (below_size bX)); have n4_ := ak (below_step bX hb); clear HO_1; clear HO_9; clear HO422; clear HB; have HO_1 := n0_; have HO_9 := n1_; have HO422 := n2_; have HO425 := n3_; have HB := n4_; clear n0_ n1_ n2_ n3_ n4_; (try clear hb); (try clear hb2); (try clear hk); (try clear hi); (try clear ho0)))
                    (first | go_roundg k2 | (refine Handed.intro k2 ?measure ?_; rotate_left; go_step; (repeat rw [add_plain]); (repeat apply Exists.intro); refine ⟨?rel, rfl⟩))
                    case measure => have := HK1.out; have := HK2.out; omega
                    case rel => exact ⟨(t423), (wrap64 (x11_2 - 1)), (by first | rfl | (simp; done) | (simp [*]; done)), H', ⟨by have := HK1.out; have := HK2.out; omega⟩, ⟨by (with_reducible repeat (first | apply vA | apply vB | apply vC)); exact HO_1.out⟩, ⟨by (with_reducible repeat (first | apply vA | apply vB | apply vC)); exact HO425.out⟩, ⟨by repeat (first | (with_reducible first | exact HB.out | apply bA | apply bB | apply bC) | exact HB.out)⟩⟩
                 · rw [if_neg c20] at H
                   have c20b0 : ((Int.tmod (ji19) 2) == 1) = false := beq_eq_false_iff_ne.mpr c20
                   have c20b1 : ((Int.tmod (ji19) 2) != 1) = true := bne_iff_ne.mpr c20
                   as_aux_lemma =>
                    have H' := ak H
                    clear H
                    obtain ⟨Ao27, co27, eo27⟩ := Kd.V_slice HO_9.out
                    subst eo27
                    go_wp2_with (first | ((with_reducible refine gate_callee (f := 79) rfl ?_); refine goesL_ (some 34) rfl rfl Try.func79 (by kernel_rfl) rfl #[.int .i64 a0, .slice Ao27 x9_2.length co27, .slice Ao27 x9_2.length co27, .slice A3 l3.length c3] rfl mX ?_; (with_reducible refine (galoisref09_MulMod.calls k2 a0 _ _ x9_2 _ _ x9_2 _ _ l3 t420 _ ?side1 ?side2 ?side3 ?side4 ?side5 ?side6 A14.out).mono ?_); (case side1 => exact cX (Kd.V_reads' HO_9.out).2.2); (case side2 => exact (Kd.V_reads' HO_9.out).2.1); (case side3 => exact cX (Kd.V_reads' HO_9.out).2.2); (case side4 => exact (Kd.V_reads' HO_9.out).2.1); (case side5 => exact cX (Kd.C_below HR3.out HB.out)); (case side6 => exact HC3.out); rintro e w28 ⟨v421, rfl, ho0, hb⟩; refine ⟨_, rfl, ?_⟩; have n0_ := ak (Kd.V_below (vX HO_1.out) hb); have n1_ := ak (Kd.V_below (vX HO_9.out) hb); have n2_ := ak (Kd.V_lower (Kd.V_mono (ok' := fun k_ => (w.heap.size ≤ k_)) ho0 (fun k_ hk_ => (Nat.le_trans (below_size bX) hk_))) (below_size bX)); have n3_ := ak (below_step bX hb); clear HO_1; clear HO_9; clear HB; have HO_1 := n0_; have HO_9 := n1_; have HO422 := n2_; have HB := n3_; clear n0_ n1_ n2_ n3_; (try clear hb); (try clear hb2); (try clear hk); (try clear hi); (try clear ho0); have p17 : 0 ≤ (x10_1 : Int) := of_decide_eq_true aX; have q17 : x10_1 < (a2.size : Int) := of_decide_eq_true aX; have hx17 := bt_at a2 x10_1; replace p17 := eq_true p17; replace q17 := eq_true q17))
                    (first | go_roundg k2 | (refine Handed.intro k2 ?measure ?_; rotate_left; go_step; (repeat rw [add_plain]); (repeat apply Exists.intro); refine ⟨?rel, rfl⟩))
                    case measure => have := HK1.out; have := HK2.out; omega
                    case rel => exact ⟨(t420), (wrap64 (x11_2 - 1)), (by first | rfl | (simp; done) | (simp [*]; done)), H', ⟨by have := HK1.out; have := HK2.out; omega⟩, ⟨by (with_reducible repeat (first | apply vA | apply vB | apply vC)); exact HO_1.out⟩, ⟨by (with_reducible repeat (first | apply vA | apply vB | apply vC)); exact HO422.out⟩, ⟨by repeat (first | (with_reducible first | exact HB.out | apply bA | apply bB | apply bC) | exact HB.out)⟩⟩
               · rw [if_neg c18] at H
                 exact absurd H (by simp)
             · rw [if_neg c16] at H
               exact absurd H (by simp)
           · rw [if_neg c15] at H
             exact absurd H (by simp)
         · rw [if_neg c13] at H
           have c13b0 : decide (0 ≤ x11_2) = false := decide_eq_false c13
           clear c13
           as_aux_lemma =>
            have H' := ak H
            clear H
            go_wp2
            (first | go_roundg k2 | (refine Handed.intro k2 ?measure ?_; rotate_left; go_step; (repeat rw [add_plain]); (repeat apply Exists.intro); refine ⟨?rel, rfl⟩))
            case measure => have := HK1.out; have := HK2.out; omega
            case rel => exact ⟨(x9_2), (wrap64 (x10_1 + 1)), (by first | rfl | (simp; done) | (simp [*]; done)), H', ⟨by have := HK1.out; have := HK2.out; omega⟩, ⟨by (with_reducible repeat (first | apply vA | apply vB | apply vC)); exact HO_1.out⟩, ⟨by (with_reducible repeat (first | apply vA | apply vB | apply vC)); exact HO_9.out⟩, ⟨by repeat (first | (with_reducible first | exact HB.out | apply bA | apply bB | apply bC) | exact HB.out)⟩⟩
    · rw [if_neg c12] at H
      have c12b0 : decide (x10_1 < (a2.size : Int)) = false := decide_eq_false c12
      clear c12
      as_aux_lemma =>
       obtain rfl := Option.some.inj H
       go_wp2
       go_ret
       exact ⟨_, by first | rfl | (simp [errW_none, errW_some] <;> rfl) | (simp [*, errW_none, errW_some] <;> rfl), by (with_reducible repeat (first | apply vA | apply vB | apply vC)); exact HO_9.out, by repeat (first | (with_reducible first | exact HB.out | apply bA | apply bB | apply bC) | exact HB.out)⟩

end Go.Proofs.Ytmknclgamadphaa.PPolymodPrimes
