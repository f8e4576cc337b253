-- WRITTEN BY sprint.py (a program of this repo, over the kit's print.py): nothing here is trusted, Lean checks it.
import Derived.Test.YtmknclgamadphaaPPolymodValuesx0
import Derived.Test.YtmknclgamadphaaPPolymodValuesx9
namespace Go.Proofs.Ytmknclgamadphaa.PPolymodValues
open Go.RowKit Go.Proofs.YtmknclgamadphaaW.PrintWords Go.Proofs.YtmknclgamadphaaW.PrintLast Go.Proofs.YtmknclgamadphaaW.PrintMore
attribute [local go_sem] max2_int min2_int max_two min_two max_three min_three max_four min_four   -- for this text's walks alone
set_option linter.unusedVariables false
set_option linter.unusedSimpArgs false

/-! ### galoisref09_Mul: function 52 -/
mutual
def galoisref09_Mul.j0 : Nat → Int → List Int → List Int → Bool → Option (List Int)
 | 0, _, _, _, _ => none
 | k + 1, x0, x1, x2, x17 => if x17 = true then (some ([] : List Int)) else (if 0 ≤ (wrap64 ((wrap64 ((x1.length : Int) + (x2.length : Int))) - 1)) then (if (wrap64 ((wrap64 ((x1.length : Int) + (x2.length : Int))) - 1) : Int).toNat ≤ 35184372088832 then (galoisref09_Mul.l0 k x0 x1 x2 (List.replicate (wrap64 ((wrap64 ((x1.length : Int) + (x2.length : Int))) - 1) : Int).toNat 0) 0) else (none)) else (none))
def galoisref09_Mul.l0 : Nat → Int → List Int → List Int → List Int → Int → Option (List Int)
 | 0, _, _, _, _, _ => none
 | k + 1, x0, x1, x2, x7, x8 => if x8 < (x1.length : Int) then (galoisref09_Mul.l1 k x0 x1 x2 x7 x8 0) else ((galoisref09_Trim.f k x7).bind fun t457 => (some t457))
def galoisref09_Mul.l1 : Nat → Int → List Int → List Int → List Int → Int → Int → Option (List Int)
 | 0, _, _, _, _, _, _ => none
 | k + 1, x0, x1, x2, x7, x8, x9 => if x9 < (x2.length : Int) then (if 0 ≤ (wrap64 (x8 + x9)) then (if (wrap64 (x8 + x9)) < (x7.length : Int) then (if 0 ≤ x8 then (if x8 < (x1.length : Int) then (if 0 ≤ x9 then (if x0 = 0 then (none) else (galoisref09_Mul.l1 k x0 x1 x2 (x7.set ((wrap64 (x8 + x9)) : Int).toNat (Int.tmod (wrap64 ((rd x7 (wrap64 (x8 + x9))) + (wrap64 ((rd x1 x8) * (rd x2 x9))))) x0)) x8 (wrap64 (x9 + 1)))) else (none)) else (none)) else (none)) else (none)) else (none)) else (galoisref09_Mul.l0 k x0 x1 x2 x7 (wrap64 (x8 + 1)))
end
def galoisref09_Mul.f (k : Nat) (a0 : Int) (l1 : List Int) (l2 : List Int) : Option (List Int) := if (l1.length : Int) = 0 then (galoisref09_Mul.j0 k a0 l1 l2 true) else (galoisref09_Mul.j0 k a0 l1 l2 ((l2.length : Int) == 0))
theorem galoisref09_Mul.mono_l : ∀ k, (∀ y0 y1 y2 y3, LeO (galoisref09_Mul.j0 k y0 y1 y2 y3) (galoisref09_Mul.j0 (k + 1) y0 y1 y2 y3)) ∧ (∀ y0 y1 y2 y3 y4, LeO (galoisref09_Mul.l0 k y0 y1 y2 y3 y4) (galoisref09_Mul.l0 (k + 1) y0 y1 y2 y3 y4)) ∧ (∀ y0 y1 y2 y3 y4 y5, LeO (galoisref09_Mul.l1 k y0 y1 y2 y3 y4 y5) (galoisref09_Mul.l1 (k + 1) y0 y1 y2 y3 y4 y5))
 | 0 => ⟨fun _ _ _ _ r h => by simp [galoisref09_Mul.j0] at h, fun _ _ _ _ _ r h => by simp [galoisref09_Mul.l0] at h, fun _ _ _ _ _ _ r h => by simp [galoisref09_Mul.l1] at h⟩
 | k + 1 => by
   obtain ⟨ih0, ih1, ih2⟩ := galoisref09_Mul.mono_l k
   refine ⟨?_, ?_, ?_⟩
   · intro y0 y1 y2 y3
     unfold galoisref09_Mul.j0
     repeat' first
     | (with_reducible apply ih0)
     | (with_reducible apply ih1)
     | (with_reducible apply ih2)
     | (with_reducible apply galoisref09_Trim.mono)
     | (with_reducible apply LeO.refl)
     | (with_reducible apply LeO.none)
     | (with_reducible refine LeO.ite ?_ ?_)
     | (with_reducible refine LeO.bind ?_ (fun _ => ?_))
   · intro y0 y1 y2 y3 y4
     unfold galoisref09_Mul.l0
     repeat' first
     | (with_reducible apply ih0)
     | (with_reducible apply ih1)
     | (with_reducible apply ih2)
     | (with_reducible apply galoisref09_Trim.mono)
     | (with_reducible apply LeO.refl)
     | (with_reducible apply LeO.none)
     | (with_reducible refine LeO.ite ?_ ?_)
     | (with_reducible refine LeO.bind ?_ (fun _ => ?_))
   · intro y0 y1 y2 y3 y4 y5
     unfold galoisref09_Mul.l1
     repeat' first
     | (with_reducible apply ih0)
     | (with_reducible apply ih1)
     | (with_reducible apply ih2)
     | (with_reducible apply galoisref09_Trim.mono)
     | (with_reducible apply LeO.refl)
     | (with_reducible apply LeO.none)
     | (with_reducible refine LeO.ite ?_ ?_)
     | (with_reducible refine LeO.bind ?_ (fun _ => ?_))
theorem galoisref09_Mul.mono : ∀ a0 a1 a2 k, LeO (galoisref09_Mul.f k a0 a1 a2) (galoisref09_Mul.f (k + 1) a0 a1 a2) := by
 intro a0 a1 a2 k
 obtain ⟨ih0, ih1, ih2⟩ := galoisref09_Mul.mono_l k
 unfold galoisref09_Mul.f
 repeat' first
  | (with_reducible apply ih0)
  | (with_reducible apply ih1)
  | (with_reducible apply ih2)
  | (with_reducible apply galoisref09_Trim.mono)
  | (with_reducible apply LeO.refl)
  | (with_reducible apply LeO.none)
  | (with_reducible refine LeO.ite ?_ ?_)
  | (with_reducible refine LeO.bind ?_ (fun _ => ?_))
def galoisref09_Mul.T10 : Bool × List (List Nat × List Nat) := (true, [([], []), ([], []), ([], []), ([1, 2], [1, 2]), ([], []), ([], []), ([], []), ([5, 6], [5, 6]), ([4, 7], [4, 7]), ([8], [8]), ([], []), ([], []), ([10, 11], [10, 11]), ([12], [12]), ([], []), ([], []), ([14, 15], [14, 15]), ([16], [16]), ([13, 17], [13, 17]), ([9, 18], [9, 18]), ([], []), ([19, 20], [19, 20]), ([0, 3, 0, 1, 2, 3, 4, 5, 6, 7, 8, 9, 10, 11, 12, 13, 14, 15, 16, 17, 18, 19, 20, 21], [0, 3]), ([22, 21, 0, 1, 2, 3, 4, 5, 6, 7, 8, 9, 10, 11, 12, 13, 14, 15, 16, 17, 18, 19, 20, 21], [21, 22])])
def galoisref09_Mul.B10 : List Nat := [0, 0, 0, 6, 0, 0, 0, 96, 240, 496, 0, 0, 3072, 7168, 0, 0, 49152, 114688, 261120, 524272, 0, 2097136, 4194303, 8388607]
theorem galoisref09_Mul.tab10 : rtab .any (opsOf Try.f52 10) = galoisref09_Mul.T10 := by kernel_rfl
theorem galoisref09_Mul.bits10 : waitsOk galoisref09_Mul.T10.2 galoisref09_Mul.B10 = true := by kernel_rfl
set_option maxHeartbeats 8000000 in
set_option maxRecDepth 100000 in
theorem galoisref09_Mul.calls (k : Nat) (a0 : Int) (A1 : Option Addr) (c1 : Nat) (l1 : List Int) (A2 : Option Addr) (c2 : Nat) (l2 : List Int) (r : List Int) (w : World) (hr1 : Kd.C (Kd.int .i64) w A1 l1.length l1) (hc1 : l1.length ≤ c1) (hr2 : Kd.C (Kd.int .i64) w A2 l2.length l2) (hc2 : l2.length ≤ c2) (h : galoisref09_Mul.f k a0 l1 l2 = some r) :
 Calls Try.prog 52 #[.int .i64 a0, .slice A1 l1.length c1, .slice A2 l2.length c2] w fun e w' => ∃ v0_ : Value, e = .returned (v0_) ∧ Kd.V (Kd.int .i64) 3 w' w.heap.size (fun k_ => (w.heap.size ≤ k_)) v0_ r ∧ Below w.heap.size w w' := by
 have HR1 := Aside0.mk hr1
 have HC1 := Aside0.mk hc1
 clear hr1 hc1
 have HR2 := Aside0.mk hr2
 have HC2 := Aside0.mk hc2
 clear hr2 hc2
 have HB := Aside0.mk (Below.refl w.heap.size w)
 have H : (if (l1.length : Int) = 0 then (galoisref09_Mul.j0 k a0 l1 l2 true) else (galoisref09_Mul.j0 k a0 l1 l2 ((l2.length : Int) == 0))) = some r := h
 clear h
 have HC4 := Aside0.mk H
 clear H
 go_enter Try.func52, Try.ntmps52
 go_upto_region 1 with (fail)
 go_cut [17] (fun v17 wc => ∃ (kq : Nat) (x17_3 : Bool), v17 = .bool x17_3 ∧ Aside0 (galoisref09_Mul.j0 kq a0 l1 l2 x17_3 = some r) ∧ Aside0 (kq ≤ k) ∧ Aside0 (Below w.heap.size w wc))
 case first =>
  have H := HC4.out
  clear HC4
  by_cases c5 : (l1.length : Int) = 0
  · rw [if_pos c5] at H
    have c5b0 : ((l1.length : Int) == 0) = true := beq_iff_eq.mpr c5
    have c5b1 : ((l1.length : Int) != 0) = false := bne_eq_false_iff_eq.mpr c5
    clear c5
    (first | rw [c5b0] | (simp only [i64_w, i32_w]; rw [c5b0]) | skip)
    have H' := Aside0.mk H
    clear H
    go_wp2
    go_meet
    case rel => exact ⟨_, (true), (by first | rfl | (simp; done) | (simp [*]; done)), H', ⟨by first | omega | exact Nat.le_refl _⟩, ⟨by with_reducible repeat (first | exact HB.out | apply bA | apply bB | apply bC)⟩⟩
  · rw [if_neg c5] at H
    have c5b0 : ((l1.length : Int) == 0) = false := beq_eq_false_iff_ne.mpr c5
    have c5b1 : ((l1.length : Int) != 0) = true := bne_iff_ne.mpr c5
    have c5b2 : ¬ (l1 = []) := fun h_ => c5 (by rw [h_]; rfl)
    (first | rw [c5b0] | (simp only [i64_w, i32_w]; rw [c5b0]) | skip)
    have H' := Aside0.mk H
    clear H
    go_wp2
    go_meet
    case rel => exact ⟨_, (((l2.length : Int) == 0)), (by first | rfl | (simp; done) | (simp [*]; done)), H', ⟨by first | omega | exact Nat.le_refl _⟩, ⟨by with_reducible repeat (first | exact HB.out | apply bA | apply bB | apply bC)⟩⟩
 case rest =>
  clear HC4
  try clear c1
  try clear c2
  try clear p2
  try clear c5
  try clear c5b0
  try clear c5b1
  try clear c5b2
  obtain ⟨kq, x17_3, rfl, HA, HJ3, HB⟩ := hcut
  cases kq with
  | zero => exact absurd HA.out (by simp [galoisref09_Mul.j0])
  | succ kj3 =>
    have H := HA.out
    clear HA
    simp only [galoisref09_Mul.j0] at H
    by_cases c6 : x17_3 = true
    · subst c6
      have H1 : (some ([] : List Int)) = some r := by rw [if_pos rfl] at H; exact H
      clear H
      have H := H1
      clear H1
      obtain rfl := Option.some.inj H
      go_wp2
      go_ret
      exact ⟨(.slice none 0 0), by first | rfl | (simp [errW_none, errW_some] <;> rfl) | (simp [*, errW_none, errW_some] <;> rfl), (Kd.V_nil _ _ _ _ _), by with_reducible repeat (first | exact HB.out | apply bA | apply bB | apply bC)⟩
    · replace c6 := Bool.eq_false_iff.mpr c6
      subst c6
      have H1 : (if 0 ≤ (wrap64 ((wrap64 ((l1.length : Int) + (l2.length : Int))) - 1)) then (if (wrap64 ((wrap64 ((l1.length : Int) + (l2.length : Int))) - 1) : Int).toNat ≤ 35184372088832 then (galoisref09_Mul.l0 kj3 a0 l1 l2 (List.replicate (wrap64 ((wrap64 ((l1.length : Int) + (l2.length : Int))) - 1) : Int).toNat 0) 0) else (none)) else (none)) = some r := by rw [if_neg (show ¬ (false = true) by decide)] at H; exact H
      clear H
      have H := H1
      clear H1
      obtain ⟨ji7, hji7⟩ : ∃ j_ : Int, (wrap64 ((wrap64 ((l1.length : Int) + (l2.length : Int))) - 1)) = j_ := ⟨_, rfl⟩
      replace H : (if 0 ≤ (ji7) then (if (ji7 : Int).toNat ≤ 35184372088832 then (galoisref09_Mul.l0 kj3 a0 l1 l2 (List.replicate (ji7 : Int).toNat 0) 0) else (none)) else (none)) = some r := by first | (rw [hji7] at H; exact H) | (simp only [hji7] at H ⊢; exact H)
      have hji7w : (IntKind.i64.wrap ((wrap64 ((l1.length : Int) + (l2.length : Int))) - 1)) = ji7 := (i64_w _).trans hji7
      by_cases c8 : 0 ≤ (ji7)
      · rw [if_pos c8] at H
        have c8b0 := eq_true c8
        have c8b1 : decide (0 ≤ (ji7)) = true := decide_eq_true c8
        clear c8
        by_cases c9 : (ji7 : Int).toNat ≤ 35184372088832
        · rw [if_pos c9] at H
          have c9b0 := eq_true c9
          have c9b1 : decide ((ji7 : Int).toNat ≤ 35184372088832) = true := decide_eq_true c9
          clear c9
          obtain ⟨y454, hy454⟩ : ∃ y_ : List Int, y_ = (List.replicate (ji7 : Int).toNat 0) := ⟨_, rfl⟩
          replace H : (galoisref09_Mul.l0 kj3 a0 l1 l2 y454 0) = some r := by first | (rw [hy454]; with_reducible exact H) | (have H2_ := (Option.bind_some _ _).symm.trans H; rw [hy454]; with_reducible exact H2_) | (have H2_ := (Option.bind_some _ _).symm.trans H; with_reducible exact H2_) | with_reducible exact H | (rw [hy454]; exact H) | exact H
          have Ny454 := Aside0.mk hy454
          clear hy454
          have H' := Aside0.mk H
          clear H
          go_wp2_with (first | ((with_reducible refine gate_dst (N := 24) rfl ?_); (try (refine gate_guard (by rfl) ?_; dsimp only)); refine Kd.R_make (Kd.int .i64) _ 3 rfl (N := 24) rfl 23 _ _ rfl ji7 rfl rfl Try.underlying23 (.int .i64 0) 8 info3 rfl (by decide) (by omega) 0 (ok := fun _ => True) (okp := fun _ => True) rfl (fun _ hk => hk) trivial (of_decide_eq_true (by first | (with_reducible assumption) | assumption)) (Nat.le_trans (Nat.mul_le_mul_right _ (of_decide_eq_true (by first | (with_reducible assumption) | assumption) : ji7.toNat ≤ 35184372088832)) (by omega)) (Below.refl _ _) (Nat.le_refl _) ?_; intro v455 w10 ho11 hb hg_ hnew_; clear hg_ hnew_; (first | rw [← Ny454.out] at ho11 | (simp only [Int.reduceToNat] at ho11; rw [← Ny454.out] at ho11)); have n0_ := Aside0.mk (Kd.R_lower (Kd.R_newM (M := fun k_ => (w.heap.size ≤ k_)) ho11 (below_size (by with_reducible repeat (first | exact HB.out | apply bA | apply bB | apply bC))) (fun k_ h_ => h_)) (below_size (by with_reducible repeat (first | exact HB.out | apply bA | apply bB | apply bC)))); have n1_ := Aside0.mk (below_step (by with_reducible repeat (first | exact HB.out | apply bA | apply bB | apply bC)) hb); clear HB; have HO456 := n0_; have HB := n1_; clear n0_ n1_; clear hb ho11))
          go_loopg [8] kj3 (fun kq v8 w' => ∃ (x7_2 : List Int) (x8_2 : Int), v8 = .int .i64 x8_2 ∧ Aside0 (galoisref09_Mul.l0 kq a0 l1 l2 x7_2 x8_2 = some r) ∧ Aside0 (kq ≤ kj3) ∧ Aside0 (Kd.R (Kd.int .i64) 3 w' w.heap.size (fun k_ => (w.heap.size ≤ k_)) v455 x7_2) ∧ Aside0 (Below w.heap.size w w'))
          case atStart => exact ⟨(y454), (0), (by first | rfl | (simp; done) | (simp [*]; done)), H', ⟨Nat.le_refl _⟩, ⟨by (with_reducible repeat (first | apply Kd.R_alloc | apply Kd.R_drewN | apply Kd.R_drew)); exact Kd.R_mono HO456.out (fun _ hk => hk.1)⟩, ⟨by with_reducible repeat (first | exact HB.out | apply bA | apply bB | apply bC)⟩⟩
          case round =>
           clear H'
           try clear c1
           try clear c2
           try clear p2
           try clear c5
           try clear c5b0
           try clear c5b1
           try clear c5b2
           try clear c6
           try clear p6
           try clear c8
           try clear c8b0
           try clear c8b1
           try clear c9
           try clear c9b0
           try clear c9b1
           try clear p2
           obtain ⟨x7_2, x8_2, rfl, HA, HK2, HO_7, HB⟩ := hrel
           cases gk with
           | zero => exact absurd HA.out (by simp [galoisref09_Mul.l0])
           | succ k2 =>
             have H := HA.out
             clear HA
             simp only [galoisref09_Mul.l0] at H
             by_cases c12 : x8_2 < (l1.length : Int)
             · rw [if_pos c12] at H
               have c12b0 : decide (x8_2 < (l1.length : Int)) = true := decide_eq_true c12
               clear c12
               have H' := Aside0.mk H
               clear H
               go_wp2
               go_loopg [9] k2 (fun kq v9 w' => ∃ (x7_3 : List Int) (x9_3 : Int), v9 = .int .i64 x9_3 ∧ Aside0 (galoisref09_Mul.l1 kq a0 l1 l2 x7_3 x8_2 x9_3 = some r) ∧ Aside0 (kq ≤ k2) ∧ Aside0 (Kd.R (Kd.int .i64) 3 w' w.heap.size (fun k_ => (w.heap.size ≤ k_)) v455 x7_3) ∧ Aside0 (Below w.heap.size w w'))
               case atStart => exact ⟨(x7_2), (0), (by first | rfl | (simp; done) | (simp [*]; done)), H', ⟨Nat.le_refl _⟩, ⟨by (with_reducible repeat (first | apply Kd.R_alloc | apply Kd.R_drewN | apply Kd.R_drew)); exact HO_7.out⟩, ⟨by with_reducible repeat (first | exact HB.out | apply bA | apply bB | apply bC)⟩⟩
               case round =>
                clear H'
                try clear c1
                try clear c2
                try clear p2
                try clear c5
                try clear c5b0
                try clear c5b1
                try clear c5b2
                try clear c6
                try clear p6
                try clear c8
                try clear c8b0
                try clear c8b1
                try clear c9
                try clear c9b0
                try clear c9b1
                try clear c12
                try clear c12b0
                try clear p2
                try clear p6
                obtain ⟨x7_3, x9_3, rfl, HA, HK3, HO_7, HB⟩ := hrel
                cases gk with
                | zero => exact absurd HA.out (by simp [galoisref09_Mul.l1])
                | succ k3 =>
                  have H := HA.out
                  clear HA
                  simp only [galoisref09_Mul.l1] at H
                  by_cases c13 : x9_3 < (l2.length : Int)
                  · rw [if_pos c13] at H
                    have c13b0 : decide (x9_3 < (l2.length : Int)) = true := decide_eq_true c13
                    clear c13
                    obtain ⟨ji14, hji14⟩ : ∃ j_ : Int, (wrap64 (x8_2 + x9_3)) = j_ := ⟨_, rfl⟩
                    replace H : (if 0 ≤ (ji14) then (if (ji14) < (x7_3.length : Int) then (if 0 ≤ x8_2 then (if x8_2 < (l1.length : Int) then (if 0 ≤ x9_3 then (if a0 = 0 then (none) else (galoisref09_Mul.l1 k3 a0 l1 l2 (x7_3.set ((ji14) : Int).toNat (Int.tmod (wrap64 ((rd x7_3 (ji14)) + (wrap64 ((rd l1 x8_2) * (rd l2 x9_3))))) a0)) x8_2 (wrap64 (x9_3 + 1)))) else (none)) else (none)) else (none)) else (none)) else (none)) = some r := by first | (rw [hji14] at H; exact H) | (simp only [hji14] at H ⊢; exact H)
                    have hji14w : (IntKind.i64.wrap (x8_2 + x9_3)) = ji14 := (i64_w _).trans hji14
                    by_cases c15 : 0 ≤ (ji14)
                    · rw [if_pos c15] at H
                      have c15b0 : decide (0 ≤ (ji14)) = true := decide_eq_true c15
                      clear c15
                      by_cases c16 : (ji14) < (x7_3.length : Int)
                      · rw [if_pos c16] at H
                        have c16b0 : decide ((ji14) < (x7_3.length : Int)) = true := decide_eq_true c16
                        clear c16
                        by_cases c17 : 0 ≤ x8_2
                        · rw [if_pos c17] at H
                          have c17b0 : decide (0 ≤ x8_2) = true := decide_eq_true c17
                          clear c17
                          by_cases c18 : x8_2 < (l1.length : Int)
                          · rw [if_pos c18] at H
                            have c18b0 : decide (x8_2 < (l1.length : Int)) = true := decide_eq_true c18
                            clear c18
                            by_cases c19 : 0 ≤ x9_3
                            · rw [if_pos c19] at H
                              have c19b0 : decide (0 ≤ x9_3) = true := decide_eq_true c19
                              clear c19
                              by_cases c20 : a0 = 0
                              · rw [if_pos c20] at H
                                exact absurd H (by simp)
                              · rw [if_neg c20] at H
                                have c20b0 : (a0 == 0) = false := beq_eq_false_iff_ne.mpr c20
                                have c20b1 : (a0 != 0) = true := bne_iff_ne.mpr c20
                                obtain ⟨y463, hy463⟩ : ∃ y_ : List Int, y_ = (x7_3.set ((ji14) : Int).toNat (Int.tmod (wrap64 ((rd x7_3 (ji14)) + (wrap64 ((rd l1 x8_2) * (rd l2 x9_3))))) a0)) := ⟨_, rfl⟩
                                replace H : (galoisref09_Mul.l1 k3 a0 l1 l2 y463 x8_2 (wrap64 (x9_3 + 1))) = some r := by first | (rw [hy463]; with_reducible exact H) | (have H2_ := (Option.bind_some _ _).symm.trans H; rw [hy463]; with_reducible exact H2_) | (have H2_ := (Option.bind_some _ _).symm.trans H; with_reducible exact H2_) | with_reducible exact H | (rw [hy463]; exact H) | exact H
                                have Ny463 := Aside0.mk hy463
                                clear hy463
                                have H' := Aside0.mk H
                                clear H
                                try go_wp2
                                have n0_ := Aside0.mk (Kd.R_drew HO_7.out)
                                have n1_ := Aside0.mk (below_drew1 HB.out)
                                clear HO_7
                                clear HB
                                have HO_7 := n0_
                                have HB := n1_
                                clear n0_ n1_
                                obtain ⟨Ao23, co23, eo23⟩ := Kd.R_slice HO_7.out
                                (first | subst eo23 | (injection eo23 with f1_ f2_ f3_; have f4_ := f1_.symm; have f5_ := f3_.symm; clear f1_ f2_ f3_; subst f4_; subst f5_))
                                have p460 : 0 ≤ ((ji14) : Int) := of_decide_eq_true (by first | (with_reducible assumption) | assumption)
                                have q460 : (ji14) < (x7_3.length : Int) := of_decide_eq_true (by first | (with_reducible assumption) | assumption)
                                obtain ⟨ad460, e460, hx460_0⟩ := Kd.at_int (Kd.R_reads' HO_7.out).2.2 (ji14) p460 q460
                                cases e460
                                replace p460 := eq_true p460
                                replace q460 := eq_true q460
                                have p461 : 0 ≤ (x8_2 : Int) := of_decide_eq_true (by first | (with_reducible assumption) | assumption)
                                have q461 : x8_2 < (l1.length : Int) := of_decide_eq_true (by first | (with_reducible assumption) | assumption)
                                obtain ⟨ad461, e461, hx461_0⟩ := Kd.at_int HR1.out x8_2 p461 q461
                                have hw461_0 := hx461_0
                                cases e461
                                replace hx461_0 := (HB.out.cell (World.block_lt_of_cell? w _ hx461_0)).trans hx461_0
                                replace p461 := eq_true p461
                                replace q461 := eq_true q461
                                have p462 : 0 ≤ (x9_3 : Int) := of_decide_eq_true (by first | (with_reducible assumption) | assumption)
                                have q462 : x9_3 < (l2.length : Int) := of_decide_eq_true (by first | (with_reducible assumption) | assumption)
                                obtain ⟨ad462, e462, hx462_0⟩ := Kd.at_int HR2.out x9_3 p462 q462
                                have hw462_0 := hx462_0
                                cases e462
                                replace hx462_0 := (HB.out.cell (World.block_lt_of_cell? w _ hx462_0)).trans hx462_0
                                replace p462 := eq_true p462
                                replace q462 := eq_true q462
                                have p21 : 0 ≤ ((ji14) : Int) := of_decide_eq_true (by first | (with_reducible assumption) | assumption)
                                have q21 : ((ji14) : Int) < ((x7_3.length : Int) : Int) := of_decide_eq_true (by first | (with_reducible assumption) | assumption)
                                obtain ⟨go21, co21, eo21, gb21, gl21, cl21, HG21⟩ := Kd.R_form HO_7.out (by omega)
                                (first | cases eo21 | (injection eo21 with ea_ en_ ec_; (first | subst ea_ | (injection ea_ with ea_; subst ea_)); subst ec_; clear en_))
                                have GB21 := Aside0.mk gb21
                                have GG21 := Aside0.mk HG21
                                clear gb21 gl21 HG21
                                (first | simp only [add_plain] at hx460_0 | skip)
                                obtain ⟨hx21_0, hf21_0⟩ := Kd.R_celln 0 HO_7.out ((ji14) : Int) p21 q21
                                replace p21 := eq_true p21
                                replace q21 := eq_true q21
                                have HP24 := Kd.R_putn HO_7.out ((ji14) : Int) (Int.tmod (wrap64 ((rd x7_3 (ji14)) + (wrap64 ((rd l1 x8_2) * (rd l2 x9_3))))) a0)
                                rw [← Ny463.out] at HP24
                                have HQ24 := Aside0.mk HP24
                                clear HP24
                                refine start_ (n := 24) (S := fun w' => w'.cell? ⟨go21, ((ji14)).toNat, none⟩ = some (.int .i64 (rd x7_3 (ji14))) ∧ w'.cell? (ad461.add (x8_2).toNat) = some (.int .i64 (rd l1 x8_2)) ∧ w'.cell? (ad462.add (x9_3).toNat) = some (.int .i64 (rd l2 x9_3))) (ds := [23]) #[false, false, false, false, false, false, false, false, false, false, false, false, false, false, false, false, false, false, false, false, false, false, false, false] (by kernel_rfl) rfl rfl ⟨hx460_0, ((HB.out.cell (World.block_lt_of_cell? w _ hw461_0)).trans hw461_0), ((HB.out.cell (World.block_lt_of_cell? w _ hw462_0)).trans hw462_0)⟩ (fun hHeld => ?_); refine with_tabW galoisref09_Mul.tab10 galoisref09_Mul.bits10 (fun HT_ HW_ => ?_)
                                generalize wr.drew = w22 at HO_7 HB GG21 HQ24 hf21_0 hx21_0 hx460_0 hx461_0 hx462_0 hHeld ⊢
                                refine pure_ (i := 0) (N := some 37) (v := ?_) (a' := ?_) #[true, false, false, false, false, false, false, false, false, false, false, false, false, false, false, false, false, false, false, false, false, false, false, false] rfl rfl (any_of HT_.out (by kernel_rfl)) (fun _ _ _ h => h) (Or.inl ⟨by rfl, ?_⟩) ?_ ?_
                                rotate_left
                                · intro w'
                                  go_simp
                                  with_reducible rfl
                                rotate_left
                                · simp only [Act.put, List.setIfInBounds_toArray, List.set_cons_zero, List.set_cons_succ, i64_w, i32_w]
                                  rfl
                                refine pure_ (i := 1) (N := some 38) (v := ?_) (a' := ?_) #[true, true, false, false, false, false, false, false, false, false, false, false, false, false, false, false, false, false, false, false, false, false, false, false] rfl rfl (any_of HT_.out (by kernel_rfl)) (fun _ _ _ h => h) (Or.inl ⟨by rfl, ?_⟩) ?_ ?_
                                rotate_left
                                · intro w'
                                  go_simp
                                  with_reducible rfl
                                rotate_left
                                · simp only [Act.put, List.setIfInBounds_toArray, List.set_cons_zero, List.set_cons_succ, i64_w, i32_w]
                                  rfl
                                refine pure_ (i := 2) (N := some 39) (v := ?_) (a' := ?_) #[true, true, true, false, false, false, false, false, false, false, false, false, false, false, false, false, false, false, false, false, false, false, false, false] rfl rfl (any_of HT_.out (by kernel_rfl)) (fun _ _ _ h => h) (Or.inl ⟨by rfl, ?_⟩) ?_ ?_
                                rotate_left
                                · intro w'
                                  go_simp
                                  with_reducible rfl
                                rotate_left
                                · simp only [Act.put, List.setIfInBounds_toArray, List.set_cons_zero, List.set_cons_succ, i64_w, i32_w]
                                  rfl
                                refine pure_ (i := 3) (N := some 40) (v := ?_) (a' := ?_) #[true, true, true, true, false, false, false, false, false, false, false, false, false, false, false, false, false, false, false, false, false, false, false, false] rfl rfl (any_of HT_.out (by kernel_rfl)) (fun _ _ _ h => h) (Or.inl ⟨by rfl, ?_⟩) ?_ ?_
                                rotate_left
                                · intro w'
                                  go_simp
                                  with_reducible rfl
                                rotate_left
                                · simp only [Act.put, List.setIfInBounds_toArray, List.set_cons_zero, List.set_cons_succ, i64_w, i32_w]
                                  rfl
                                refine pure_ (i := 4) (N := some 41) (v := ?_) (a' := ?_) #[true, true, true, true, true, false, false, false, false, false, false, false, false, false, false, false, false, false, false, false, false, false, false, false] rfl rfl (any_of HT_.out (by kernel_rfl)) (fun _ _ _ h => h) (Or.inl ⟨by rfl, ?_⟩) ?_ ?_
                                rotate_left
                                · intro w'
                                  go_simp
                                  with_reducible rfl
                                rotate_left
                                · simp only [Act.put, List.setIfInBounds_toArray, List.set_cons_zero, List.set_cons_succ, i64_w, i32_w]
                                  rfl
                                refine pure_ (i := 5) (N := some 42) (v := ?_) (a' := ?_) #[true, true, true, true, true, true, false, false, false, false, false, false, false, false, false, false, false, false, false, false, false, false, false, false] rfl rfl (any_of HT_.out (by kernel_rfl)) (fun _ _ _ h => h) (Or.inl ⟨by rfl, ?_⟩) ?_ ?_
                                rotate_left
                                · intro w'
                                  go_simp
                                  with_reducible rfl
                                rotate_left
                                · simp only [Act.put, List.setIfInBounds_toArray, List.set_cons_zero, List.set_cons_succ, i64_w, i32_w]
                                  rfl
                                refine pure_ (i := 6) (N := some 43) (v := ?_) (a' := ?_) #[true, true, true, true, true, true, true, false, false, false, false, false, false, false, false, false, false, false, false, false, false, false, false, false] rfl rfl (any_of HT_.out (by kernel_rfl)) (fun _ _ _ h => h) (Or.inl ⟨by rfl, ?_⟩) ?_ ?_
                                rotate_left
                                · intro w'
                                  go_simp
                                  with_reducible rfl
                                rotate_left
                                · simp only [Act.put, List.setIfInBounds_toArray, List.set_cons_zero, List.set_cons_succ, i64_w, i32_w]
                                  rfl
                                refine pure_ (i := 7) (N := some 44) (v := ?_) (a' := ?_) #[true, true, true, true, true, true, true, true, false, false, false, false, false, false, false, false, false, false, false, false, false, false, false, false] rfl rfl (any_of HT_.out (by kernel_rfl)) (fun _ _ _ h => h) (Or.inl ⟨by rfl, ?_⟩) ?_ ?_
                                rotate_left
                                · intro w'
                                  go_simp
                                  with_reducible rfl
                                rotate_left
                                · simp only [Act.put, List.setIfInBounds_toArray, List.set_cons_zero, List.set_cons_succ, i64_w, i32_w]
                                  rfl
                                refine pure_ (i := 8) (N := some 45) (v := ?_) (a' := ?_) #[true, true, true, true, true, true, true, true, true, false, false, false, false, false, false, false, false, false, false, false, false, false, false, false] rfl rfl (any_of HT_.out (by kernel_rfl)) (fun _ _ _ h => h) (Or.inl ⟨by rfl, ?_⟩) ?_ ?_
                                rotate_left
                                · intro w'
                                  go_simp
                                  with_reducible rfl
                                rotate_left
                                · simp only [Act.put, List.setIfInBounds_toArray, List.set_cons_zero, List.set_cons_succ, i64_w, i32_w]
                                  rfl
                                refine pure_ (i := 10) (N := some 47) (v := ?_) (a' := ?_) #[true, true, true, true, true, true, true, true, true, false, true, false, false, false, false, false, false, false, false, false, false, false, false, false] rfl rfl (any_of HT_.out (by kernel_rfl)) (fun _ _ _ h => h) (Or.inl ⟨by rfl, ?_⟩) ?_ ?_
                                rotate_left
                                · intro w'
                                  go_simp
                                  with_reducible rfl
                                rotate_left
                                · simp only [Act.put, List.setIfInBounds_toArray, List.set_cons_zero, List.set_cons_succ, i64_w, i32_w]
                                  rfl
                                refine pure_ (i := 11) (N := some 48) (v := ?_) (a' := ?_) #[true, true, true, true, true, true, true, true, true, false, true, true, false, false, false, false, false, false, false, false, false, false, false, false] rfl rfl (any_of HT_.out (by kernel_rfl)) (fun _ _ _ h => h) (Or.inl ⟨by rfl, ?_⟩) ?_ ?_
                                rotate_left
                                · intro w'
                                  go_simp
                                  with_reducible rfl
                                rotate_left
                                · simp only [Act.put, List.setIfInBounds_toArray, List.set_cons_zero, List.set_cons_succ, i64_w, i32_w]
                                  rfl
                                refine pure_ (i := 12) (N := some 49) (v := ?_) (a' := ?_) #[true, true, true, true, true, true, true, true, true, false, true, true, true, false, false, false, false, false, false, false, false, false, false, false] rfl rfl (any_of HT_.out (by kernel_rfl)) (fun _ _ _ h => h) (Or.inl ⟨by rfl, ?_⟩) ?_ ?_
                                rotate_left
                                · intro w'
                                  go_simp
                                  with_reducible rfl
                                rotate_left
                                · simp only [Act.put, List.setIfInBounds_toArray, List.set_cons_zero, List.set_cons_succ, i64_w, i32_w]
                                  rfl
                                refine pure_ (i := 14) (N := some 51) (v := ?_) (a' := ?_) #[true, true, true, true, true, true, true, true, true, false, true, true, true, false, true, false, false, false, false, false, false, false, false, false] rfl rfl (any_of HT_.out (by kernel_rfl)) (fun _ _ _ h => h) (Or.inl ⟨by rfl, ?_⟩) ?_ ?_
                                rotate_left
                                · intro w'
                                  go_simp
                                  with_reducible rfl
                                rotate_left
                                · simp only [Act.put, List.setIfInBounds_toArray, List.set_cons_zero, List.set_cons_succ, i64_w, i32_w]
                                  rfl
                                refine pure_ (i := 15) (N := some 52) (v := ?_) (a' := ?_) #[true, true, true, true, true, true, true, true, true, false, true, true, true, false, true, true, false, false, false, false, false, false, false, false] rfl rfl (any_of HT_.out (by kernel_rfl)) (fun _ _ _ h => h) (Or.inl ⟨by rfl, ?_⟩) ?_ ?_
                                rotate_left
                                · intro w'
                                  go_simp
                                  with_reducible rfl
                                rotate_left
                                · simp only [Act.put, List.setIfInBounds_toArray, List.set_cons_zero, List.set_cons_succ, i64_w, i32_w]
                                  rfl
                                refine pure_ (i := 16) (N := some 53) (v := ?_) (a' := ?_) #[true, true, true, true, true, true, true, true, true, false, true, true, true, false, true, true, true, false, false, false, false, false, false, false] rfl rfl (any_of HT_.out (by kernel_rfl)) (fun _ _ _ h => h) (Or.inl ⟨by rfl, ?_⟩) ?_ ?_
                                rotate_left
                                · intro w'
                                  go_simp
                                  with_reducible rfl
                                rotate_left
                                · simp only [Act.put, List.setIfInBounds_toArray, List.set_cons_zero, List.set_cons_succ, i64_w, i32_w]
                                  rfl
                                refine pure_ (i := 20) (N := some 57) (v := ?_) (a' := ?_) #[true, true, true, true, true, true, true, true, true, false, true, true, true, false, true, true, true, false, false, false, true, false, false, false] rfl rfl (any_of HT_.out (by kernel_rfl)) (fun _ _ _ h => h) (Or.inl ⟨by rfl, ?_⟩) ?_ ?_
                                rotate_left
                                · intro w'
                                  go_simp
                                  with_reducible rfl
                                rotate_left
                                · simp only [Act.put, List.setIfInBounds_toArray, List.set_cons_zero, List.set_cons_succ, i64_w, i32_w]
                                  rfl
                                refine take_ (i := 9) (N := some 46) (v := ?_) (a' := ?_) #[true, true, true, true, true, true, true, true, true, true, true, true, true, false, true, true, true, false, false, false, true, false, false, false] rfl rfl (take_ofW HT_.out HW_.out (by kernel_rfl)) (fun _ _ _ h => h) (Or.inl ⟨by rfl, ?_⟩) hHeld ?_ ?_
                                rotate_left
                                · rintro w' ⟨s0, s1, s2⟩
                                  go_simp
                                  with_reducible rfl
                                rotate_left
                                · simp only [Act.put, List.setIfInBounds_toArray, List.set_cons_zero, List.set_cons_succ, i64_w, i32_w]
                                  rfl
                                refine take_ (i := 13) (N := some 50) (v := ?_) (a' := ?_) #[true, true, true, true, true, true, true, true, true, true, true, true, true, true, true, true, true, false, false, false, true, false, false, false] rfl rfl (take_ofW HT_.out HW_.out (by kernel_rfl)) (fun _ _ _ h => h) (Or.inl ⟨by rfl, ?_⟩) hHeld ?_ ?_
                                rotate_left
                                · rintro w' ⟨s0, s1, s2⟩
                                  go_simp
                                  with_reducible rfl
                                rotate_left
                                · simp only [Act.put, List.setIfInBounds_toArray, List.set_cons_zero, List.set_cons_succ, i64_w, i32_w]
                                  rfl
                                refine take_ (i := 17) (N := some 54) (v := ?_) (a' := ?_) #[true, true, true, true, true, true, true, true, true, true, true, true, true, true, true, true, true, true, false, false, true, false, false, false] rfl rfl (take_ofW HT_.out HW_.out (by kernel_rfl)) (fun _ _ _ h => h) (Or.inl ⟨by rfl, ?_⟩) hHeld ?_ ?_
                                rotate_left
                                · rintro w' ⟨s0, s1, s2⟩
                                  go_simp
                                  with_reducible rfl
                                rotate_left
                                · simp only [Act.put, List.setIfInBounds_toArray, List.set_cons_zero, List.set_cons_succ, i64_w, i32_w]
                                  rfl
                                refine pure_ (i := 18) (N := some 55) (v := ?_) (a' := ?_) #[true, true, true, true, true, true, true, true, true, true, true, true, true, true, true, true, true, true, true, false, true, false, false, false] rfl rfl (any_of HT_.out (by kernel_rfl)) (fun _ _ _ h => h) (Or.inl ⟨by rfl, ?_⟩) ?_ ?_
                                rotate_left
                                · intro w'
                                  go_simp
                                  with_reducible rfl
                                rotate_left
                                · simp only [Act.put, List.setIfInBounds_toArray, List.set_cons_zero, List.set_cons_succ, i64_w, i32_w]
                                  rfl
                                refine pure_ (i := 19) (N := some 56) (v := ?_) (a' := ?_) #[true, true, true, true, true, true, true, true, true, true, true, true, true, true, true, true, true, true, true, true, true, false, false, false] rfl rfl (any_of HT_.out (by kernel_rfl)) (fun _ _ _ h => h) (Or.inl ⟨by rfl, ?_⟩) ?_ ?_
                                rotate_left
                                · intro w'
                                  go_simp
                                  with_reducible rfl
                                rotate_left
                                · simp only [Act.put, List.setIfInBounds_toArray, List.set_cons_zero, List.set_cons_succ, i64_w, i32_w]
                                  rfl
                                refine pure_ (i := 21) (N := some 58) (v := ?_) (a' := ?_) #[true, true, true, true, true, true, true, true, true, true, true, true, true, true, true, true, true, true, true, true, true, true, false, false] rfl rfl (any_of HT_.out (by kernel_rfl)) (fun _ _ _ h => h) (Or.inl ⟨by rfl, ?_⟩) ?_ ?_
                                rotate_left
                                · intro w'
                                  go_simp
                                  with_reducible rfl
                                rotate_left
                                · simp only [Act.put, List.setIfInBounds_toArray, List.set_cons_zero, List.set_cons_succ, i64_w, i32_w]
                                  rfl
                                refine pure_ (i := 22) (N := some 59) (v := ?_) (a' := ?_) #[true, true, true, true, true, true, true, true, true, true, true, true, true, true, true, true, true, true, true, true, true, true, true, false] rfl rfl (any_of HT_.out (by kernel_rfl)) (fun _ _ _ h => h) (Or.inl ⟨by rfl, ?_⟩) ?_ ?_
                                rotate_left
                                · intro w'
                                  go_simp
                                  with_reducible rfl
                                rotate_left
                                · simp only [Act.put, List.setIfInBounds_toArray, List.set_cons_zero, List.set_cons_succ, i64_w, i32_w]
                                  rfl
                                refine last_ (i := 23) (N := none) #[true, true, true, true, true, true, true, true, true, true, true, true, true, true, true, true, true, true, true, true, true, true, true, true] rfl rfl (one_of HT_.out (by kernel_rfl)) (by decide) (fun K hK => ?_)
                                refine skip_ (w1 := ?_) (by rfl) rfl ?_ ?_
                                rotate_left
                                · go_simp
                                  rfl
                                refine hK.out _ _ ?_
                                clear hK K
                                refine done_ (done_of HT_.out (by kernel_rfl)) ?_
                                try go_wp2
                                (first | go_roundg k3 | (refine Handed.intro k3 ?measure ?_; rotate_left; go_step; (repeat rw [add_plain]); (repeat apply Exists.intro); refine ⟨?rel, rfl⟩))
                                case measure => have := HJ3.out; have := HK2.out; have := HK3.out; omega
                                case rel => exact ⟨(y463), (wrap64 (x9_3 + 1)), (by first | rfl | (simp; done) | (simp [*]; done)), H', ⟨by have := HJ3.out; have := HK2.out; have := HK3.out; omega⟩, ⟨by (with_reducible repeat (first | apply Kd.R_alloc | apply Kd.R_drewN | apply Kd.R_drew)); exact HQ24.out⟩, ⟨by repeat (first | (with_reducible first | exact HB.out | apply below_alloc | apply pw_below_drewN | apply below_drew1 | refine below_set ?_ GB21.out) | exact HB.out)⟩⟩
                            · rw [if_neg c19] at H
                              exact absurd H (by simp)
                          · rw [if_neg c18] at H
                            exact absurd H (by simp)
                        · rw [if_neg c17] at H
                          exact absurd H (by simp)
                      · rw [if_neg c16] at H
                        exact absurd H (by simp)
                    · rw [if_neg c15] at H
                      exact absurd H (by simp)
                  · rw [if_neg c13] at H
                    have c13b0 : decide (x9_3 < (l2.length : Int)) = false := decide_eq_false c13
                    clear c13
                    have H' := Aside0.mk H
                    clear H
                    go_wp2
                    (first | go_roundg k3 | (refine Handed.intro k3 ?measure ?_; rotate_left; go_step; (repeat rw [add_plain]); (repeat apply Exists.intro); refine ⟨?rel, rfl⟩))
                    case measure => have := HJ3.out; have := HK2.out; have := HK3.out; omega
                    case rel => exact ⟨(x7_3), (wrap64 (x8_2 + 1)), (by first | rfl | (simp; done) | (simp [*]; done)), H', ⟨by have := HJ3.out; have := HK2.out; have := HK3.out; omega⟩, ⟨by (with_reducible repeat (first | apply Kd.R_alloc | apply Kd.R_drewN | apply Kd.R_drew)); exact HO_7.out⟩, ⟨by with_reducible repeat (first | exact HB.out | apply bA | apply bB | apply bC)⟩⟩
             · rw [if_neg c12] at H
               have c12b0 : decide (x8_2 < (l1.length : Int)) = false := decide_eq_false c12
               clear c12
               replace H := Option.bind_eq_some_iff.mp H
               obtain ⟨t457, A250, H⟩ := H
               replace H : (some t457) = some r := H
               have A25 := Aside0.mk A250
               clear A250
               obtain rfl := Option.some.inj H
               obtain ⟨Ao26, co26, eo26⟩ := Kd.R_slice HO_7.out
               subst eo26
               go_wp2_with (first | ((with_reducible refine gate_callee (f := 40) rfl ?_); refine goesL_ (some 61) rfl rfl Try.func40 (by kernel_rfl) rfl #[.slice Ao26 x7_2.length co26] rfl (by (try simp only [mA, mB, mC]); first | done | rfl | (simp only [lD, lT]; rfl)) ?_; (with_reducible refine (galoisref09_Trim.calls k2 (fun k_ => some k_ = (.slice Ao26 x7_2.length co26 : Value).ownBlock) _ _ x7_2 t457 _ ?side1 A25.out).mono ?_); (case side1 => exact Kd.R_V (Kd.R_tight rfl (HO_7.out))); rintro e w27 ⟨v458, rfl, ho0, hb⟩; refine ⟨_, rfl, ?_⟩; have n0_ := Aside0.mk (Kd.R_below (by (with_reducible repeat (first | apply Kd.R_alloc | apply Kd.R_drewN | apply Kd.R_drew)); exact HO_7.out) hb); have n1_ := Aside0.mk (Kd.V_lower (Kd.V_mono (ok' := fun k_ => (w.heap.size ≤ k_)) ho0 (fun k_ hk_ => Or.elim hk_ (fun hs_ => ((HO_7.out).1 k_ hs_.symm)) (fun hn_ => (Nat.le_trans (below_size (by with_reducible repeat (first | exact HB.out | apply bA | apply bB | apply bC))) hn_)))) (below_size (by with_reducible repeat (first | exact HB.out | apply bA | apply bB | apply bC)))); have n2_ := Aside0.mk (below_step (by with_reducible repeat (first | exact HB.out | apply bA | apply bB | apply bC)) hb); clear HO_7; clear HB; have HO_7 := n0_; have HO459 := n1_; have HB := n2_; clear n0_ n1_ n2_; (try clear hb); (try clear hb2); (try clear hk); (try clear hi); (try clear ho0)))
               go_ret
               exact ⟨_, by first | rfl | (simp [errW_none, errW_some] <;> rfl) | (simp only [← hji7]; first | rfl | (simp [errW_none, errW_some] <;> rfl)) | (simp [*, errW_none, errW_some] <;> rfl), by (with_reducible repeat (first | apply vA | apply vB | apply vC)); exact HO459.out, by with_reducible repeat (first | exact HB.out | apply bA | apply bB | apply bC)⟩
        · rw [if_neg c9] at H
          exact absurd H (by simp)
      · rw [if_neg c8] at H
        exact absurd H (by simp)

end Go.Proofs.Ytmknclgamadphaa.PPolymodValues
