-- WRITTEN BY sprint.py (a program of this repo, over the kit's print.py): nothing here is trusted, Lean checks it.
import Derived.Test.YtmknclgamadphaaPPolymodPrimesx0
import Derived.Test.YtmknclgamadphaaPPolymodPrimesx2
namespace Go.Proofs.Ytmknclgamadphaa.PPolymodPrimes
open Go.RowKit Go.Proofs.YtmknclgamadphaaW.PrintWords Go.Proofs.YtmknclgamadphaaW.PrintLast Go.Proofs.YtmknclgamadphaaW.PrintMore
attribute [local go_sem] max2_int min2_int max_two min_two max_three min_three max_four min_four   -- for this text's walks alone
set_option linter.unusedVariables false
set_option linter.unusedSimpArgs false

/-! ### fp_Mul: function 67 -/
mutual
def fp_Mul.j0 : Nat → Int → List Int → List Int → Bool → Option (List Int)
 | 0, _, _, _, _ => none
 | k + 1, x0, x1, x2, x19 => if x19 = true then (some ([] : List Int)) else (if 0 ≤ (wrap64 ((wrap64 ((x1.length : Int) + (x2.length : Int))) - 1)) then (if (wrap64 ((wrap64 ((x1.length : Int) + (x2.length : Int))) - 1) : Int).toNat ≤ 35184372088832 then (fp_Mul.l0 k x0 x2 (List.replicate (wrap64 ((wrap64 ((x1.length : Int) + (x2.length : Int))) - 1) : Int).toNat 0) x1 (x1.length : Int) 0) else (none)) else (none))
def fp_Mul.l0 : Nat → Int → List Int → List Int → List Int → Int → Int → Option (List Int)
 | 0, _, _, _, _, _, _ => none
 | k + 1, x0, x2, x7, x27, x28, x29 => if x29 < x28 then (if 0 ≤ x29 then (if x29 < (x27.length : Int) then (fp_Mul.l1 k x0 x2 x7 x29 (rd x27 x29) x27 x28 x29 x2 (x2.length : Int) 0) else (none)) else (none)) else ((fp_Trim.f k x7).bind fun t193 => (some t193))
def fp_Mul.l1 : Nat → Int → List Int → List Int → Int → Int → List Int → Int → Int → List Int → Int → Int → Option (List Int)
 | 0, _, _, _, _, _, _, _, _, _, _, _ => none
 | k + 1, x0, x2, x7, x8, x9, x27, x28, x29, x34, x35, x36 => if x36 < x35 then (if 0 ≤ x36 then (if x36 < (x34.length : Int) then (if 0 ≤ (wrap64 (x8 + x36)) then (if (wrap64 (x8 + x36)) < (x7.length : Int) then (if x0 = 0 then (none) else (fp_Mul.l1 k x0 x2 (x7.set ((wrap64 (x8 + x36)) : Int).toNat (Int.tmod (wrap64 ((rd x7 (wrap64 (x8 + x36))) + (wrap64 (x9 * (rd x34 x36))))) x0)) x8 x9 x27 x28 x29 x34 x35 (wrap64 (x36 + 1)))) else (none)) else (none)) else (none)) else (none)) else (fp_Mul.l0 k x0 x2 x7 x27 x28 (wrap64 (x29 + 1)))
end
def fp_Mul.f (k : Nat) (a0 : Int) (l1 : List Int) (l2 : List Int) : Option (List Int) := if (l1.length : Int) = 0 then (fp_Mul.j0 k a0 l1 l2 true) else (fp_Mul.j0 k a0 l1 l2 ((l2.length : Int) == 0))
theorem fp_Mul.mono_l : ∀ k, (∀ y0 y1 y2 y3, LeO (fp_Mul.j0 k y0 y1 y2 y3) (fp_Mul.j0 (k + 1) y0 y1 y2 y3)) ∧ (∀ y0 y1 y2 y3 y4 y5, LeO (fp_Mul.l0 k y0 y1 y2 y3 y4 y5) (fp_Mul.l0 (k + 1) y0 y1 y2 y3 y4 y5)) ∧ (∀ y0 y1 y2 y3 y4 y5 y6 y7 y8 y9 y10, LeO (fp_Mul.l1 k y0 y1 y2 y3 y4 y5 y6 y7 y8 y9 y10) (fp_Mul.l1 (k + 1) y0 y1 y2 y3 y4 y5 y6 y7 y8 y9 y10))
 | 0 => ⟨fun _ _ _ _ r h => by simp [fp_Mul.j0] at h, fun _ _ _ _ _ _ r h => by simp [fp_Mul.l0] at h, fun _ _ _ _ _ _ _ _ _ _ _ r h => by simp [fp_Mul.l1] at h⟩
 | k + 1 => by
   obtain ⟨ih0, ih1, ih2⟩ := fp_Mul.mono_l k
   refine ⟨?_, ?_, ?_⟩
   · intro y0 y1 y2 y3
     unfold fp_Mul.j0
     repeat' first
     | (with_reducible apply ih0)
     | (with_reducible apply ih1)
     | (with_reducible apply ih2)
     | (with_reducible apply fp_Trim.mono)
     | (with_reducible apply LeO.refl)
     | (with_reducible apply LeO.none)
     | (with_reducible refine LeO.ite ?_ ?_)
     | (with_reducible refine LeO.bind ?_ (fun _ => ?_))
   · intro y0 y1 y2 y3 y4 y5
     unfold fp_Mul.l0
     repeat' first
     | (with_reducible apply ih0)
     | (with_reducible apply ih1)
     | (with_reducible apply ih2)
     | (with_reducible apply fp_Trim.mono)
     | (with_reducible apply LeO.refl)
     | (with_reducible apply LeO.none)
     | (with_reducible refine LeO.ite ?_ ?_)
     | (with_reducible refine LeO.bind ?_ (fun _ => ?_))
   · intro y0 y1 y2 y3 y4 y5 y6 y7 y8 y9 y10
     unfold fp_Mul.l1
     repeat' first
     | (with_reducible apply ih0)
     | (with_reducible apply ih1)
     | (with_reducible apply ih2)
     | (with_reducible apply fp_Trim.mono)
     | (with_reducible apply LeO.refl)
     | (with_reducible apply LeO.none)
     | (with_reducible refine LeO.ite ?_ ?_)
     | (with_reducible refine LeO.bind ?_ (fun _ => ?_))
theorem fp_Mul.mono : ∀ a0 a1 a2 k, LeO (fp_Mul.f k a0 a1 a2) (fp_Mul.f (k + 1) a0 a1 a2) := by
 intro a0 a1 a2 k
 obtain ⟨ih0, ih1, ih2⟩ := fp_Mul.mono_l k
 unfold fp_Mul.f
 repeat' first
  | (with_reducible apply ih0)
  | (with_reducible apply ih1)
  | (with_reducible apply ih2)
  | (with_reducible apply fp_Trim.mono)
  | (with_reducible apply LeO.refl)
  | (with_reducible apply LeO.none)
  | (with_reducible refine LeO.ite ?_ ?_)
  | (with_reducible refine LeO.bind ?_ (fun _ => ?_))
set_option maxHeartbeats 8000000 in
set_option maxRecDepth 100000 in
theorem fp_Mul.calls (k : Nat) (a0 : Int) (A1 : Option Addr) (c1 : Nat) (l1 : List Int) (A2 : Option Addr) (c2 : Nat) (l2 : List Int) (r : List Int) (w : World) (hr1 : Kd.C (Kd.int .i64) w A1 l1.length l1) (hc1 : l1.length ≤ c1) (hr2 : Kd.C (Kd.int .i64) w A2 l2.length l2) (hc2 : l2.length ≤ c2) (h : fp_Mul.f k a0 l1 l2 = some r) :
 Calls Try.prog 67 #[.int .i64 a0, .slice A1 l1.length c1, .slice A2 l2.length c2] w fun e w' => ∃ v0_ : Value, e = .returned (v0_) ∧ Kd.V (Kd.int .i64) 3 w' w.heap.size (fun k_ => (w.heap.size ≤ k_)) v0_ r ∧ Below w.heap.size w w' := by
 have HR1 := ak hr1
 have HC1 := ak hc1
 clear hr1 hc1
 have HR2 := ak hr2
 have HC2 := ak hc2
 clear hr2 hc2
 have HB := ak (Below.refl w.heap.size w)
 have H : (if (l1.length : Int) = 0 then (fp_Mul.j0 k a0 l1 l2 true) else (fp_Mul.j0 k a0 l1 l2 ((l2.length : Int) == 0))) = some r := h
 clear h
 have HC4 := ak H
 clear H
 go_enter Try.func67, Try.ntmps67
 go_upto_region 1 with (fail)
 go_cut [19] (fun v19 wc => ∃ (kq : Nat) (x19_3 : Bool), v19 = .bool x19_3 ∧ Aside0 (fp_Mul.j0 kq a0 l1 l2 x19_3 = some r) ∧ Aside0 (kq ≤ k) ∧ Aside0 (Below w.heap.size w wc))
 case first =>
  have H := HC4.out
  clear HC4
  by_cases c5 : (l1.length : Int) = 0
  · rw [if_pos c5] at H
    have c5b0 : ((l1.length : Int) == 0) = true := beq_iff_eq.mpr c5
    have c5b1 : ((l1.length : Int) != 0) = false := bne_eq_false_iff_eq.mpr c5
    clear c5
    (first | rw [c5b0] | (simp only [i64_w, i32_w]; rw [c5b0]) | skip)
    as_aux_lemma =>
     have H' := ak H
     clear H
     go_wp2
     go_meet
     case rel => exact ⟨_, (true), (by first | rfl | (simp; done) | (simp [*]; done)), H', ⟨by first | omega | exact Nat.le_refl _⟩, ⟨by repeat (first | (with_reducible first | exact HB.out | apply bA | apply bB | apply bC) | exact HB.out)⟩⟩
  · rw [if_neg c5] at H
    have c5b0 : ((l1.length : Int) == 0) = false := beq_eq_false_iff_ne.mpr c5
    have c5b1 : ((l1.length : Int) != 0) = true := bne_iff_ne.mpr c5
    have c5b2 : ¬ (l1 = []) := fun h_ => c5 (by rw [h_]; rfl)
    (first | rw [c5b0] | (simp only [i64_w, i32_w]; rw [c5b0]) | skip)
    as_aux_lemma =>
     have H' := ak H
     clear H
     go_wp2
     go_meet
     case rel => exact ⟨_, (((l2.length : Int) == 0)), (by first | rfl | (simp; done) | (simp [*]; done)), H', ⟨by first | omega | exact Nat.le_refl _⟩, ⟨by repeat (first | (with_reducible first | exact HB.out | apply bA | apply bB | apply bC) | exact HB.out)⟩⟩
 case rest =>
  clear HC4
  try clear c1
  try clear c2
  try clear p2
  try clear c5
  try clear c5b0
  try clear c5b1
  try clear c5b2
  obtain ⟨kq, x19_3, rfl, HA, HJ3, HB⟩ := hcut
  cases kq with
  | zero => exact absurd HA.out (by simp [fp_Mul.j0])
  | succ kj3 =>
    have H := HA.out
    clear HA
    simp only [fp_Mul.j0] at H
    by_cases c6 : x19_3 = true
    · subst c6
      have H1 : (some ([] : List Int)) = some r := by rw [if_pos rfl] at H; exact H
      clear H
      have H := H1
      clear H1
      as_aux_lemma =>
       obtain rfl := Option.some.inj H
       go_wp2
       go_ret
       exact ⟨(.slice none 0 0), by first | rfl | (simp [errW_none, errW_some] <;> rfl) | (simp [*, errW_none, errW_some] <;> rfl), (Kd.V_nil _ _ _ _ _), by repeat (first | (with_reducible first | exact HB.out | apply bA | apply bB | apply bC) | exact HB.out)⟩
    · replace c6 := Bool.eq_false_iff.mpr c6
      subst c6
      have H1 : (if 0 ≤ (wrap64 ((wrap64 ((l1.length : Int) + (l2.length : Int))) - 1)) then (if (wrap64 ((wrap64 ((l1.length : Int) + (l2.length : Int))) - 1) : Int).toNat ≤ 35184372088832 then (fp_Mul.l0 kj3 a0 l2 (List.replicate (wrap64 ((wrap64 ((l1.length : Int) + (l2.length : Int))) - 1) : Int).toNat 0) l1 (l1.length : Int) 0) else (none)) else (none)) = some r := by rw [if_neg (show ¬ (false = true) by decide)] at H; exact H
      clear H
      have H := H1
      clear H1
      obtain ⟨ji7, hji7⟩ : ∃ j_ : Int, (wrap64 ((wrap64 ((l1.length : Int) + (l2.length : Int))) - 1)) = j_ := ⟨_, rfl⟩
      replace H : (if 0 ≤ (ji7) then (if (ji7 : Int).toNat ≤ 35184372088832 then (fp_Mul.l0 kj3 a0 l2 (List.replicate (ji7 : Int).toNat 0) l1 (l1.length : Int) 0) else (none)) else (none)) = some r := by first | (rw [hji7] at H; exact H) | (simp only [hji7] at H ⊢; exact H)
      have hji7w : (IntKind.i64.wrap ((wrap64 ((l1.length : Int) + (l2.length : Int))) - 1)) = ji7 := (i64_w _).trans hji7
      by_cases c8 : 0 ≤ (ji7)
      · rw [if_pos c8] at H
        have c8b0 := eq_true c8
        have c8b1 : decide (0 ≤ (ji7)) = true := decide_eq_true c8
        clear c8
        by_cases c9 : (ji7 : Int).toNat ≤ 35184372088832
        · rw [if_pos c9] at H
          have c9b0 := eq_true c9
          have c9b1 : decide ((ji7 : Int).toNat ≤ 35184372088832) = true := decide_eq_true c9
          clear c9
          obtain ⟨y190, hy190⟩ : ∃ y_ : List Int, y_ = (List.replicate (ji7 : Int).toNat 0) := ⟨_, rfl⟩
          replace H : (fp_Mul.l0 kj3 a0 l2 y190 l1 (l1.length : Int) 0) = some r := by first | (rw [hy190]; with_reducible exact H) | (have H2_ := (Option.bind_some _ _).symm.trans H; rw [hy190]; with_reducible exact H2_) | (have H2_ := (Option.bind_some _ _).symm.trans H; with_reducible exact H2_) | with_reducible exact H | (rw [hy190]; exact H) | exact H
          have Ny190 := ak hy190
          clear hy190
          have H' := ak H
          clear H
          go_wp2_with (first | ((with_reducible refine gate_dst (N := 26) rfl ?_); (try (refine gate_guard (by rfl) ?_; dsimp only)); refine Kd.R_make (Kd.int .i64) _ 3 rfl (N := 26) rfl 23 _ _ rfl ji7 rfl rfl Try.underlying23 (.int .i64 0) 8 info3 rfl (by decide) (by omega) 0 (ok := fun _ => True) (okp := fun _ => True) rfl (fun _ hk => hk) trivial (of_decide_eq_true aX) (Nat.le_trans (Nat.mul_le_mul_right _ (of_decide_eq_true aX : ji7.toNat ≤ 35184372088832)) (by omega)) (Below.refl _ _) (Nat.le_refl _) ?_; intro v191 w10 ho11 hb hg_ hnew_; clear hg_ hnew_; (first | rw [← Ny190.out] at ho11 | (simp only [Int.reduceToNat] at ho11; rw [← Ny190.out] at ho11)); have n0_ := ak (Kd.R_lower (Kd.R_newM (M := fun k_ => (w.heap.size ≤ k_)) ho11 (below_size bX) (fun k_ h_ => h_)) (below_size bX)); have n1_ := ak (below_step bX hb); clear HB; have HO192 := n0_; have HB := n1_; clear n0_ n1_; clear hb ho11))
          go_loopg [29] kj3 (fun kq v29 w' => ∃ (x7_2 : List Int) (x29_2 : Int), v29 = .int .i64 x29_2 ∧ Aside0 (fp_Mul.l0 kq a0 l2 x7_2 l1 (l1.length : Int) x29_2 = some r) ∧ Aside0 (kq ≤ kj3) ∧ Aside0 (Kd.R (Kd.int .i64) 3 w' w.heap.size (fun k_ => (w.heap.size ≤ k_)) v191 x7_2) ∧ Aside0 (Below w.heap.size w w'))
          case atStart => exact ⟨(y190), (0), (by first | rfl | (simp; done) | (simp [*]; done)), H', ⟨Nat.le_refl _⟩, ⟨by (with_reducible repeat (first | apply Kd.R_alloc | apply Kd.R_drewN | apply Kd.R_drew)); exact Kd.R_mono HO192.out (fun _ hk => hk.1)⟩, ⟨by repeat (first | (with_reducible first | exact HB.out | apply bA | apply bB | apply bC) | exact HB.out)⟩⟩
          case round =>
           clear H'
           try clear c1
           try clear c2
           try clear p2
           try clear c5
           try clear c5b0
           try clear c5b1
           try clear c5b2
           try clear c6
           try clear p6
           try clear c8
           try clear c8b0
           try clear c8b1
           try clear c9
           try clear c9b0
           try clear c9b1
           try clear p2
           obtain ⟨x7_2, x29_2, rfl, HA, HK2, HO_7, HB⟩ := hrel
           cases gk with
           | zero => exact absurd HA.out (by simp [fp_Mul.l0])
           | succ k2 =>
             have H := HA.out
             clear HA
             simp only [fp_Mul.l0] at H
             by_cases c12 : x29_2 < (l1.length : Int)
             · rw [if_pos c12] at H
               have c12b0 : decide (x29_2 < (l1.length : Int)) = true := decide_eq_true c12
               clear c12
               by_cases c13 : 0 ≤ x29_2
               · rw [if_pos c13] at H
                 have c13b0 : decide (0 ≤ x29_2) = true := decide_eq_true c13
                 clear c13
                 by_cases c14 : x29_2 < (l1.length : Int)
                 · rw [if_pos c14] at H
                   have c14b0 : decide (x29_2 < (l1.length : Int)) = true := decide_eq_true c14
                   clear c14
                   have H' := ak H
                   clear H
                   have p196 : 0 ≤ (x29_2 : Int) := of_decide_eq_true aX
                   have q196 : x29_2 < (l1.length : Int) := of_decide_eq_true aX
                   obtain ⟨ad196, e196, hx196_0⟩ := Kd.at_int HR1.out x29_2 p196 q196
                   cases e196
                   replace hx196_0 := (HB.out.cell (World.block_lt_of_cell? w _ hx196_0)).trans hx196_0
                   replace p196 := eq_true p196
                   replace q196 := eq_true q196
                   go_wp2
                   go_loopg [36] k2 (fun kq v36 w' => ∃ (x7_3 : List Int) (x36_3 : Int), v36 = .int .i64 x36_3 ∧ Aside0 (fp_Mul.l1 kq a0 l2 x7_3 x29_2 (rd l1 x29_2) l1 (l1.length : Int) x29_2 l2 (l2.length : Int) x36_3 = some r) ∧ Aside0 (kq ≤ k2) ∧ Aside0 (Kd.R (Kd.int .i64) 3 w' w.heap.size (fun k_ => (w.heap.size ≤ k_)) v191 x7_3) ∧ Aside0 (Below w.heap.size w w'))
                   case atStart => exact ⟨(x7_2), (0), (by first | rfl | (simp; done) | (simp [*]; done)), H', ⟨Nat.le_refl _⟩, ⟨by (with_reducible repeat (first | apply Kd.R_alloc | apply Kd.R_drewN | apply Kd.R_drew)); exact HO_7.out⟩, ⟨by repeat (first | (with_reducible first | exact HB.out | apply bA | apply bB | apply bC) | exact HB.out)⟩⟩
                   case round =>
                    clear H'
                    try clear c1
                    try clear p1
                    try clear q1
                    try clear hx1
                    try clear c2
                    try clear p2
                    try clear c5
                    try clear c5b0
                    try clear c5b1
                    try clear c5b2
                    try clear c6
                    try clear p6
                    try clear c8
                    try clear c8b0
                    try clear c8b1
                    try clear c9
                    try clear c9b0
                    try clear c9b1
                    try clear c12
                    try clear c12b0
                    try clear c13
                    try clear c13b0
                    try clear c14
                    try clear c14b0
                    try clear hx196_0
                    try clear p196
                    try clear p2
                    try clear p6
                    try clear q196
                    obtain ⟨x7_3, x36_3, rfl, HA, HK3, HO_7, HB⟩ := hrel
                    cases gk with
                    | zero => exact absurd HA.out (by simp [fp_Mul.l1])
                    | succ k3 =>
                      have H := HA.out
                      clear HA
                      simp only [fp_Mul.l1] at H
                      by_cases c15 : x36_3 < (l2.length : Int)
                      · rw [if_pos c15] at H
                        have c15b0 : decide (x36_3 < (l2.length : Int)) = true := decide_eq_true c15
                        clear c15
                        by_cases c16 : 0 ≤ x36_3
                        · rw [if_pos c16] at H
                          have c16b0 : decide (0 ≤ x36_3) = true := decide_eq_true c16
                          clear c16
                          by_cases c17 : x36_3 < (l2.length : Int)
                          · rw [if_pos c17] at H
                            have c17b0 : decide (x36_3 < (l2.length : Int)) = true := decide_eq_true c17
                            clear c17
                            obtain ⟨ji18, hji18⟩ : ∃ j_ : Int, (wrap64 (x29_2 + x36_3)) = j_ := ⟨_, rfl⟩
                            replace H : (if 0 ≤ (ji18) then (if (ji18) < (x7_3.length : Int) then (if a0 = 0 then (none) else (fp_Mul.l1 k3 a0 l2 (x7_3.set ((ji18) : Int).toNat (Int.tmod (wrap64 ((rd x7_3 (ji18)) + (wrap64 ((rd l1 x29_2) * (rd l2 x36_3))))) a0)) x29_2 (rd l1 x29_2) l1 (l1.length : Int) x29_2 l2 (l2.length : Int) (wrap64 (x36_3 + 1)))) else (none)) else (none)) = some r := by first | (rw [hji18] at H; exact H) | (simp only [hji18] at H ⊢; exact H)
                            have hji18w : (IntKind.i64.wrap (x29_2 + x36_3)) = ji18 := (i64_w _).trans hji18
                            by_cases c19 : 0 ≤ (ji18)
                            · rw [if_pos c19] at H
                              have c19b0 : decide (0 ≤ (ji18)) = true := decide_eq_true c19
                              clear c19
                              by_cases c20 : (ji18) < (x7_3.length : Int)
                              · rw [if_pos c20] at H
                                have c20b0 : decide ((ji18) < (x7_3.length : Int)) = true := decide_eq_true c20
                                clear c20
                                by_cases c21 : a0 = 0
                                · rw [if_pos c21] at H
                                  exact absurd H (by simp)
                                · rw [if_neg c21] at H
                                  have c21b0 : (a0 == 0) = false := beq_eq_false_iff_ne.mpr c21
                                  have c21b1 : (a0 != 0) = true := bne_iff_ne.mpr c21
                                  obtain ⟨y199, hy199⟩ : ∃ y_ : List Int, y_ = (x7_3.set ((ji18) : Int).toNat (Int.tmod (wrap64 ((rd x7_3 (ji18)) + (wrap64 ((rd l1 x29_2) * (rd l2 x36_3))))) a0)) := ⟨_, rfl⟩
                                  replace H : (fp_Mul.l1 k3 a0 l2 y199 x29_2 (rd l1 x29_2) l1 (l1.length : Int) x29_2 l2 (l2.length : Int) (wrap64 (x36_3 + 1))) = some r := by first | (rw [hy199]; with_reducible exact H) | (have H2_ := (Option.bind_some _ _).symm.trans H; rw [hy199]; with_reducible exact H2_) | (have H2_ := (Option.bind_some _ _).symm.trans H; with_reducible exact H2_) | with_reducible exact H | (rw [hy199]; exact H) | exact H
                                  have Ny199 := ak hy199
                                  clear hy199
                                  as_aux_lemma =>
                                   have H' := ak H
                                   clear H
                                   have p197 : 0 ≤ (x36_3 : Int) := of_decide_eq_true aX
                                   have q197 : x36_3 < (l2.length : Int) := of_decide_eq_true aX
                                   obtain ⟨ad197, e197, hx197_0⟩ := Kd.at_int HR2.out x36_3 p197 q197
                                   cases e197
                                   replace hx197_0 := (HB.out.cell (World.block_lt_of_cell? w _ hx197_0)).trans hx197_0
                                   replace p197 := eq_true p197
                                   replace q197 := eq_true q197
                                   obtain ⟨Ao23, co23, eo23⟩ := Kd.R_slice HO_7.out
                                   subst eo23
                                   have p198 : 0 ≤ ((ji18) : Int) := of_decide_eq_true aX
                                   have q198 : (ji18) < (x7_3.length : Int) := of_decide_eq_true aX
                                   obtain ⟨ad198, e198, hx198_0⟩ := Kd.at_int (Kd.R_reads' HO_7.out).2.2 (ji18) p198 q198
                                   cases e198
                                   replace p198 := eq_true p198
                                   replace q198 := eq_true q198
                                   have p22 : 0 ≤ ((ji18) : Int) := of_decide_eq_true aX
                                   have q22 : ((ji18) : Int) < ((x7_3.length : Int) : Int) := of_decide_eq_true aX
                                   obtain ⟨go22, co22, eo22, gb22, gl22, cl22, HG22⟩ := Kd.R_form HO_7.out (by omega)
                                   (first | cases eo22 | (injection eo22 with ea_ en_ ec_; (first | subst ea_ | (injection ea_ with ea_; subst ea_)); subst ec_; clear en_))
                                   have GB22 := ak gb22
                                   have GG22 := ak HG22
                                   clear gb22 gl22 HG22
                                   (first | simp only [add_plain] at hx198_0 | skip)
                                   obtain ⟨hx22_0, hf22_0⟩ := Kd.R_celln 0 HO_7.out ((ji18) : Int) p22 q22
                                   replace p22 := eq_true p22
                                   replace q22 := eq_true q22
                                   have HP24 := Kd.R_putg HO_7.out ((ji18) : Int) (Int.tmod (wrap64 ((rd x7_3 (ji18)) + (wrap64 ((rd l1 x29_2) * (rd l2 x36_3))))) a0)
                                   go_wp2_with (first | ((with_reducible refine gate_store (t := 3) (p := 57) rfl ?_); refine store_event (t := 3) (p := 57) (v := ?vo_w25) (w1 := (wr.setCell ⟨go22, ((ji18) : Int).toNat, none⟩ (.int .i64 (Int.tmod (wrap64 ((rd x7_3 (ji18)) + (wrap64 ((rd l1 x29_2) * (rd l2 x36_3))))) a0)))) ?hg ?ho ?hn ?hr ?_; (case ho => rfl); (case hg => rfl); (case hn => rfl); (case hr => first | (go_simp; done) | (go_simp; rfl)); intro w25 hw; have hg : wr.grownBy w25 (some go22) := (by rw [hw]; exact HP24.2); have hp_ : Kd.R (Kd.int .i64) 3 w25 w.heap.size (fun k_ => (w.heap.size ≤ k_)) (.slice (some ⟨go22, 0, none⟩) x7_3.length co23) y199 := (by rw [hw, Ny199.out]; exact HP24.1); clear HP24; have n0_ := ak (hp_); have n1_ := ak ((by rw [hw]; exact below_set (HB.out) GB22.out : Below w.heap.size w w25)); clear HO_7; clear HB; have HO_7 := n0_; have HB := n1_; clear n0_ n1_; clear hg hw hp_))
                                   (first | go_roundg k3 | (refine Handed.intro k3 ?measure ?_; rotate_left; go_step; (repeat rw [add_plain]); (repeat apply Exists.intro); refine ⟨?rel, rfl⟩))
                                   case measure => have := HJ3.out; have := HK2.out; have := HK3.out; omega
                                   case rel => exact ⟨(y199), (wrap64 (x36_3 + 1)), (by first | rfl | (simp; done) | (simp [*]; done)), H', ⟨by have := HJ3.out; have := HK2.out; have := HK3.out; omega⟩, ⟨by (with_reducible repeat (first | apply Kd.R_alloc | apply Kd.R_drewN | apply Kd.R_drew)); exact HO_7.out⟩, ⟨by repeat (first | (with_reducible first | exact HB.out | apply bA | apply bB | apply bC) | exact HB.out)⟩⟩
                              · rw [if_neg c20] at H
                                exact absurd H (by simp)
                            · rw [if_neg c19] at H
                              exact absurd H (by simp)
                          · rw [if_neg c17] at H
                            exact absurd H (by simp)
                        · rw [if_neg c16] at H
                          exact absurd H (by simp)
                      · rw [if_neg c15] at H
                        have c15b0 : decide (x36_3 < (l2.length : Int)) = false := decide_eq_false c15
                        clear c15
                        as_aux_lemma =>
                         have H' := ak H
                         clear H
                         go_wp2
                         (first | go_roundg k3 | (refine Handed.intro k3 ?measure ?_; rotate_left; go_step; (repeat rw [add_plain]); (repeat apply Exists.intro); refine ⟨?rel, rfl⟩))
                         case measure => have := HJ3.out; have := HK2.out; have := HK3.out; omega
                         case rel => exact ⟨(x7_3), (wrap64 (x29_2 + 1)), (by first | rfl | (simp; done) | (simp [*]; done)), H', ⟨by have := HJ3.out; have := HK2.out; have := HK3.out; omega⟩, ⟨by (with_reducible repeat (first | apply Kd.R_alloc | apply Kd.R_drewN | apply Kd.R_drew)); exact HO_7.out⟩, ⟨by repeat (first | (with_reducible first | exact HB.out | apply bA | apply bB | apply bC) | exact HB.out)⟩⟩
                 · rw [if_neg c14] at H
                   exact absurd H (by simp)
               · rw [if_neg c13] at H
                 exact absurd H (by simp)
             · rw [if_neg c12] at H
               have c12b0 : decide (x29_2 < (l1.length : Int)) = false := decide_eq_false c12
               clear c12
               replace H := Option.bind_eq_some_iff.mp H
               obtain ⟨t193, A260, H⟩ := H
               replace H : (some t193) = some r := H
               have A26 := ak A260
               clear A260
               as_aux_lemma =>
                obtain rfl := Option.some.inj H
                obtain ⟨Ao27, co27, eo27⟩ := Kd.R_slice HO_7.out
                subst eo27
                go_wp2_with (first | ((with_reducible refine gate_callee (f := 88) rfl ?_); refine goesL_ (some 61) rfl rfl Try.func88 (by kernel_rfl) rfl #[.slice Ao27 x7_2.length co27] rfl mX ?_; (with_reducible refine (fp_Trim.calls k2 (fun k_ => some k_ = (.slice Ao27 x7_2.length co27 : Value).ownBlock) _ _ x7_2 t193 _ ?side1 A26.out).mono ?_); (case side1 => exact Kd.R_V (Kd.R_tight rfl (HO_7.out))); rintro e w28 ⟨v194, rfl, ho0, hb⟩; refine ⟨_, rfl, ?_⟩; have n0_ := ak (Kd.R_below (rX HO_7.out) hb); have n1_ := ak (Kd.V_lower (Kd.V_mono (ok' := fun k_ => (w.heap.size ≤ k_)) ho0 (fun k_ hk_ => Or.elim hk_ (fun hs_ => ((HO_7.out).1 k_ hs_.symm)) (fun hn_ => (Nat.le_trans (below_size bX) hn_)))) (below_size bX)); have n2_ := ak (below_step bX hb); clear HO_7; clear HB; have HO_7 := n0_; have HO195 := n1_; have HB := n2_; clear n0_ n1_ n2_; (try clear hb); (try clear hb2); (try clear hk); (try clear hi); (try clear ho0)))
                go_ret
                exact ⟨_, by first | rfl | (simp [errW_none, errW_some] <;> rfl) | (simp only [← hji7]; first | rfl | (simp [errW_none, errW_some] <;> rfl)) | (simp [*, errW_none, errW_some] <;> rfl), by (with_reducible repeat (first | apply vA | apply vB | apply vC)); exact HO195.out, by repeat (first | (with_reducible first | exact HB.out | apply bA | apply bB | apply bC) | exact HB.out)⟩
        · rw [if_neg c9] at H
          exact absurd H (by simp)
      · rw [if_neg c8] at H
        exact absurd H (by simp)

/-! ### fp_MulMod: function 105 -/
def fp_MulMod.f (k : Nat) (a0 : Int) (l1 : List Int) (l2 : List Int) (l3 : List Int) : Option (List Int) := (fp_Mul.f k a0 l1 l2).bind fun t200 => ((fp_Rem.f k a0 t200 l3).bind fun t203 => (some t203))
theorem fp_MulMod.mono : ∀ a0 a1 a2 a3 k, LeO (fp_MulMod.f k a0 a1 a2 a3) (fp_MulMod.f (k + 1) a0 a1 a2 a3) := by
 intro a0 a1 a2 a3 k
 unfold fp_MulMod.f
 repeat' first
  | (with_reducible apply fp_Mul.mono)
  | (with_reducible apply fp_Rem.mono)
  | (with_reducible apply LeO.refl)
  | (with_reducible apply LeO.none)
  | (with_reducible refine LeO.ite ?_ ?_)
  | (with_reducible refine LeO.bind ?_ (fun _ => ?_))
set_option maxHeartbeats 8000000 in
set_option maxRecDepth 100000 in
theorem fp_MulMod.calls (k : Nat) (a0 : Int) (A1 : Option Addr) (c1 : Nat) (l1 : List Int) (A2 : Option Addr) (c2 : Nat) (l2 : List Int) (A3 : Option Addr) (c3 : Nat) (l3 : List Int) (r : List Int) (w : World) (hr1 : Kd.C (Kd.int .i64) w A1 l1.length l1) (hc1 : l1.length ≤ c1) (hr2 : Kd.C (Kd.int .i64) w A2 l2.length l2) (hc2 : l2.length ≤ c2) (hr3 : Kd.C (Kd.int .i64) w A3 l3.length l3) (hc3 : l3.length ≤ c3) (h : fp_MulMod.f k a0 l1 l2 l3 = some r) :
 Calls Try.prog 105 #[.int .i64 a0, .slice A1 l1.length c1, .slice A2 l2.length c2, .slice A3 l3.length c3] w fun e w' => ∃ v0_ : Value, e = .returned (v0_) ∧ Kd.V (Kd.int .i64) 3 w' w.heap.size (fun k_ => (w.heap.size ≤ k_)) v0_ r ∧ Below w.heap.size w w' := by
 have HR1 := ak hr1
 have HC1 := ak hc1
 clear hr1 hc1
 have HR2 := ak hr2
 have HC2 := ak hc2
 clear hr2 hc2
 have HR3 := ak hr3
 have HC3 := ak hc3
 clear hr3 hc3
 have HB := ak (Below.refl w.heap.size w)
 have H : ((fp_Mul.f k a0 l1 l2).bind fun t200 => ((fp_Rem.f k a0 t200 l3).bind fun t203 => (some t203))) = some r := h
 clear h
 replace H := Option.bind_eq_some_iff.mp H
 obtain ⟨t200, A50, H⟩ := H
 replace H : ((fp_Rem.f k a0 t200 l3).bind fun t203 => (some t203)) = some r := H
 have A5 := ak A50
 clear A50
 replace H := Option.bind_eq_some_iff.mp H
 obtain ⟨t203, A60, H⟩ := H
 replace H : (some t203) = some r := H
 have A6 := ak A60
 clear A60
 as_aux_lemma =>
  obtain rfl := Option.some.inj H
  go_enter Try.func105, Try.ntmps105
  go_wp2_with (first | ((with_reducible refine gate_callee (f := 67) rfl ?_); refine goesL_ (some 13) rfl rfl Try.func67 (by kernel_rfl) rfl #[.int .i64 a0, .slice A1 l1.length c1, .slice A2 l2.length c2] rfl mX ?_; (with_reducible refine (fp_Mul.calls k a0 _ _ l1 _ _ l2 t200 _ ?side1 ?side2 ?side3 ?side4 A5.out).mono ?_); (case side1 => repeat (first | exact HR1.out | (with_reducible first | apply cA | apply cB | apply cC))); (case side2 => exact HC1.out); (case side3 => repeat (first | exact HR2.out | (with_reducible first | apply cA | apply cB | apply cC))); (case side4 => exact HC2.out); rintro e w7 ⟨v201, rfl, ho0, hb⟩; refine ⟨_, rfl, ?_⟩; have n0_ := ak (Kd.V_lower (Kd.V_mono (ok' := fun k_ => (w.heap.size ≤ k_)) ho0 (fun k_ hk_ => (Nat.le_trans (below_size bX) hk_))) (below_size bX)); have n1_ := ak (below_step bX hb); clear HB; have HO202 := n0_; have HB := n1_; clear n0_ n1_; (try clear hb); (try clear hb2); (try clear hk); (try clear hi); (try clear ho0); obtain ⟨Ao8, co8, eo8⟩ := Kd.V_slice HO202.out; subst eo8) | ((with_reducible refine gate_callee (f := 70) rfl ?_); refine goesL_ (some 15) rfl rfl Try.func70 (by kernel_rfl) rfl #[.int .i64 a0, .slice Ao8 t200.length co8, .slice A3 l3.length c3] rfl mX ?_; (with_reducible refine (fp_Rem.calls k a0 _ _ t200 _ _ l3 t203 _ ?side1 ?side2 ?side3 ?side4 A6.out).mono ?_); (case side1 => exact cX (Kd.V_reads' HO202.out).2.2); (case side2 => exact (Kd.V_reads' HO202.out).2.1); (case side3 => exact cX (Kd.C_below HR3.out HB.out)); (case side4 => exact HC3.out); rintro e w9 ⟨v204, rfl, ho0, hb⟩; refine ⟨_, rfl, ?_⟩; have n0_ := ak (Kd.V_below (vX HO202.out) hb); have n1_ := ak (Kd.V_lower (Kd.V_mono (ok' := fun k_ => (w.heap.size ≤ k_)) ho0 (fun k_ hk_ => (Nat.le_trans (below_size bX) hk_))) (below_size bX)); have n2_ := ak (below_step bX hb); clear HO202; clear HB; have HO202 := n0_; have HO205 := n1_; have HB := n2_; clear n0_ n1_ n2_; (try clear hb); (try clear hb2); (try clear hk); (try clear hi); (try clear ho0)))
  go_ret
  exact ⟨_, by first | rfl | (simp [errW_none, errW_some] <;> rfl) | (simp [*, errW_none, errW_some] <;> rfl), by (with_reducible repeat (first | apply vA | apply vB | apply vC)); exact HO205.out, by repeat (first | (with_reducible first | exact HB.out | apply bA | apply bB | apply bC) | exact HB.out)⟩

/-! ### fp_PowMod: function 71 -/
mutual
def fp_PowMod.l0 : Nat → Int → ByteArray → List Int → List Int → List Int → Int → Int → Option (List Int)
 | 0, _, _, _, _, _, _, _ => none
 | k + 1, x0, x2, x3, x9, x10, x22, x23 => if x23 < x22 then (fp_PowMod.l1 k x0 x2 x3 x9 x10 x23 7 x22 x23) else (some x9)
def fp_PowMod.l1 : Nat → Int → ByteArray → List Int → List Int → List Int → Int → Int → Int → Int → Option (List Int)
 | 0, _, _, _, _, _, _, _, _, _ => none
 | k + 1, x0, x2, x3, x9, x10, x11, x12, x22, x23 => if x12 ≥ 0 then ((fp_MulMod.f k x0 x9 x9 x3).bind fun t215 => (if 0 ≤ x11 then (if x11 < (x2.size : Int) then (if 0 ≤ x12 then (if (Go.bits .and .u8 (shr .u8 (bt x2 x11) x12) 1) = 1 then ((fp_MulMod.f k x0 t215 x10 x3).bind fun t218 => (fp_PowMod.l1 k x0 x2 x3 t218 x10 x11 (wrap64 (x12 - 1)) x22 x23)) else (fp_PowMod.l1 k x0 x2 x3 t215 x10 x11 (wrap64 (x12 - 1)) x22 x23)) else (none)) else (none)) else (none))) else (fp_PowMod.l0 k x0 x2 x3 x9 x10 x22 (wrap64 (x23 + 1)))
end
def fp_PowMod.f (k : Nat) (a0 : Int) (l1 : List Int) (a2 : ByteArray) (l3 : List Int) : Option (List Int) := (fp_Rem.f k a0 (([1] : List Int)) l3).bind fun t209 => ((fp_Rem.f k a0 l1 l3).bind fun t212 => (fp_PowMod.l0 k a0 a2 l3 t209 t212 (a2.size : Int) 0))
theorem fp_PowMod.mono_l : ∀ k, (∀ y0 y1 y2 y3 y4 y5 y6, LeO (fp_PowMod.l0 k y0 y1 y2 y3 y4 y5 y6) (fp_PowMod.l0 (k + 1) y0 y1 y2 y3 y4 y5 y6)) ∧ (∀ y0 y1 y2 y3 y4 y5 y6 y7 y8, LeO (fp_PowMod.l1 k y0 y1 y2 y3 y4 y5 y6 y7 y8) (fp_PowMod.l1 (k + 1) y0 y1 y2 y3 y4 y5 y6 y7 y8))
 | 0 => ⟨fun _ _ _ _ _ _ _ r h => by simp [fp_PowMod.l0] at h, fun _ _ _ _ _ _ _ _ _ r h => by simp [fp_PowMod.l1] at h⟩
 | k + 1 => by
   obtain ⟨ih0, ih1⟩ := fp_PowMod.mono_l k
   refine ⟨?_, ?_⟩
   · intro y0 y1 y2 y3 y4 y5 y6
     unfold fp_PowMod.l0
     repeat' first
     | (with_reducible apply ih0)
     | (with_reducible apply ih1)
     | (with_reducible apply fp_MulMod.mono)
     | (with_reducible apply fp_Rem.mono)
     | (with_reducible apply LeO.refl)
     | (with_reducible apply LeO.none)
     | (with_reducible refine LeO.ite ?_ ?_)
     | (with_reducible refine LeO.bind ?_ (fun _ => ?_))
   · intro y0 y1 y2 y3 y4 y5 y6 y7 y8
     unfold fp_PowMod.l1
     repeat' first
     | (with_reducible apply ih0)
     | (with_reducible apply ih1)
     | (with_reducible apply fp_MulMod.mono)
     | (with_reducible apply fp_Rem.mono)
     | (with_reducible apply LeO.refl)
     | (with_reducible apply LeO.none)
     | (with_reducible refine LeO.ite ?_ ?_)
     | (with_reducible refine LeO.bind ?_ (fun _ => ?_))
theorem fp_PowMod.mono : ∀ a0 a1 a2 a3 k, LeO (fp_PowMod.f k a0 a1 a2 a3) (fp_PowMod.f (k + 1) a0 a1 a2 a3) := by
 intro a0 a1 a2 a3 k
 obtain ⟨ih0, ih1⟩ := fp_PowMod.mono_l k
 unfold fp_PowMod.f
 repeat' first
  | (with_reducible apply ih0)
  | (with_reducible apply ih1)
  | (with_reducible apply fp_MulMod.mono)
  | (with_reducible apply fp_Rem.mono)
  | (with_reducible apply LeO.refl)
  | (with_reducible apply LeO.none)
  | (with_reducible refine LeO.ite ?_ ?_)
  | (with_reducible refine LeO.bind ?_ (fun _ => ?_))
set_option maxHeartbeats 8000000 in
set_option maxRecDepth 100000 in
theorem fp_PowMod.calls (k : Nat) (a0 : Int) (A1 : Option Addr) (c1 : Nat) (l1 : List Int) (a2 : ByteArray) (A3 : Option Addr) (c3 : Nat) (l3 : List Int) (r : List Int) (w : World) (hr1 : Kd.C (Kd.int .i64) w A1 l1.length l1) (hc1 : l1.length ≤ c1) (hr3 : Kd.C (Kd.int .i64) w A3 l3.length l3) (hc3 : l3.length ≤ c3) (h : fp_PowMod.f k a0 l1 a2 l3 = some r) :
 Calls Try.prog 71 #[.int .i64 a0, .slice A1 l1.length c1, .string a2, .slice A3 l3.length c3] w fun e w' => ∃ v0_ : Value, e = .returned (v0_) ∧ Kd.V (Kd.int .i64) 3 w' w.heap.size (fun k_ => (w.heap.size ≤ k_)) v0_ r ∧ Below w.heap.size w w' := by
 have HR1 := ak hr1
 have HC1 := ak hc1
 clear hr1 hc1
 have HR3 := ak hr3
 have HC3 := ak hc3
 clear hr3 hc3
 have HB := ak (Below.refl w.heap.size w)
 have H : ((fp_Rem.f k a0 (([1] : List Int)) l3).bind fun t209 => ((fp_Rem.f k a0 l1 l3).bind fun t212 => (fp_PowMod.l0 k a0 a2 l3 t209 t212 (a2.size : Int) 0))) = some r := h
 clear h
 obtain ⟨y206, hy206⟩ : ∃ y_ : List Int, y_ = (([1] : List Int)) := ⟨_, rfl⟩
 replace H : ((fp_Rem.f k a0 y206 l3).bind fun t209 => ((fp_Rem.f k a0 l1 l3).bind fun t212 => (fp_PowMod.l0 k a0 a2 l3 t209 t212 (a2.size : Int) 0))) = some r := by first | (rw [hy206]; with_reducible exact H) | (have H2_ := (Option.bind_some _ _).symm.trans H; rw [hy206]; with_reducible exact H2_) | (have H2_ := (Option.bind_some _ _).symm.trans H; with_reducible exact H2_) | with_reducible exact H | (rw [hy206]; exact H) | exact H
 have Ny206 := ak hy206
 clear hy206
 replace H := Option.bind_eq_some_iff.mp H
 obtain ⟨t209, A50, H⟩ := H
 replace H : ((fp_Rem.f k a0 l1 l3).bind fun t212 => (fp_PowMod.l0 k a0 a2 l3 t209 t212 (a2.size : Int) 0)) = some r := H
 have A5 := ak A50
 clear A50
 replace H := Option.bind_eq_some_iff.mp H
 obtain ⟨t212, A60, H⟩ := H
 replace H : (fp_PowMod.l0 k a0 a2 l3 t209 t212 (a2.size : Int) 0) = some r := H
 have A6 := ak A60
 clear A60
 have H' := ak H
 clear H
 go_enter Try.func71, Try.ntmps71
 go_wp2_with (first | ((with_reducible refine gate_dst (N := 14) rfl ?_); refine Kd.R_lit (Kd.int .i64) _ 3 ?hg (N := 14) ?hd (xs := ([1] : List Int)) (inner := [.int .i64 1]) (ok := fun _ => True) (okp := fun _ => True) ?hr ?hp (fun _ hk => hk) trivial (Below.refl _ _) (Nat.le_refl _) (by simp) ?_; (case hd => rfl); (case hg => rfl); (case hr => first | (go_simp; done) | (go_simp; rfl)); (case hp => exact (Reps.one (show Kd.M (Kd.int .i64) _ _ _ 1 [.int .i64 1] from rfl) (Reps.none _ _))); intro v207 w7 ho8 hb hg_ hnew_; clear hg_ hnew_; (first | rw [← Ny206.out] at ho8 | (simp only [Int.reduceToNat] at ho8; rw [← Ny206.out] at ho8)); have n0_ := ak (Kd.R_lower (Kd.R_newM (M := fun k_ => (w.heap.size ≤ k_)) ho8 (below_size bX) (fun k_ h_ => h_)) (below_size bX)); have n1_ := ak (below_step bX hb); clear HB; have HO208 := n0_; have HB := n1_; clear n0_ n1_; clear hb ho8; obtain ⟨Ao9, co9, eo9⟩ := Kd.R_slice HO208.out; subst eo9) | ((with_reducible refine gate_callee (f := 70) rfl ?_); refine goesL_ (some 16) rfl rfl Try.func70 (by kernel_rfl) rfl #[.int .i64 a0, .slice Ao9 y206.length co9, .slice A3 l3.length c3] rfl mX ?_; (with_reducible refine (fp_Rem.calls k a0 _ _ y206 _ _ l3 t209 _ ?side1 ?side2 ?side3 ?side4 A5.out).mono ?_); (case side1 => exact cX (Kd.R_reads' HO208.out).2.2); (case side2 => exact (Kd.R_reads' HO208.out).2.1); (case side3 => exact cX (Kd.C_below HR3.out HB.out)); (case side4 => exact HC3.out); rintro e w10 ⟨v210, rfl, ho0, hb⟩; refine ⟨_, rfl, ?_⟩; have n0_ := ak (Kd.R_below (rX HO208.out) hb); have n1_ := ak (Kd.V_lower (Kd.V_mono (ok' := fun k_ => (w.heap.size ≤ k_) ∧ some k_ ≠ (.slice Ao9 y206.length co9 : Value).ownBlock) ho0 (fun k_ hk_ => ⟨(Nat.le_trans (below_size bX) hk_), (Kd.fresh' (Kd.R_lt (rX HO208.out)) k_ hk_)⟩)) (below_size bX)); have n2_ := ak (below_step bX hb); clear HO208; clear HB; have HO208 := n0_; have HO211 := n1_; have HB := n2_; clear n0_ n1_ n2_; (try clear hb); (try clear hb2); (try clear hk); (try clear hi); (try clear ho0)) | ((with_reducible refine gate_callee (f := 70) rfl ?_); refine goesL_ (some 20) rfl rfl Try.func70 (by kernel_rfl) rfl #[.int .i64 a0, .slice A1 l1.length c1, .slice A3 l3.length c3] rfl mX ?_; (with_reducible refine (fp_Rem.calls k a0 _ _ l1 _ _ l3 t212 _ ?side1 ?side2 ?side3 ?side4 A6.out).mono ?_); (case side1 => exact cX (Kd.C_below HR1.out HB.out)); (case side2 => exact HC1.out); (case side3 => exact cX (Kd.C_below HR3.out HB.out)); (case side4 => exact HC3.out); rintro e w11 ⟨v213, rfl, ho0, hb⟩; refine ⟨_, rfl, ?_⟩; have n0_ := ak (Kd.R_below (rX HO208.out) hb); have n1_ := ak (Kd.V_below (vX HO211.out) hb); have n2_ := ak (Kd.V_lower (Kd.V_mono (ok' := fun k_ => (w.heap.size ≤ k_) ∧ some k_ ≠ (.slice Ao9 y206.length co9 : Value).ownBlock) ho0 (fun k_ hk_ => ⟨(Nat.le_trans (below_size bX) hk_), (Kd.fresh' (Kd.R_lt (rX HO208.out)) k_ hk_)⟩)) (below_size bX)); have n3_ := ak (below_step bX hb); clear HO208; clear HO211; clear HB; have HO208 := n0_; have HO211 := n1_; have HO214 := n2_; have HB := n3_; clear n0_ n1_ n2_ n3_; (try clear hb); (try clear hb2); (try clear hk); (try clear hi); (try clear ho0)))
 go_loopg [9, 23] k (fun kq v9 v23 w' => ∃ (x9_1 : List Int) (x23_1 : Int), v23 = .int .i64 x23_1 ∧ Aside0 (fp_PowMod.l0 kq a0 a2 l3 x9_1 t212 (a2.size : Int) x23_1 = some r) ∧ Aside0 (kq ≤ k) ∧ Aside0 (Kd.V (Kd.int .i64) 3 w' w.heap.size (fun k_ => (w.heap.size ≤ k_)) v9 x9_1) ∧ Aside0 (Kd.V (Kd.int .i64) 3 w' w.heap.size (fun k_ => (w.heap.size ≤ k_)) v213 t212) ∧ Aside0 (Below w.heap.size w w'))
 case atStart => exact ⟨(t209), (0), (by first | rfl | (simp; done) | (simp [*]; done)), H', ⟨Nat.le_refl _⟩, ⟨by (with_reducible repeat (first | apply vA | apply vB | apply vC)); exact Kd.V_mono HO211.out (fun _ hk => hk.1)⟩, ⟨by (with_reducible repeat (first | apply vA | apply vB | apply vC)); exact Kd.V_mono HO214.out (fun _ hk => hk.1)⟩, ⟨by repeat (first | (with_reducible first | exact HB.out | apply bA | apply bB | apply bC) | exact HB.out)⟩⟩
 case round =>
  clear H'
  try clear c1
  try clear p2
  try clear c3
  try clear c7
  obtain ⟨x9_1, x23_1, rfl, HA, HK1, HO_9, HO_10, HB⟩ := hrel
  cases gk with
  | zero => exact absurd HA.out (by simp [fp_PowMod.l0])
  | succ k1 =>
    have H := HA.out
    clear HA
    simp only [fp_PowMod.l0] at H
    by_cases c12 : x23_1 < (a2.size : Int)
    · rw [if_pos c12] at H
      have c12b0 : decide (x23_1 < (a2.size : Int)) = true := decide_eq_true c12
      clear c12
      have H' := ak H
      clear H
      go_wp2
      go_loopg [9, 12] k1 (fun kq v9 v12 w' => ∃ (x9_2 : List Int) (x12_2 : Int), v12 = .int .i64 x12_2 ∧ Aside0 (fp_PowMod.l1 kq a0 a2 l3 x9_2 t212 x23_1 x12_2 (a2.size : Int) x23_1 = some r) ∧ Aside0 (kq ≤ k1) ∧ Aside0 (Kd.V (Kd.int .i64) 3 w' w.heap.size (fun k_ => (w.heap.size ≤ k_)) v9 x9_2) ∧ Aside0 (Kd.V (Kd.int .i64) 3 w' w.heap.size (fun k_ => (w.heap.size ≤ k_)) v213 t212) ∧ Aside0 (Below w.heap.size w w'))
      case atStart => exact ⟨(x9_1), (7), (by first | rfl | (simp; done) | (simp [*]; done)), H', ⟨Nat.le_refl _⟩, ⟨by (with_reducible repeat (first | apply vA | apply vB | apply vC)); exact HO_9.out⟩, ⟨by (with_reducible repeat (first | apply vA | apply vB | apply vC)); exact HO_10.out⟩, ⟨by repeat (first | (with_reducible first | exact HB.out | apply bA | apply bB | apply bC) | exact HB.out)⟩⟩
      case round =>
       clear H'
       try clear c1
       try clear p2
       try clear c3
       try clear c7
       try clear c12
       try clear c12b0
       try clear p2
       obtain ⟨x9_2, x12_2, rfl, HA, HK2, HO_9, HO_10, HB⟩ := hrel
       cases gk with
       | zero => exact absurd HA.out (by simp [fp_PowMod.l1])
       | succ k2 =>
         have H := HA.out
         clear HA
         simp only [fp_PowMod.l1] at H
         by_cases c13 : x12_2 ≥ 0
         · rw [if_pos c13] at H
           have c13b0 : decide (0 ≤ x12_2) = true := decide_eq_true c13
           clear c13
           replace H := Option.bind_eq_some_iff.mp H
           obtain ⟨t215, A140, H⟩ := H
           replace H : (if 0 ≤ x23_1 then (if x23_1 < (a2.size : Int) then (if 0 ≤ x12_2 then (if (Go.bits .and .u8 (shr .u8 (bt a2 x23_1) x12_2) 1) = 1 then ((fp_MulMod.f k2 a0 t215 t212 l3).bind fun t218 => (fp_PowMod.l1 k2 a0 a2 l3 t218 t212 x23_1 (wrap64 (x12_2 - 1)) (a2.size : Int) x23_1)) else (fp_PowMod.l1 k2 a0 a2 l3 t215 t212 x23_1 (wrap64 (x12_2 - 1)) (a2.size : Int) x23_1)) else (none)) else (none)) else (none)) = some r := H
           have A14 := ak A140
           clear A140
           by_cases c15 : 0 ≤ x23_1
           · rw [if_pos c15] at H
             have c15b0 : decide (0 ≤ x23_1) = true := decide_eq_true c15
             clear c15
             by_cases c16 : x23_1 < (a2.size : Int)
             · rw [if_pos c16] at H
               have c16b0 : decide (x23_1 < (a2.size : Int)) = true := decide_eq_true c16
               clear c16
               by_cases c18 : 0 ≤ x12_2
               · rw [if_pos c18] at H
                 have c18b0 := eq_true c18
                 have c18b1 : decide (0 ≤ x12_2) = true := decide_eq_true c18
                 clear c18
                 obtain ⟨ji19, hji19⟩ : ∃ j_ : Int, (shr .u8 (bt a2 x23_1) x12_2) = j_ := ⟨_, rfl⟩
                 replace H : (if (Go.bits .and .u8 (ji19) 1) = 1 then ((fp_MulMod.f k2 a0 t215 t212 l3).bind fun t218 => (fp_PowMod.l1 k2 a0 a2 l3 t218 t212 x23_1 (wrap64 (x12_2 - 1)) (a2.size : Int) x23_1)) else (fp_PowMod.l1 k2 a0 a2 l3 t215 t212 x23_1 (wrap64 (x12_2 - 1)) (a2.size : Int) x23_1)) = some r := by first | (rw [hji19] at H; exact H) | (simp only [hji19] at H ⊢; exact H)
                 (try rw [hji19] at A14)
                 have hji19_ : ((bt a2 x23_1) / 2 ^ min x12_2.toNat 8) = ji19 := hji19
                 have hji19z : x12_2 ≤ 8 → ((bt a2 x23_1) / 2 ^ x12_2.toNat) = ji19 := shr_small hji19
                 by_cases c20 : (Go.bits .and .u8 (ji19) 1) = 1
                 · rw [if_pos c20] at H
                   have c20b0 : ((Go.bits .and .u8 (ji19) 1) == 1) = true := beq_iff_eq.mpr c20
                   have c20b1 : ((Go.bits .and .u8 (ji19) 1) != 1) = false := bne_eq_false_iff_eq.mpr c20
                   clear c20
                   replace H := Option.bind_eq_some_iff.mp H
                   obtain ⟨t218, A210, H⟩ := H
                   replace H : (fp_PowMod.l1 k2 a0 a2 l3 t218 t212 x23_1 (wrap64 (x12_2 - 1)) (a2.size : Int) x23_1) = some r := H
                   have A21 := ak A210
                   clear A210
                   as_aux_lemma =>
                    have H' := ak H
                    clear H
                    obtain ⟨Ao22, co22, eo22⟩ := Kd.V_slice HO_9.out
                    subst eo22
                    go_wp2_with (first | ((with_reducible refine gate_callee (f := 105) rfl ?_); refine goesL_ (some 34) rfl rfl Try.func105 (by kernel_rfl) rfl #[.int .i64 a0, .slice Ao22 x9_2.length co22, .slice Ao22 x9_2.length co22, .slice A3 l3.length c3] rfl mX ?_; (with_reducible refine (fp_MulMod.calls k2 a0 _ _ x9_2 _ _ x9_2 _ _ l3 t215 _ ?side1 ?side2 ?side3 ?side4 ?side5 ?side6 A14.out).mono ?_); (case side1 => exact cX (Kd.V_reads' HO_9.out).2.2); (case side2 => exact (Kd.V_reads' HO_9.out).2.1); (case side3 => exact cX (Kd.V_reads' HO_9.out).2.2); (case side4 => exact (Kd.V_reads' HO_9.out).2.1); (case side5 => exact cX (Kd.C_below HR3.out HB.out)); (case side6 => exact HC3.out); rintro e w23 ⟨v216, rfl, ho0, hb⟩; refine ⟨_, rfl, ?_⟩; have n0_ := ak (Kd.V_below (vX HO_9.out) hb); have n1_ := ak (Kd.V_below (vX HO_10.out) hb); have n2_ := ak (Kd.V_lower (Kd.V_mono (ok' := fun k_ => (w.heap.size ≤ k_)) ho0 (fun k_ hk_ => (Nat.le_trans (below_size bX) hk_))) (below_size bX)); have n3_ := ak (below_step bX hb); clear HO_9; clear HO_10; clear HB; have HO_9 := n0_; have HO_10 := n1_; have HO217 := n2_; have HB := n3_; clear n0_ n1_ n2_ n3_; (try clear hb); (try clear hb2); (try clear hk); (try clear hi); (try clear ho0); have p17 : 0 ≤ (x23_1 : Int) := of_decide_eq_true aX; have q17 : x23_1 < (a2.size : Int) := of_decide_eq_true aX; have hx17 := bt_at a2 x23_1; replace p17 := eq_true p17; replace q17 := eq_true q17; obtain ⟨Ao24, co24, eo24⟩ := Kd.V_slice HO217.out; subst eo24; obtain ⟨Ao25, co25, eo25⟩ := Kd.V_slice HO_10.out; subst eo25) | ((with_reducible refine gate_callee (f := 105) rfl ?_); refine goesL_ (some 46) rfl rfl Try.func105 (by kernel_rfl) rfl #[.int .i64 a0, .slice Ao24 t215.length co24, .slice Ao25 t212.length co25, .slice A3 l3.length c3] rfl mX ?_; (with_reducible refine (fp_MulMod.calls k2 a0 _ _ t215 _ _ t212 _ _ l3 t218 _ ?side1 ?side2 ?side3 ?side4 ?side5 ?side6 A21.out).mono ?_); (case side1 => exact cX (Kd.V_reads' HO217.out).2.2); (case side2 => exact (Kd.V_reads' HO217.out).2.1); (case side3 => exact cX (Kd.V_reads' HO_10.out).2.2); (case side4 => exact (Kd.V_reads' HO_10.out).2.1); (case side5 => exact cX (Kd.C_below HR3.out HB.out)); (case side6 => exact HC3.out); rintro e w26 ⟨v219, rfl, ho0, hb⟩; refine ⟨_, rfl, ?_⟩; have n0_ := ak (Kd.V_below (vX HO_9.out) hb); have n1_ := ak (Kd.V_below (vX HO_10.out) hb); have n2_ := ak (Kd.V_below (vX HO217.out) hb); have n3_ := ak (Kd.V_lower (Kd.V_mono (ok' := fun k_ => (w.heap.size ≤ k_)) ho0 (fun k_ hk_ => (Nat.le_trans (below_size bX) hk_))) (below_size bX)); have n4_ := ak (below_step bX hb); clear HO_9; clear HO_10; clear HO217; clear HB; have HO_9 := n0_; have HO_10 := n1_; have HO217 := n2_; have HO220 := n3_; have HB := n4_; clear n0_ n1_ n2_ n3_ n4_; (try clear hb); (try clear hb2); (try clear hk); (try clear hi); (try clear ho0)))
                    (first | go_roundg k2 | (refine Handed.intro k2 ?measure ?_; rotate_left; go_step; (repeat rw [add_plain]); (repeat apply Exists.intro); refine ⟨?rel, rfl⟩))
                    case measure => have := HK1.out; have := HK2.out; omega
                    case rel => exact ⟨(t218), (wrap64 (x12_2 - 1)), (by first | rfl | (simp; done) | (simp [*]; done)), H', ⟨by have := HK1.out; have := HK2.out; omega⟩, ⟨by (with_reducible repeat (first | apply vA | apply vB | apply vC)); exact HO220.out⟩, ⟨by (with_reducible repeat (first | apply vA | apply vB | apply vC)); exact HO_10.out⟩, ⟨by repeat (first | (with_reducible first | exact HB.out | apply bA | apply bB | apply bC) | exact HB.out)⟩⟩
                 · rw [if_neg c20] at H
                   have c20b0 : ((Go.bits .and .u8 (ji19) 1) == 1) = false := beq_eq_false_iff_ne.mpr c20
                   have c20b1 : ((Go.bits .and .u8 (ji19) 1) != 1) = true := bne_iff_ne.mpr c20
                   as_aux_lemma =>
                    have H' := ak H
                    clear H
                    obtain ⟨Ao27, co27, eo27⟩ := Kd.V_slice HO_9.out
                    subst eo27
                    go_wp2_with (first | ((with_reducible refine gate_callee (f := 105) rfl ?_); refine goesL_ (some 34) rfl rfl Try.func105 (by kernel_rfl) rfl #[.int .i64 a0, .slice Ao27 x9_2.length co27, .slice Ao27 x9_2.length co27, .slice A3 l3.length c3] rfl mX ?_; (with_reducible refine (fp_MulMod.calls k2 a0 _ _ x9_2 _ _ x9_2 _ _ l3 t215 _ ?side1 ?side2 ?side3 ?side4 ?side5 ?side6 A14.out).mono ?_); (case side1 => exact cX (Kd.V_reads' HO_9.out).2.2); (case side2 => exact (Kd.V_reads' HO_9.out).2.1); (case side3 => exact cX (Kd.V_reads' HO_9.out).2.2); (case side4 => exact (Kd.V_reads' HO_9.out).2.1); (case side5 => exact cX (Kd.C_below HR3.out HB.out)); (case side6 => exact HC3.out); rintro e w28 ⟨v216, rfl, ho0, hb⟩; refine ⟨_, rfl, ?_⟩; have n0_ := ak (Kd.V_below (vX HO_9.out) hb); have n1_ := ak (Kd.V_below (vX HO_10.out) hb); have n2_ := ak (Kd.V_lower (Kd.V_mono (ok' := fun k_ => (w.heap.size ≤ k_)) ho0 (fun k_ hk_ => (Nat.le_trans (below_size bX) hk_))) (below_size bX)); have n3_ := ak (below_step bX hb); clear HO_9; clear HO_10; clear HB; have HO_9 := n0_; have HO_10 := n1_; have HO217 := n2_; have HB := n3_; clear n0_ n1_ n2_ n3_; (try clear hb); (try clear hb2); (try clear hk); (try clear hi); (try clear ho0); have p17 : 0 ≤ (x23_1 : Int) := of_decide_eq_true aX; have q17 : x23_1 < (a2.size : Int) := of_decide_eq_true aX; have hx17 := bt_at a2 x23_1; replace p17 := eq_true p17; replace q17 := eq_true q17))
                    (first | go_roundg k2 | (refine Handed.intro k2 ?measure ?_; rotate_left; go_step; (repeat rw [add_plain]); (repeat apply Exists.intro); refine ⟨?rel, rfl⟩))
                    case measure => have := HK1.out; have := HK2.out; omega
                    case rel => exact ⟨(t215), (wrap64 (x12_2 - 1)), (by first | rfl | (simp; done) | (simp [*]; done)), H', ⟨by have := HK1.out; have := HK2.out; omega⟩, ⟨by (with_reducible repeat (first | apply vA | apply vB | apply vC)); exact HO217.out⟩, ⟨by (with_reducible repeat (first | apply vA | apply vB | apply vC)); exact HO_10.out⟩, ⟨by repeat (first | (with_reducible first | exact HB.out | apply bA | apply bB | apply bC) | exact HB.out)⟩⟩
               · rw [if_neg c18] at H
                 exact absurd H (by simp)
             · rw [if_neg c16] at H
               exact absurd H (by simp)
           · rw [if_neg c15] at H
             exact absurd H (by simp)
         · rw [if_neg c13] at H
           have c13b0 : decide (0 ≤ x12_2) = false := decide_eq_false c13
           clear c13
           as_aux_lemma =>
            have H' := ak H
            clear H
            go_wp2
            (first | go_roundg k2 | (refine Handed.intro k2 ?measure ?_; rotate_left; go_step; (repeat rw [add_plain]); (repeat apply Exists.intro); refine ⟨?rel, rfl⟩))
            case measure => have := HK1.out; have := HK2.out; omega
            case rel => exact ⟨(x9_2), (wrap64 (x23_1 + 1)), (by first | rfl | (simp; done) | (simp [*]; done)), H', ⟨by have := HK1.out; have := HK2.out; omega⟩, ⟨by (with_reducible repeat (first | apply vA | apply vB | apply vC)); exact HO_9.out⟩, ⟨by (with_reducible repeat (first | apply vA | apply vB | apply vC)); exact HO_10.out⟩, ⟨by repeat (first | (with_reducible first | exact HB.out | apply bA | apply bB | apply bC) | exact HB.out)⟩⟩
    · rw [if_neg c12] at H
      have c12b0 : decide (x23_1 < (a2.size : Int)) = false := decide_eq_false c12
      clear c12
      as_aux_lemma =>
       obtain rfl := Option.some.inj H
       go_wp2
       go_ret
       exact ⟨_, by first | rfl | (simp [errW_none, errW_some] <;> rfl) | (simp [*, errW_none, errW_some] <;> rfl), by (with_reducible repeat (first | apply vA | apply vB | apply vC)); exact HO_9.out, by repeat (first | (with_reducible first | exact HB.out | apply bA | apply bB | apply bC) | exact HB.out)⟩

/-! ### fp_Power: function 104 -/
def fp_Power.f (k : Nat) (a0 : Int) (l1 : List Int) (l2 : List Int) : Option (List Int) := (fp_PowMod.f k a0 l1 (strOfNums (([(a0 / 256) % 256, (a0) % 256] : List Int))) l2).bind fun t224 => (some t224)
theorem fp_Power.mono : ∀ a0 a1 a2 k, LeO (fp_Power.f k a0 a1 a2) (fp_Power.f (k + 1) a0 a1 a2) := by
 intro a0 a1 a2 k
 unfold fp_Power.f
 repeat' first
  | (with_reducible apply fp_PowMod.mono)
  | (with_reducible apply LeO.refl)
  | (with_reducible apply LeO.none)
  | (with_reducible refine LeO.ite ?_ ?_)
  | (with_reducible refine LeO.bind ?_ (fun _ => ?_))
set_option maxHeartbeats 8000000 in
set_option maxRecDepth 100000 in
theorem fp_Power.calls (k : Nat) (a0 : Int) (A1 : Option Addr) (c1 : Nat) (l1 : List Int) (A2 : Option Addr) (c2 : Nat) (l2 : List Int) (r : List Int) (w : World) (hr1 : Kd.C (Kd.int .i64) w A1 l1.length l1) (hc1 : l1.length ≤ c1) (hr2 : Kd.C (Kd.int .i64) w A2 l2.length l2) (hc2 : l2.length ≤ c2) (h : fp_Power.f k a0 l1 l2 = some r) :
 Calls Try.prog 104 #[.int .i64 a0, .slice A1 l1.length c1, .slice A2 l2.length c2] w fun e w' => ∃ v0_ : Value, e = .returned (v0_) ∧ Kd.V (Kd.int .i64) 3 w' w.heap.size (fun k_ => (w.heap.size ≤ k_)) v0_ r ∧ Below w.heap.size w w' := by
 have HR1 := ak hr1
 have HC1 := ak hc1
 clear hr1 hc1
 have HR2 := ak hr2
 have HC2 := ak hc2
 clear hr2 hc2
 have HB := ak (Below.refl w.heap.size w)
 have H : ((fp_PowMod.f k a0 l1 (strOfNums (([(a0 / 256) % 256, (a0) % 256] : List Int))) l2).bind fun t224 => (some t224)) = some r := h
 clear h
 obtain ⟨y221, hy221⟩ : ∃ y_ : List Int, y_ = (([(a0 / 256) % 256, (a0) % 256] : List Int)) := ⟨_, rfl⟩
 replace H : ((fp_PowMod.f k a0 l1 (strOfNums y221) l2).bind fun t224 => (some t224)) = some r := by first | (rw [hy221]; with_reducible exact H) | (have H2_ := (Option.bind_some _ _).symm.trans H; rw [hy221]; with_reducible exact H2_) | (have H2_ := (Option.bind_some _ _).symm.trans H; with_reducible exact H2_) | with_reducible exact H | (rw [hy221]; exact H) | exact H
 have Ny221 := ak hy221
 clear hy221
 replace H := Option.bind_eq_some_iff.mp H
 obtain ⟨t224, A40, H⟩ := H
 replace H : (some t224) = some r := H
 have A4 := ak A40
 clear A40
 as_aux_lemma =>
  obtain rfl := Option.some.inj H
  go_enter Try.func104, Try.ntmps104
  go_wp2_with (first | ((with_reducible refine gate_dst (N := 14) rfl ?_); refine Kd.R_lit (Kd.int .u8) _ 5 ?hg (N := 14) ?hd (xs := ([(a0 / 256) % 256, (a0) % 256] : List Int)) (inner := [.int .u8 ((a0 / 256) % 256), .int .u8 ((a0) % 256)]) (ok := fun _ => True) (okp := fun _ => True) ?hr ?hp (fun _ hk => hk) trivial (Below.refl _ _) (Nat.le_refl _) (by simp) ?_; (case hd => rfl); (case hg => rfl); (case hr => first | (go_simp; done) | (go_simp; rfl)); (case hp => exact (Reps.one (show Kd.M (Kd.int .u8) _ _ _ ((a0 / 256) % 256) [.int .u8 ((a0 / 256) % 256)] from rfl) (Reps.one (show Kd.M (Kd.int .u8) _ _ _ ((a0) % 256) [.int .u8 ((a0) % 256)] from rfl) (Reps.none _ _)))); intro v222 w5 ho6 hb hg_ hnew_; clear hg_ hnew_; (first | rw [← Ny221.out] at ho6 | (simp only [Int.reduceToNat] at ho6; rw [← Ny221.out] at ho6)); have n0_ := ak (Kd.R_lower (Kd.R_newM (M := fun k_ => (w.heap.size ≤ k_)) ho6 (below_size bX) (fun k_ h_ => h_)) (below_size bX)); have n1_ := ak (below_step bX hb); clear HB; have HO223 := n0_; have HB := n1_; clear n0_ n1_; clear hb ho6; have hcv7 := own_string (P := Try.prog) Try.underlying115 Try.underlying5 Try.underlying34 (Kd.own_of_R HO223.out)) | ((with_reducible refine gate_callee (f := 71) rfl ?_); refine goesL_ (some 17) rfl rfl Try.func71 (by kernel_rfl) rfl #[.int .i64 a0, .slice A1 l1.length c1, .string (strOfNums y221), .slice A2 l2.length c2] rfl mX ?_; (with_reducible refine (fp_PowMod.calls k a0 _ _ l1 (strOfNums y221) _ _ l2 t224 _ ?side1 ?side2 ?side3 ?side4 A4.out).mono ?_); (case side1 => exact cX (Kd.C_below HR1.out HB.out)); (case side2 => exact HC1.out); (case side3 => exact cX (Kd.C_below HR2.out HB.out)); (case side4 => exact HC2.out); rintro e w8 ⟨v225, rfl, ho0, hb⟩; refine ⟨_, rfl, ?_⟩; have n0_ := ak (Kd.R_below (rX HO223.out) hb); have n1_ := ak (Kd.V_lower (Kd.V_mono (ok' := fun k_ => (w.heap.size ≤ k_) ∧ some k_ ≠ (v222 : Value).ownBlock) ho0 (fun k_ hk_ => ⟨(Nat.le_trans (below_size bX) hk_), (Kd.fresh' (Kd.R_lt (rX HO223.out)) k_ hk_)⟩)) (below_size bX)); have n2_ := ak (below_step bX hb); clear HO223; clear HB; have HO223 := n0_; have HO226 := n1_; have HB := n2_; clear n0_ n1_ n2_; (try clear hb); (try clear hb2); (try clear hk); (try clear hi); (try clear ho0)))
  go_ret
  exact ⟨_, by first | rfl | (simp [errW_none, errW_some] <;> rfl) | (simp [*, errW_none, errW_some] <;> rfl), by (with_reducible repeat (first | apply vA | apply vB | apply vC)); exact Kd.V_mono HO226.out (fun _ hk => hk.1), by repeat (first | (with_reducible first | exact HB.out | apply bA | apply bB | apply bC) | exact HB.out)⟩

end Go.Proofs.Ytmknclgamadphaa.PPolymodPrimes
