-- WRITTEN BY sprint.py (a program of this repo, over the kit's print.py): nothing here is trusted, Lean checks it.
import Derived.Test.YtmknclgamadphaaPPolymodDivisionsx0
import Derived.Test.YtmknclgamadphaaPPolymodDivisionsx7
import Derived.Test.YtmknclgamadphaaPPolymodDivisionsx8
import Derived.Test.YtmknclgamadphaaPPolymodDivisionsx9
import Derived.Test.YtmknclgamadphaaPPolymodDivisionsx10
namespace Go.Proofs.Ytmknclgamadphaa.PPolymodDivisions
open Go.RowKit Go.Proofs.YtmknclgamadphaaW.PrintWords Go.Proofs.YtmknclgamadphaaW.PrintLast Go.Proofs.YtmknclgamadphaaW.PrintMore
attribute [local go_sem] max2_int min2_int max_two min_two max_three min_three max_four min_four   -- for this text's walks alone
set_option linter.unusedVariables false
set_option linter.unusedSimpArgs false

/-! ### galoisref09_Sub: function 51 -/
def galoisref09_Sub.f (k : Nat) (a0 : Int) (l1 : List Int) (l2 : List Int) : Option (List Int) := (galoisref09_Scale.f k a0 l2 (-1)).bind fun t492 => ((galoisref09_Add.f k a0 l1 t492).bind fun t495 => (some t495))
theorem galoisref09_Sub.mono : ∀ a0 a1 a2 k, LeO (galoisref09_Sub.f k a0 a1 a2) (galoisref09_Sub.f (k + 1) a0 a1 a2) := by
 intro a0 a1 a2 k
 unfold galoisref09_Sub.f
 repeat' first
  | (with_reducible apply galoisref09_Add.mono)
  | (with_reducible apply galoisref09_Scale.mono)
  | (with_reducible apply LeO.refl)
  | (with_reducible apply LeO.none)
  | (with_reducible refine LeO.ite ?_ ?_)
  | (with_reducible refine LeO.bind ?_ (fun _ => ?_))
set_option maxHeartbeats 8000000 in
set_option maxRecDepth 100000 in
theorem galoisref09_Sub.calls (k : Nat) (a0 : Int) (A1 : Option Addr) (c1 : Nat) (l1 : List Int) (A2 : Option Addr) (c2 : Nat) (l2 : List Int) (r : List Int) (w : World) (hr1 : Kd.C (Kd.int .i64) w A1 l1.length l1) (hc1 : l1.length ≤ c1) (hr2 : Kd.C (Kd.int .i64) w A2 l2.length l2) (hc2 : l2.length ≤ c2) (h : galoisref09_Sub.f k a0 l1 l2 = some r) :
 Calls Try.prog 51 #[.int .i64 a0, .slice A1 l1.length c1, .slice A2 l2.length c2] w fun e w' => ∃ v0_ : Value, e = .returned (v0_) ∧ Kd.V (Kd.int .i64) 3 w' w.heap.size (fun k_ => (w.heap.size ≤ k_)) v0_ r ∧ Below w.heap.size w w' := by
 have HR1 := ak hr1
 have HC1 := ak hc1
 clear hr1 hc1
 have HR2 := ak hr2
 have HC2 := ak hc2
 clear hr2 hc2
 have HB := ak (Below.refl w.heap.size w)
 have H : ((galoisref09_Scale.f k a0 l2 (-1)).bind fun t492 => ((galoisref09_Add.f k a0 l1 t492).bind fun t495 => (some t495))) = some r := h
 clear h
 replace H := Option.bind_eq_some_iff.mp H
 obtain ⟨t492, A40, H⟩ := H
 replace H : ((galoisref09_Add.f k a0 l1 t492).bind fun t495 => (some t495)) = some r := H
 have A4 := ak A40
 clear A40
 replace H := Option.bind_eq_some_iff.mp H
 obtain ⟨t495, A50, H⟩ := H
 replace H : (some t495) = some r := H
 have A5 := ak A50
 clear A50
 obtain rfl := Option.some.inj H
 go_enter Try.func51, Try.ntmps51
 go_wp2_with (first | ((with_reducible refine gate_callee (f := 45) rfl ?_); refine goesL_ (some 11) rfl rfl Try.func45 (by kernel_rfl) rfl #[.int .i64 a0, .slice A2 l2.length c2, .int .i64 (-1)] rfl mX ?_; (with_reducible refine (galoisref09_Scale.calls k a0 _ _ l2 (-1) t492 _ ?side1 ?side2 A4.out).mono ?_); (case side1 => repeat (first | exact HR2.out | (with_reducible first | apply cA | apply cB | apply cC))); (case side2 => exact HC2.out); rintro e w6 ⟨v493, rfl, ho0, hb⟩; refine ⟨_, rfl, ?_⟩; have n0_ := ak (Kd.V_lower (Kd.V_mono (ok' := fun k_ => (w.heap.size ≤ k_)) ho0 (fun k_ hk_ => (Nat.le_trans (below_size bX) hk_))) (below_size bX)); have n1_ := ak (below_step bX hb); clear HB; have HO494 := n0_; have HB := n1_; clear n0_ n1_; (try clear hb); (try clear hb2); (try clear hk); (try clear hi); (try clear ho0); obtain ⟨Ao7, co7, eo7⟩ := Kd.V_slice HO494.out; subst eo7) | ((with_reducible refine gate_callee (f := 50) rfl ?_); refine goesL_ (some 12) rfl rfl Try.func50 (by kernel_rfl) rfl #[.int .i64 a0, .slice A1 l1.length c1, .slice Ao7 t492.length co7] rfl mX ?_; (with_reducible refine (galoisref09_Add.calls k a0 _ _ l1 _ _ t492 t495 _ ?side1 ?side2 ?side3 ?side4 A5.out).mono ?_); (case side1 => exact cX (Kd.C_below HR1.out HB.out)); (case side2 => exact HC1.out); (case side3 => exact cX (Kd.V_reads' HO494.out).2.2); (case side4 => exact (Kd.V_reads' HO494.out).2.1); rintro e w8 ⟨v496, rfl, ho0, hb⟩; refine ⟨_, rfl, ?_⟩; have n0_ := ak (Kd.V_below (vX HO494.out) hb); have n1_ := ak (Kd.V_lower (Kd.V_mono (ok' := fun k_ => (w.heap.size ≤ k_)) ho0 (fun k_ hk_ => (Nat.le_trans (below_size bX) hk_))) (below_size bX)); have n2_ := ak (below_step bX hb); clear HO494; clear HB; have HO494 := n0_; have HO497 := n1_; have HB := n2_; clear n0_ n1_ n2_; (try clear hb); (try clear hb2); (try clear hk); (try clear hi); (try clear ho0)))
 go_ret
 exact ⟨_, by first | rfl | (simp [errW_none, errW_some] <;> rfl) | (simp [*, errW_none, errW_some] <;> rfl), by (with_reducible repeat (first | apply vA | apply vB | apply vC)); exact HO497.out, by repeat (first | (with_reducible first | exact HB.out | apply bA | apply bB | apply bC) | exact HB.out)⟩

/-! ### galoisref09_Mul: function 52 -/
mutual
def galoisref09_Mul.j0 : Nat → Int → List Int → List Int → Bool → Option (List Int)
 | 0, _, _, _, _ => none
 | k + 1, x0, x1, x2, x17 => if x17 = true then (some ([] : List Int)) else (if 0 ≤ (wrap64 ((wrap64 ((x1.length : Int) + (x2.length : Int))) - 1)) then (if (wrap64 ((wrap64 ((x1.length : Int) + (x2.length : Int))) - 1) : Int).toNat ≤ 35184372088832 then (galoisref09_Mul.l0 k x0 x1 x2 (List.replicate (wrap64 ((wrap64 ((x1.length : Int) + (x2.length : Int))) - 1) : Int).toNat 0) 0) else (none)) else (none))
def galoisref09_Mul.l0 : Nat → Int → List Int → List Int → List Int → Int → Option (List Int)
 | 0, _, _, _, _, _ => none
 | k + 1, x0, x1, x2, x7, x8 => if x8 < (x1.length : Int) then (galoisref09_Mul.l1 k x0 x1 x2 x7 x8 0) else ((galoisref09_Trim.f k x7).bind fun t501 => (some t501))
def galoisref09_Mul.l1 : Nat → Int → List Int → List Int → List Int → Int → Int → Option (List Int)
 | 0, _, _, _, _, _, _ => none
 | k + 1, x0, x1, x2, x7, x8, x9 => if x9 < (x2.length : Int) then (if 0 ≤ (wrap64 (x8 + x9)) then (if (wrap64 (x8 + x9)) < (x7.length : Int) then (if 0 ≤ x8 then (if x8 < (x1.length : Int) then (if 0 ≤ x9 then (if x0 = 0 then (none) else (galoisref09_Mul.l1 k x0 x1 x2 (x7.set ((wrap64 (x8 + x9)) : Int).toNat (Int.tmod (wrap64 ((rd x7 (wrap64 (x8 + x9))) + (wrap64 ((rd x1 x8) * (rd x2 x9))))) x0)) x8 (wrap64 (x9 + 1)))) else (none)) else (none)) else (none)) else (none)) else (none)) else (galoisref09_Mul.l0 k x0 x1 x2 x7 (wrap64 (x8 + 1)))
end
def galoisref09_Mul.f (k : Nat) (a0 : Int) (l1 : List Int) (l2 : List Int) : Option (List Int) := if (l1.length : Int) = 0 then (galoisref09_Mul.j0 k a0 l1 l2 true) else (galoisref09_Mul.j0 k a0 l1 l2 ((l2.length : Int) == 0))
theorem galoisref09_Mul.mono_l : ∀ k, (∀ y0 y1 y2 y3, LeO (galoisref09_Mul.j0 k y0 y1 y2 y3) (galoisref09_Mul.j0 (k + 1) y0 y1 y2 y3)) ∧ (∀ y0 y1 y2 y3 y4, LeO (galoisref09_Mul.l0 k y0 y1 y2 y3 y4) (galoisref09_Mul.l0 (k + 1) y0 y1 y2 y3 y4)) ∧ (∀ y0 y1 y2 y3 y4 y5, LeO (galoisref09_Mul.l1 k y0 y1 y2 y3 y4 y5) (galoisref09_Mul.l1 (k + 1) y0 y1 y2 y3 y4 y5))
 | 0 => ⟨fun _ _ _ _ r h => by simp [galoisref09_Mul.j0] at h, fun _ _ _ _ _ r h => by simp [galoisref09_Mul.l0] at h, fun _ _ _ _ _ _ r h => by simp [galoisref09_Mul.l1] at h⟩
 | k + 1 => by
   obtain ⟨ih0, ih1, ih2⟩ := galoisref09_Mul.mono_l k
   refine ⟨?_, ?_, ?_⟩
   · intro y0 y1 y2 y3
     unfold galoisref09_Mul.j0
     repeat' first
     | (with_reducible apply ih0)
     | (with_reducible apply ih1)
     | (with_reducible apply ih2)
     | (with_reducible apply galoisref09_Trim.mono)
     | (with_reducible apply LeO.refl)
     | (with_reducible apply LeO.none)
     | (with_reducible refine LeO.ite ?_ ?_)
     | (with_reducible refine LeO.bind ?_ (fun _ => ?_))
   · intro y0 y1 y2 y3 y4
     unfold galoisref09_Mul.l0
     repeat' first
     | (with_reducible apply ih0)
     | (with_reducible apply ih1)
     | (with_reducible apply ih2)
     | (with_reducible apply galoisref09_Trim.mono)
     | (with_reducible apply LeO.refl)
     | (with_reducible apply LeO.none)
     | (with_reducible refine LeO.ite ?_ ?_)
     | (with_reducible refine LeO.bind ?_ (fun _ => ?_))
   · intro y0 y1 y2 y3 y4 y5
     unfold galoisref09_Mul.l1
     repeat' first
     | (with_reducible apply ih0)
     | (with_reducible apply ih1)
     | (with_reducible apply ih2)
     | (with_reducible apply galoisref09_Trim.mono)
     | (with_reducible apply LeO.refl)
     | (with_reducible apply LeO.none)
     | (with_reducible refine LeO.ite ?_ ?_)
     | (with_reducible refine LeO.bind ?_ (fun _ => ?_))
theorem galoisref09_Mul.mono : ∀ a0 a1 a2 k, LeO (galoisref09_Mul.f k a0 a1 a2) (galoisref09_Mul.f (k + 1) a0 a1 a2) := by
 intro a0 a1 a2 k
 obtain ⟨ih0, ih1, ih2⟩ := galoisref09_Mul.mono_l k
 unfold galoisref09_Mul.f
 repeat' first
  | (with_reducible apply ih0)
  | (with_reducible apply ih1)
  | (with_reducible apply ih2)
  | (with_reducible apply galoisref09_Trim.mono)
  | (with_reducible apply LeO.refl)
  | (with_reducible apply LeO.none)
  | (with_reducible refine LeO.ite ?_ ?_)
  | (with_reducible refine LeO.bind ?_ (fun _ => ?_))
def galoisref09_Mul.T10 : Bool × List (List Nat × List Nat) := (true, [([], []), ([], []), ([], []), ([1, 2], [1, 2]), ([], []), ([], []), ([], []), ([5, 6], [5, 6]), ([4, 7], [4, 7]), ([8], [8]), ([], []), ([], []), ([10, 11], [10, 11]), ([12], [12]), ([], []), ([], []), ([14, 15], [14, 15]), ([16], [16]), ([13, 17], [13, 17]), ([9, 18], [9, 18]), ([], []), ([19, 20], [19, 20]), ([0, 3, 0, 1, 2, 3, 4, 5, 6, 7, 8, 9, 10, 11, 12, 13, 14, 15, 16, 17, 18, 19, 20, 21], [0, 3]), ([22, 21, 0, 1, 2, 3, 4, 5, 6, 7, 8, 9, 10, 11, 12, 13, 14, 15, 16, 17, 18, 19, 20, 21], [21, 22])])
def galoisref09_Mul.B10 : List Nat := [0, 0, 0, 6, 0, 0, 0, 96, 240, 496, 0, 0, 3072, 7168, 0, 0, 49152, 114688, 261120, 524272, 0, 2097136, 4194303, 8388607]
theorem galoisref09_Mul.tab10 : rtab .any (opsOf Try.f52 10) = galoisref09_Mul.T10 := by kernel_rfl
theorem galoisref09_Mul.bits10 : waitsOk galoisref09_Mul.T10.2 galoisref09_Mul.B10 = true := by kernel_rfl
set_option maxHeartbeats 8000000 in
set_option maxRecDepth 100000 in
theorem galoisref09_Mul.calls (k : Nat) (a0 : Int) (A1 : Option Addr) (c1 : Nat) (l1 : List Int) (A2 : Option Addr) (c2 : Nat) (l2 : List Int) (r : List Int) (w : World) (hr1 : Kd.C (Kd.int .i64) w A1 l1.length l1) (hc1 : l1.length ≤ c1) (hr2 : Kd.C (Kd.int .i64) w A2 l2.length l2) (hc2 : l2.length ≤ c2) (h : galoisref09_Mul.f k a0 l1 l2 = some r) :
 Calls Try.prog 52 #[.int .i64 a0, .slice A1 l1.length c1, .slice A2 l2.length c2] w fun e w' => ∃ v0_ : Value, e = .returned (v0_) ∧ Kd.V (Kd.int .i64) 3 w' w.heap.size (fun k_ => (w.heap.size ≤ k_)) v0_ r ∧ Below w.heap.size w w' := by
 have HR1 := ak hr1
 have HC1 := ak hc1
 clear hr1 hc1
 have HR2 := ak hr2
 have HC2 := ak hc2
 clear hr2 hc2
 have HB := ak (Below.refl w.heap.size w)
 have H : (if (l1.length : Int) = 0 then (galoisref09_Mul.j0 k a0 l1 l2 true) else (galoisref09_Mul.j0 k a0 l1 l2 ((l2.length : Int) == 0))) = some r := h
 clear h
 have HC4 := ak H
 clear H
 go_enter Try.func52, Try.ntmps52
 go_upto_region 1 with (fail)
 go_cut [17] (fun v17 wc => ∃ (kq : Nat) (x17_3 : Bool), v17 = .bool x17_3 ∧ Aside0 (galoisref09_Mul.j0 kq a0 l1 l2 x17_3 = some r) ∧ Aside0 (kq ≤ k) ∧ Aside0 (Below w.heap.size w wc))
 case first =>
  have H := HC4.out
  clear HC4
  by_cases c5 : (l1.length : Int) = 0
  · rw [if_pos c5] at H
    have c5b0 : ((l1.length : Int) == 0) = true := beq_iff_eq.mpr c5
    have c5b1 : ((l1.length : Int) != 0) = false := bne_eq_false_iff_eq.mpr c5
    clear c5
    (first | rw [c5b0] | (simp only [i64_w, i32_w]; rw [c5b0]) | skip)
    have H' := ak H
    clear H
    go_wp2
    go_meet
    case rel => exact ⟨_, (true), (by first | rfl | (simp; done) | (simp [*]; done)), H', ⟨by first | omega | exact Nat.le_refl _⟩, ⟨by repeat (first | (with_reducible first | exact HB.out | apply bA | apply bB | apply bC) | exact HB.out)⟩⟩
  · rw [if_neg c5] at H
    have c5b0 : ((l1.length : Int) == 0) = false := beq_eq_false_iff_ne.mpr c5
    have c5b1 : ((l1.length : Int) != 0) = true := bne_iff_ne.mpr c5
    have c5b2 : ¬ (l1 = []) := fun h_ => c5 (by rw [h_]; rfl)
    (first | rw [c5b0] | (simp only [i64_w, i32_w]; rw [c5b0]) | skip)
    have H' := ak H
    clear H
    go_wp2
    go_meet
    case rel => exact ⟨_, (((l2.length : Int) == 0)), (by first | rfl | (simp; done) | (simp [*]; done)), H', ⟨by first | omega | exact Nat.le_refl _⟩, ⟨by repeat (first | (with_reducible first | exact HB.out | apply bA | apply bB | apply bC) | exact HB.out)⟩⟩
 case rest =>
  clear HC4
  try clear c1
  try clear c2
  try clear p2
  try clear c5
  try clear c5b0
  try clear c5b1
  try clear c5b2
  obtain ⟨kq, x17_3, rfl, HA, HJ3, HB⟩ := hcut
  cases kq with
  | zero => exact absurd HA.out (by simp [galoisref09_Mul.j0])
  | succ kj3 =>
    have H := HA.out
    clear HA
    simp only [galoisref09_Mul.j0] at H
    by_cases c6 : x17_3 = true
    · subst c6
      have H1 : (some ([] : List Int)) = some r := by rw [if_pos rfl] at H; exact H
      clear H
      have H := H1
      clear H1
      obtain rfl := Option.some.inj H
      go_wp2
      go_ret
      exact ⟨(.slice none 0 0), by first | rfl | (simp [errW_none, errW_some] <;> rfl) | (simp [*, errW_none, errW_some] <;> rfl), (Kd.V_nil _ _ _ _ _), by repeat (first | (with_reducible first | exact HB.out | apply bA | apply bB | apply bC) | exact HB.out)⟩
    · replace c6 := Bool.eq_false_iff.mpr c6
      subst c6
      have H1 : (if 0 ≤ (wrap64 ((wrap64 ((l1.length : Int) + (l2.length : Int))) - 1)) then (if (wrap64 ((wrap64 ((l1.length : Int) + (l2.length : Int))) - 1) : Int).toNat ≤ 35184372088832 then (galoisref09_Mul.l0 kj3 a0 l1 l2 (List.replicate (wrap64 ((wrap64 ((l1.length : Int) + (l2.length : Int))) - 1) : Int).toNat 0) 0) else (none)) else (none)) = some r := by rw [if_neg (show ¬ (false = true) by decide)] at H; exact H
      clear H
      have H := H1
      clear H1
      obtain ⟨ji7, hji7⟩ : ∃ j_ : Int, (wrap64 ((wrap64 ((l1.length : Int) + (l2.length : Int))) - 1)) = j_ := ⟨_, rfl⟩
      replace H : (if 0 ≤ (ji7) then (if (ji7 : Int).toNat ≤ 35184372088832 then (galoisref09_Mul.l0 kj3 a0 l1 l2 (List.replicate (ji7 : Int).toNat 0) 0) else (none)) else (none)) = some r := by first | (rw [hji7] at H; exact H) | (simp only [hji7] at H ⊢; exact H)
      have hji7w : (IntKind.i64.wrap ((wrap64 ((l1.length : Int) + (l2.length : Int))) - 1)) = ji7 := (i64_w _).trans hji7
      by_cases c8 : 0 ≤ (ji7)
      · rw [if_pos c8] at H
        have c8b0 := eq_true c8
        have c8b1 : decide (0 ≤ (ji7)) = true := decide_eq_true c8
        clear c8
        by_cases c9 : (ji7 : Int).toNat ≤ 35184372088832
        · rw [if_pos c9] at H
          have c9b0 := eq_true c9
          have c9b1 : decide ((ji7 : Int).toNat ≤ 35184372088832) = true := decide_eq_true c9
          clear c9
          obtain ⟨y498, hy498⟩ : ∃ y_ : List Int, y_ = (List.replicate (ji7 : Int).toNat 0) := ⟨_, rfl⟩
          replace H : (galoisref09_Mul.l0 kj3 a0 l1 l2 y498 0) = some r := by first | (rw [hy498]; with_reducible exact H) | (have H2_ := (Option.bind_some _ _).symm.trans H; rw [hy498]; with_reducible exact H2_) | (have H2_ := (Option.bind_some _ _).symm.trans H; with_reducible exact H2_) | with_reducible exact H | (rw [hy498]; exact H) | exact H
          have Ny498 := ak hy498
          clear hy498
          have H' := ak H
          clear H
          go_wp2_with (first | ((with_reducible refine gate_dst (N := 24) rfl ?_); (try (refine gate_guard (by rfl) ?_; dsimp only)); refine Kd.R_make (Kd.int .i64) _ 3 rfl (N := 24) rfl 23 _ _ rfl ji7 rfl rfl Try.underlying23 (.int .i64 0) 8 info3 rfl (by decide) (by omega) 0 (ok := fun _ => True) (okp := fun _ => True) rfl (fun _ hk => hk) trivial (of_decide_eq_true aX) (Nat.le_trans (Nat.mul_le_mul_right _ (of_decide_eq_true aX : ji7.toNat ≤ 35184372088832)) (by omega)) (Below.refl _ _) (Nat.le_refl _) ?_; intro v499 w10 ho11 hb hg_ hnew_; clear hg_ hnew_; (first | rw [← Ny498.out] at ho11 | (simp only [Int.reduceToNat] at ho11; rw [← Ny498.out] at ho11)); have n0_ := ak (Kd.R_lower (Kd.R_newM (M := fun k_ => (w.heap.size ≤ k_)) ho11 (below_size bX) (fun k_ h_ => h_)) (below_size bX)); have n1_ := ak (below_step bX hb); clear HB; have HO500 := n0_; have HB := n1_; clear n0_ n1_; clear hb ho11))
          go_loopg [8] kj3 (fun kq v8 w' => ∃ (x7_2 : List Int) (x8_2 : Int), v8 = .int .i64 x8_2 ∧ Aside0 (galoisref09_Mul.l0 kq a0 l1 l2 x7_2 x8_2 = some r) ∧ Aside0 (kq ≤ kj3) ∧ Aside0 (Kd.R (Kd.int .i64) 3 w' w.heap.size (fun k_ => (w.heap.size ≤ k_)) v499 x7_2) ∧ Aside0 (Below w.heap.size w w'))
          case atStart => exact ⟨(y498), (0), (by first | rfl | (simp; done) | (simp [*]; done)), H', ⟨Nat.le_refl _⟩, ⟨by (with_reducible repeat (first | apply Kd.R_alloc | apply Kd.R_drewN | apply Kd.R_drew)); exact Kd.R_mono HO500.out (fun _ hk => hk.1)⟩, ⟨by repeat (first | (with_reducible first | exact HB.out | apply bA | apply bB | apply bC) | exact HB.out)⟩⟩
          case round =>
           clear H'
           try clear c1
           try clear c2
           try clear p2
           try clear c5
           try clear c5b0
           try clear c5b1
           try clear c5b2
           try clear c6
           try clear p6
           try clear c8
           try clear c8b0
           try clear c8b1
           try clear c9
           try clear c9b0
           try clear c9b1
           try clear p2
           obtain ⟨x7_2, x8_2, rfl, HA, HK2, HO_7, HB⟩ := hrel
           cases gk with
           | zero => exact absurd HA.out (by simp [galoisref09_Mul.l0])
           | succ k2 =>
             have H := HA.out
             clear HA
             simp only [galoisref09_Mul.l0] at H
             by_cases c12 : x8_2 < (l1.length : Int)
             · rw [if_pos c12] at H
               have c12b0 : decide (x8_2 < (l1.length : Int)) = true := decide_eq_true c12
               clear c12
               have H' := ak H
               clear H
               go_wp2
               go_loopg [9] k2 (fun kq v9 w' => ∃ (x7_3 : List Int) (x9_3 : Int), v9 = .int .i64 x9_3 ∧ Aside0 (galoisref09_Mul.l1 kq a0 l1 l2 x7_3 x8_2 x9_3 = some r) ∧ Aside0 (kq ≤ k2) ∧ Aside0 (Kd.R (Kd.int .i64) 3 w' w.heap.size (fun k_ => (w.heap.size ≤ k_)) v499 x7_3) ∧ Aside0 (Below w.heap.size w w'))
               case atStart => exact ⟨(x7_2), (0), (by first | rfl | (simp; done) | (simp [*]; done)), H', ⟨Nat.le_refl _⟩, ⟨by (with_reducible repeat (first | apply Kd.R_alloc | apply Kd.R_drewN | apply Kd.R_drew)); exact HO_7.out⟩, ⟨by repeat (first | (with_reducible first | exact HB.out | apply bA | apply bB | apply bC) | exact HB.out)⟩⟩
               case round =>
                clear H'
                try clear c1
                try clear c2
                try clear p2
                try clear c5
                try clear c5b0
                try clear c5b1
                try clear c5b2
                try clear c6
                try clear p6
                try clear c8
                try clear c8b0
                try clear c8b1
                try clear c9
                try clear c9b0
                try clear c9b1
                try clear c12
                try clear c12b0
                try clear p2
                try clear p6
                obtain ⟨x7_3, x9_3, rfl, HA, HK3, HO_7, HB⟩ := hrel
                cases gk with
                | zero => exact absurd HA.out (by simp [galoisref09_Mul.l1])
                | succ k3 =>
                  have H := HA.out
                  clear HA
                  simp only [galoisref09_Mul.l1] at H
                  by_cases c13 : x9_3 < (l2.length : Int)
                  · rw [if_pos c13] at H
                    have c13b0 : decide (x9_3 < (l2.length : Int)) = true := decide_eq_true c13
                    clear c13
                    obtain ⟨ji14, hji14⟩ : ∃ j_ : Int, (wrap64 (x8_2 + x9_3)) = j_ := ⟨_, rfl⟩
                    replace H : (if 0 ≤ (ji14) then (if (ji14) < (x7_3.length : Int) then (if 0 ≤ x8_2 then (if x8_2 < (l1.length : Int) then (if 0 ≤ x9_3 then (if a0 = 0 then (none) else (galoisref09_Mul.l1 k3 a0 l1 l2 (x7_3.set ((ji14) : Int).toNat (Int.tmod (wrap64 ((rd x7_3 (ji14)) + (wrap64 ((rd l1 x8_2) * (rd l2 x9_3))))) a0)) x8_2 (wrap64 (x9_3 + 1)))) else (none)) else (none)) else (none)) else (none)) else (none)) = some r := by first | (rw [hji14] at H; exact H) | (simp only [hji14] at H ⊢; exact H)
                    have hji14w : (IntKind.i64.wrap (x8_2 + x9_3)) = ji14 := (i64_w _).trans hji14
                    by_cases c15 : 0 ≤ (ji14)
                    · rw [if_pos c15] at H
                      have c15b0 : decide (0 ≤ (ji14)) = true := decide_eq_true c15
                      clear c15
                      by_cases c16 : (ji14) < (x7_3.length : Int)
                      · rw [if_pos c16] at H
                        have c16b0 : decide ((ji14) < (x7_3.length : Int)) = true := decide_eq_true c16
                        clear c16
                        by_cases c17 : 0 ≤ x8_2
                        · rw [if_pos c17] at H
                          have c17b0 : decide (0 ≤ x8_2) = true := decide_eq_true c17
                          clear c17
                          by_cases c18 : x8_2 < (l1.length : Int)
                          · rw [if_pos c18] at H
                            have c18b0 : decide (x8_2 < (l1.length : Int)) = true := decide_eq_true c18
                            clear c18
                            by_cases c19 : 0 ≤ x9_3
                            · rw [if_pos c19] at H
                              have c19b0 : decide (0 ≤ x9_3) = true := decide_eq_true c19
                              clear c19
                              by_cases c20 : a0 = 0
                              · rw [if_pos c20] at H
                                exact absurd H (by simp)
                              · rw [if_neg c20] at H
                                have c20b0 : (a0 == 0) = false := beq_eq_false_iff_ne.mpr c20
                                have c20b1 : (a0 != 0) = true := bne_iff_ne.mpr c20
                                obtain ⟨y507, hy507⟩ : ∃ y_ : List Int, y_ = (x7_3.set ((ji14) : Int).toNat (Int.tmod (wrap64 ((rd x7_3 (ji14)) + (wrap64 ((rd l1 x8_2) * (rd l2 x9_3))))) a0)) := ⟨_, rfl⟩
                                replace H : (galoisref09_Mul.l1 k3 a0 l1 l2 y507 x8_2 (wrap64 (x9_3 + 1))) = some r := by first | (rw [hy507]; with_reducible exact H) | (have H2_ := (Option.bind_some _ _).symm.trans H; rw [hy507]; with_reducible exact H2_) | (have H2_ := (Option.bind_some _ _).symm.trans H; with_reducible exact H2_) | with_reducible exact H | (rw [hy507]; exact H) | exact H
                                have Ny507 := ak hy507
                                clear hy507
                                have H' := ak H
                                clear H
                                try go_wp2
                                have n0_ := ak (Kd.R_drew HO_7.out)
                                have n1_ := ak (below_drew1 HB.out)
                                clear HO_7
                                clear HB
                                have HO_7 := n0_
                                have HB := n1_
                                clear n0_ n1_
                                obtain ⟨Ao23, co23, eo23⟩ := Kd.R_slice HO_7.out
                                (first | subst eo23 | (injection eo23 with f1_ f2_ f3_; have f4_ := f1_.symm; have f5_ := f3_.symm; clear f1_ f2_ f3_; subst f4_; subst f5_))
                                have p504 : 0 ≤ ((ji14) : Int) := of_decide_eq_true aX
                                have q504 : (ji14) < (x7_3.length : Int) := of_decide_eq_true aX
                                obtain ⟨ad504, e504, hx504_0⟩ := Kd.at_int (Kd.R_reads' HO_7.out).2.2 (ji14) p504 q504
                                cases e504
                                replace p504 := eq_true p504
                                replace q504 := eq_true q504
                                have p505 : 0 ≤ (x8_2 : Int) := of_decide_eq_true aX
                                have q505 : x8_2 < (l1.length : Int) := of_decide_eq_true aX
                                obtain ⟨ad505, e505, hx505_0⟩ := Kd.at_int HR1.out x8_2 p505 q505
                                have hw505_0 := hx505_0
                                cases e505
                                replace hx505_0 := (HB.out.cell (World.block_lt_of_cell? w _ hx505_0)).trans hx505_0
                                replace p505 := eq_true p505
                                replace q505 := eq_true q505
                                have p506 : 0 ≤ (x9_3 : Int) := of_decide_eq_true aX
                                have q506 : x9_3 < (l2.length : Int) := of_decide_eq_true aX
                                obtain ⟨ad506, e506, hx506_0⟩ := Kd.at_int HR2.out x9_3 p506 q506
                                have hw506_0 := hx506_0
                                cases e506
                                replace hx506_0 := (HB.out.cell (World.block_lt_of_cell? w _ hx506_0)).trans hx506_0
                                replace p506 := eq_true p506
                                replace q506 := eq_true q506
                                have p21 : 0 ≤ ((ji14) : Int) := of_decide_eq_true aX
                                have q21 : ((ji14) : Int) < ((x7_3.length : Int) : Int) := of_decide_eq_true aX
                                obtain ⟨go21, co21, eo21, gb21, gl21, cl21, HG21⟩ := Kd.R_form HO_7.out (by omega)
                                (first | cases eo21 | (injection eo21 with ea_ en_ ec_; (first | subst ea_ | (injection ea_ with ea_; subst ea_)); subst ec_; clear en_))
                                have GB21 := ak gb21
                                have GG21 := ak HG21
                                clear gb21 gl21 HG21
                                (first | simp only [add_plain] at hx504_0 | skip)
                                obtain ⟨hx21_0, hf21_0⟩ := Kd.R_celln 0 HO_7.out ((ji14) : Int) p21 q21
                                replace p21 := eq_true p21
                                replace q21 := eq_true q21
                                have HP24 := Kd.R_putn HO_7.out ((ji14) : Int) (Int.tmod (wrap64 ((rd x7_3 (ji14)) + (wrap64 ((rd l1 x8_2) * (rd l2 x9_3))))) a0)
                                rw [← Ny507.out] at HP24
                                have HQ24 := ak HP24
                                clear HP24
                                refine start_ (n := 24) (S := fun w' => w'.cell? ⟨go21, ((ji14)).toNat, none⟩ = some (.int .i64 (rd x7_3 (ji14))) ∧ w'.cell? (ad505.add (x8_2).toNat) = some (.int .i64 (rd l1 x8_2)) ∧ w'.cell? (ad506.add (x9_3).toNat) = some (.int .i64 (rd l2 x9_3))) (ds := [23]) #[false, false, false, false, false, false, false, false, false, false, false, false, false, false, false, false, false, false, false, false, false, false, false, false] (by kernel_rfl) rfl rfl ⟨hx504_0, ((HB.out.cell (World.block_lt_of_cell? w _ hw505_0)).trans hw505_0), ((HB.out.cell (World.block_lt_of_cell? w _ hw506_0)).trans hw506_0)⟩ (fun hHeld => ?_); refine with_tabW galoisref09_Mul.tab10 galoisref09_Mul.bits10 (fun HT_ HW_ => ?_)
                                generalize wr.drew = w22 at HO_7 HB GG21 HQ24 hf21_0 hx21_0 hx504_0 hx505_0 hx506_0 hHeld ⊢
                                refine pure_ (i := 0) (N := some 37) (v := ?_) (a' := ?_) #[true, false, false, false, false, false, false, false, false, false, false, false, false, false, false, false, false, false, false, false, false, false, false, false] rfl rfl (any_of HT_.out (by kernel_rfl)) (fun _ _ _ h => h) (Or.inl ⟨by rfl, ?_⟩) ?_ ?_
                                rotate_left
                                · intro w'
                                  go_simp
                                  with_reducible rfl
                                rotate_left
                                · simp only [Act.put, sS, s0, s1, i64_w, i32_w]
                                  rfl
                                refine pure_ (i := 1) (N := some 38) (v := ?_) (a' := ?_) #[true, true, false, false, false, false, false, false, false, false, false, false, false, false, false, false, false, false, false, false, false, false, false, false] rfl rfl (any_of HT_.out (by kernel_rfl)) (fun _ _ _ h => h) (Or.inl ⟨by rfl, ?_⟩) ?_ ?_
                                rotate_left
                                · intro w'
                                  go_simp
                                  with_reducible rfl
                                rotate_left
                                · simp only [Act.put, sS, s0, s1, i64_w, i32_w]
                                  rfl
                                refine pure_ (i := 2) (N := some 39) (v := ?_) (a' := ?_) #[true, true, true, false, false, false, false, false, false, false, false, false, false, false, false, false, false, false, false, false, false, false, false, false] rfl rfl (any_of HT_.out (by kernel_rfl)) (fun _ _ _ h => h) (Or.inl ⟨by rfl, ?_⟩) ?_ ?_
                                rotate_left
                                · intro w'
                                  go_simp
                                  with_reducible rfl
                                rotate_left
                                · simp only [Act.put, sS, s0, s1, i64_w, i32_w]
                                  rfl
                                refine pure_ (i := 3) (N := some 40) (v := ?_) (a' := ?_) #[true, true, true, true, false, false, false, false, false, false, false, false, false, false, false, false, false, false, false, false, false, false, false, false] rfl rfl (any_of HT_.out (by kernel_rfl)) (fun _ _ _ h => h) (Or.inl ⟨by rfl, ?_⟩) ?_ ?_
                                rotate_left
                                · intro w'
                                  go_simp
                                  with_reducible rfl
                                rotate_left
                                · simp only [Act.put, sS, s0, s1, i64_w, i32_w]
                                  rfl
                                refine pure_ (i := 4) (N := some 41) (v := ?_) (a' := ?_) #[true, true, true, true, true, false, false, false, false, false, false, false, false, false, false, false, false, false, false, false, false, false, false, false] rfl rfl (any_of HT_.out (by kernel_rfl)) (fun _ _ _ h => h) (Or.inl ⟨by rfl, ?_⟩) ?_ ?_
                                rotate_left
                                · intro w'
                                  go_simp
                                  with_reducible rfl
                                rotate_left
                                · simp only [Act.put, sS, s0, s1, i64_w, i32_w]
                                  rfl
                                refine pure_ (i := 5) (N := some 42) (v := ?_) (a' := ?_) #[true, true, true, true, true, true, false, false, false, false, false, false, false, false, false, false, false, false, false, false, false, false, false, false] rfl rfl (any_of HT_.out (by kernel_rfl)) (fun _ _ _ h => h) (Or.inl ⟨by rfl, ?_⟩) ?_ ?_
                                rotate_left
                                · intro w'
                                  go_simp
                                  with_reducible rfl
                                rotate_left
                                · simp only [Act.put, sS, s0, s1, i64_w, i32_w]
                                  rfl
                                refine pure_ (i := 6) (N := some 43) (v := ?_) (a' := ?_) #[true, true, true, true, true, true, true, false, false, false, false, false, false, false, false, false, false, false, false, false, false, false, false, false] rfl rfl (any_of HT_.out (by kernel_rfl)) (fun _ _ _ h => h) (Or.inl ⟨by rfl, ?_⟩) ?_ ?_
                                rotate_left
                                · intro w'
                                  go_simp
                                  with_reducible rfl
                                rotate_left
                                · simp only [Act.put, sS, s0, s1, i64_w, i32_w]
                                  rfl
                                refine pure_ (i := 7) (N := some 44) (v := ?_) (a' := ?_) #[true, true, true, true, true, true, true, true, false, false, false, false, false, false, false, false, false, false, false, false, false, false, false, false] rfl rfl (any_of HT_.out (by kernel_rfl)) (fun _ _ _ h => h) (Or.inl ⟨by rfl, ?_⟩) ?_ ?_
                                rotate_left
                                · intro w'
                                  go_simp
                                  with_reducible rfl
                                rotate_left
                                · simp only [Act.put, sS, s0, s1, i64_w, i32_w]
                                  rfl
                                refine pure_ (i := 8) (N := some 45) (v := ?_) (a' := ?_) #[true, true, true, true, true, true, true, true, true, false, false, false, false, false, false, false, false, false, false, false, false, false, false, false] rfl rfl (any_of HT_.out (by kernel_rfl)) (fun _ _ _ h => h) (Or.inl ⟨by rfl, ?_⟩) ?_ ?_
                                rotate_left
                                · intro w'
                                  go_simp
                                  with_reducible rfl
                                rotate_left
                                · simp only [Act.put, sS, s0, s1, i64_w, i32_w]
                                  rfl
                                refine pure_ (i := 10) (N := some 47) (v := ?_) (a' := ?_) #[true, true, true, true, true, true, true, true, true, false, true, false, false, false, false, false, false, false, false, false, false, false, false, false] rfl rfl (any_of HT_.out (by kernel_rfl)) (fun _ _ _ h => h) (Or.inl ⟨by rfl, ?_⟩) ?_ ?_
                                rotate_left
                                · intro w'
                                  go_simp
                                  with_reducible rfl
                                rotate_left
                                · simp only [Act.put, sS, s0, s1, i64_w, i32_w]
                                  rfl
                                refine pure_ (i := 11) (N := some 48) (v := ?_) (a' := ?_) #[true, true, true, true, true, true, true, true, true, false, true, true, false, false, false, false, false, false, false, false, false, false, false, false] rfl rfl (any_of HT_.out (by kernel_rfl)) (fun _ _ _ h => h) (Or.inl ⟨by rfl, ?_⟩) ?_ ?_
                                rotate_left
                                · intro w'
                                  go_simp
                                  with_reducible rfl
                                rotate_left
                                · simp only [Act.put, sS, s0, s1, i64_w, i32_w]
                                  rfl
                                refine pure_ (i := 12) (N := some 49) (v := ?_) (a' := ?_) #[true, true, true, true, true, true, true, true, true, false, true, true, true, false, false, false, false, false, false, false, false, false, false, false] rfl rfl (any_of HT_.out (by kernel_rfl)) (fun _ _ _ h => h) (Or.inl ⟨by rfl, ?_⟩) ?_ ?_
                                rotate_left
                                · intro w'
                                  go_simp
                                  with_reducible rfl
                                rotate_left
                                · simp only [Act.put, sS, s0, s1, i64_w, i32_w]
                                  rfl
                                refine pure_ (i := 14) (N := some 51) (v := ?_) (a' := ?_) #[true, true, true, true, true, true, true, true, true, false, true, true, true, false, true, false, false, false, false, false, false, false, false, false] rfl rfl (any_of HT_.out (by kernel_rfl)) (fun _ _ _ h => h) (Or.inl ⟨by rfl, ?_⟩) ?_ ?_
                                rotate_left
                                · intro w'
                                  go_simp
                                  with_reducible rfl
                                rotate_left
                                · simp only [Act.put, sS, s0, s1, i64_w, i32_w]
                                  rfl
                                refine pure_ (i := 15) (N := some 52) (v := ?_) (a' := ?_) #[true, true, true, true, true, true, true, true, true, false, true, true, true, false, true, true, false, false, false, false, false, false, false, false] rfl rfl (any_of HT_.out (by kernel_rfl)) (fun _ _ _ h => h) (Or.inl ⟨by rfl, ?_⟩) ?_ ?_
                                rotate_left
                                · intro w'
                                  go_simp
                                  with_reducible rfl
                                rotate_left
                                · simp only [Act.put, sS, s0, s1, i64_w, i32_w]
                                  rfl
                                refine pure_ (i := 16) (N := some 53) (v := ?_) (a' := ?_) #[true, true, true, true, true, true, true, true, true, false, true, true, true, false, true, true, true, false, false, false, false, false, false, false] rfl rfl (any_of HT_.out (by kernel_rfl)) (fun _ _ _ h => h) (Or.inl ⟨by rfl, ?_⟩) ?_ ?_
                                rotate_left
                                · intro w'
                                  go_simp
                                  with_reducible rfl
                                rotate_left
                                · simp only [Act.put, sS, s0, s1, i64_w, i32_w]
                                  rfl
                                refine pure_ (i := 20) (N := some 57) (v := ?_) (a' := ?_) #[true, true, true, true, true, true, true, true, true, false, true, true, true, false, true, true, true, false, false, false, true, false, false, false] rfl rfl (any_of HT_.out (by kernel_rfl)) (fun _ _ _ h => h) (Or.inl ⟨by rfl, ?_⟩) ?_ ?_
                                rotate_left
                                · intro w'
                                  go_simp
                                  with_reducible rfl
                                rotate_left
                                · simp only [Act.put, sS, s0, s1, i64_w, i32_w]
                                  rfl
                                refine take_ (i := 9) (N := some 46) (v := ?_) (a' := ?_) #[true, true, true, true, true, true, true, true, true, true, true, true, true, false, true, true, true, false, false, false, true, false, false, false] rfl rfl (take_ofW HT_.out HW_.out (by kernel_rfl)) (fun _ _ _ h => h) (Or.inl ⟨by rfl, ?_⟩) hHeld ?_ ?_
                                rotate_left
                                · rintro w' ⟨s0, s1, s2⟩
                                  go_simp
                                  with_reducible rfl
                                rotate_left
                                · simp only [Act.put, sS, s0, s1, i64_w, i32_w]
                                  rfl
                                refine take_ (i := 13) (N := some 50) (v := ?_) (a' := ?_) #[true, true, true, true, true, true, true, true, true, true, true, true, true, true, true, true, true, false, false, false, true, false, false, false] rfl rfl (take_ofW HT_.out HW_.out (by kernel_rfl)) (fun _ _ _ h => h) (Or.inl ⟨by rfl, ?_⟩) hHeld ?_ ?_
                                rotate_left
                                · rintro w' ⟨s0, s1, s2⟩
                                  go_simp
                                  with_reducible rfl
                                rotate_left
                                · simp only [Act.put, sS, s0, s1, i64_w, i32_w]
                                  rfl
                                refine take_ (i := 17) (N := some 54) (v := ?_) (a' := ?_) #[true, true, true, true, true, true, true, true, true, true, true, true, true, true, true, true, true, true, false, false, true, false, false, false] rfl rfl (take_ofW HT_.out HW_.out (by kernel_rfl)) (fun _ _ _ h => h) (Or.inl ⟨by rfl, ?_⟩) hHeld ?_ ?_
                                rotate_left
                                · rintro w' ⟨s0, s1, s2⟩
                                  go_simp
                                  with_reducible rfl
                                rotate_left
                                · simp only [Act.put, sS, s0, s1, i64_w, i32_w]
                                  rfl
                                refine pure_ (i := 18) (N := some 55) (v := ?_) (a' := ?_) #[true, true, true, true, true, true, true, true, true, true, true, true, true, true, true, true, true, true, true, false, true, false, false, false] rfl rfl (any_of HT_.out (by kernel_rfl)) (fun _ _ _ h => h) (Or.inl ⟨by rfl, ?_⟩) ?_ ?_
                                rotate_left
                                · intro w'
                                  go_simp
                                  with_reducible rfl
                                rotate_left
                                · simp only [Act.put, sS, s0, s1, i64_w, i32_w]
                                  rfl
                                refine pure_ (i := 19) (N := some 56) (v := ?_) (a' := ?_) #[true, true, true, true, true, true, true, true, true, true, true, true, true, true, true, true, true, true, true, true, true, false, false, false] rfl rfl (any_of HT_.out (by kernel_rfl)) (fun _ _ _ h => h) (Or.inl ⟨by rfl, ?_⟩) ?_ ?_
                                rotate_left
                                · intro w'
                                  go_simp
                                  with_reducible rfl
                                rotate_left
                                · simp only [Act.put, sS, s0, s1, i64_w, i32_w]
                                  rfl
                                refine pure_ (i := 21) (N := some 58) (v := ?_) (a' := ?_) #[true, true, true, true, true, true, true, true, true, true, true, true, true, true, true, true, true, true, true, true, true, true, false, false] rfl rfl (any_of HT_.out (by kernel_rfl)) (fun _ _ _ h => h) (Or.inl ⟨by rfl, ?_⟩) ?_ ?_
                                rotate_left
                                · intro w'
                                  go_simp
                                  with_reducible rfl
                                rotate_left
                                · simp only [Act.put, sS, s0, s1, i64_w, i32_w]
                                  rfl
                                refine pure_ (i := 22) (N := some 59) (v := ?_) (a' := ?_) #[true, true, true, true, true, true, true, true, true, true, true, true, true, true, true, true, true, true, true, true, true, true, true, false] rfl rfl (any_of HT_.out (by kernel_rfl)) (fun _ _ _ h => h) (Or.inl ⟨by rfl, ?_⟩) ?_ ?_
                                rotate_left
                                · intro w'
                                  go_simp
                                  with_reducible rfl
                                rotate_left
                                · simp only [Act.put, sS, s0, s1, i64_w, i32_w]
                                  rfl
                                refine last_ (i := 23) (N := none) #[true, true, true, true, true, true, true, true, true, true, true, true, true, true, true, true, true, true, true, true, true, true, true, true] rfl rfl (one_of HT_.out (by kernel_rfl)) (by decide) (fun K hK => ?_)
                                refine skip_ (w1 := ?_) (by rfl) rfl ?_ ?_
                                rotate_left
                                · go_simp
                                  rfl
                                refine hK.out _ _ ?_
                                clear hK K
                                refine done_ (done_of HT_.out (by kernel_rfl)) ?_
                                try go_wp2
                                (first | go_roundg k3 | (refine Handed.intro k3 ?measure ?_; rotate_left; go_step; (repeat rw [add_plain]); (repeat apply Exists.intro); refine ⟨?rel, rfl⟩))
                                case measure => have := HJ3.out; have := HK2.out; have := HK3.out; omega
                                case rel => exact ⟨(y507), (wrap64 (x9_3 + 1)), (by first | rfl | (simp; done) | (simp [*]; done)), H', ⟨by have := HJ3.out; have := HK2.out; have := HK3.out; omega⟩, ⟨by (with_reducible repeat (first | apply Kd.R_alloc | apply Kd.R_drewN | apply Kd.R_drew)); exact HQ24.out⟩, ⟨by repeat (first | (with_reducible first | exact HB.out | apply bA | apply bB | apply bC | refine below_set ?_ GB21.out) | exact HB.out)⟩⟩
                            · rw [if_neg c19] at H
                              exact absurd H (by simp)
                          · rw [if_neg c18] at H
                            exact absurd H (by simp)
                        · rw [if_neg c17] at H
                          exact absurd H (by simp)
                      · rw [if_neg c16] at H
                        exact absurd H (by simp)
                    · rw [if_neg c15] at H
                      exact absurd H (by simp)
                  · rw [if_neg c13] at H
                    have c13b0 : decide (x9_3 < (l2.length : Int)) = false := decide_eq_false c13
                    clear c13
                    have H' := ak H
                    clear H
                    go_wp2
                    (first | go_roundg k3 | (refine Handed.intro k3 ?measure ?_; rotate_left; go_step; (repeat rw [add_plain]); (repeat apply Exists.intro); refine ⟨?rel, rfl⟩))
                    case measure => have := HJ3.out; have := HK2.out; have := HK3.out; omega
                    case rel => exact ⟨(x7_3), (wrap64 (x8_2 + 1)), (by first | rfl | (simp; done) | (simp [*]; done)), H', ⟨by have := HJ3.out; have := HK2.out; have := HK3.out; omega⟩, ⟨by (with_reducible repeat (first | apply Kd.R_alloc | apply Kd.R_drewN | apply Kd.R_drew)); exact HO_7.out⟩, ⟨by repeat (first | (with_reducible first | exact HB.out | apply bA | apply bB | apply bC) | exact HB.out)⟩⟩
             · rw [if_neg c12] at H
               have c12b0 : decide (x8_2 < (l1.length : Int)) = false := decide_eq_false c12
               clear c12
               replace H := Option.bind_eq_some_iff.mp H
               obtain ⟨t501, A250, H⟩ := H
               replace H : (some t501) = some r := H
               have A25 := ak A250
               clear A250
               obtain rfl := Option.some.inj H
               obtain ⟨Ao26, co26, eo26⟩ := Kd.R_slice HO_7.out
               subst eo26
               go_wp2_with (first | ((with_reducible refine gate_callee (f := 40) rfl ?_); refine goesL_ (some 61) rfl rfl Try.func40 (by kernel_rfl) rfl #[.slice Ao26 x7_2.length co26] rfl mX ?_; (with_reducible refine (galoisref09_Trim.calls k2 (fun k_ => some k_ = (.slice Ao26 x7_2.length co26 : Value).ownBlock) _ _ x7_2 t501 _ ?side1 A25.out).mono ?_); (case side1 => exact Kd.R_V (Kd.R_tight rfl (HO_7.out))); rintro e w27 ⟨v502, rfl, ho0, hb⟩; refine ⟨_, rfl, ?_⟩; have n0_ := ak (Kd.R_below (rX HO_7.out) hb); have n1_ := ak (Kd.V_lower (Kd.V_mono (ok' := fun k_ => (w.heap.size ≤ k_)) ho0 (fun k_ hk_ => Or.elim hk_ (fun hs_ => ((HO_7.out).1 k_ hs_.symm)) (fun hn_ => (Nat.le_trans (below_size bX) hn_)))) (below_size bX)); have n2_ := ak (below_step bX hb); clear HO_7; clear HB; have HO_7 := n0_; have HO503 := n1_; have HB := n2_; clear n0_ n1_ n2_; (try clear hb); (try clear hb2); (try clear hk); (try clear hi); (try clear ho0)))
               go_ret
               exact ⟨_, by first | rfl | (simp [errW_none, errW_some] <;> rfl) | (simp only [← hji7]; first | rfl | (simp [errW_none, errW_some] <;> rfl)) | (simp [*, errW_none, errW_some] <;> rfl), by (with_reducible repeat (first | apply vA | apply vB | apply vC)); exact HO503.out, by repeat (first | (with_reducible first | exact HB.out | apply bA | apply bB | apply bC) | exact HB.out)⟩
        · rw [if_neg c9] at H
          exact absurd H (by simp)
      · rw [if_neg c8] at H
        exact absurd H (by simp)

/-! ### galoisref09_Xgcd: function 34 -/
def galoisref09_Xgcd.l0 : Nat → Int → List Int → List Int → List Int → List Int → List Int → List Int → Option (List Int × List Int × List Int)
 | 0, _, _, _, _, _, _, _ => none
 | k + 1, x0, x1, x2, x9, x10, x11, x12 => if (x2.length : Int) > 0 then ((galoisref09_DivMod.f k x0 x1 x2).bind fun bt520 => ((galoisref09_Mul.f k x0 bt520.1 x10).bind fun t526 => ((galoisref09_Sub.f k x0 x9 t526).bind fun t529 => ((galoisref09_Mul.f k x0 bt520.1 x12).bind fun t532 => ((galoisref09_Sub.f k x0 x11 t532).bind fun t535 => (galoisref09_Xgcd.l0 k x0 x2 bt520.2 x10 t529 x12 t535)))))) else (if (x1.length : Int) = 0 then (some (([] : List Int), ([] : List Int), ([] : List Int))) else ((galoisref09_Lead.f x1).bind fun t538 => ((galoisref04_Inverse.f k t538 x0).bind fun t539 => ((galoisref09_Scale.f k x0 x1 t539).bind fun t540 => ((galoisref09_Scale.f k x0 x9 t539).bind fun t543 => ((galoisref09_Scale.f k x0 x11 t539).bind fun t546 => (some (t540, t543, t546))))))))
def galoisref09_Xgcd.f (k : Nat) (a0 : Int) (l1 : List Int) (l2 : List Int) : Option (List Int × List Int × List Int) := galoisref09_Xgcd.l0 k a0 l1 l2 (([1] : List Int)) (([] : List Int)) (([] : List Int)) (([1] : List Int))
theorem galoisref09_Xgcd.mono_l : ∀ k, (∀ y0 y1 y2 y3 y4 y5 y6, LeO (galoisref09_Xgcd.l0 k y0 y1 y2 y3 y4 y5 y6) (galoisref09_Xgcd.l0 (k + 1) y0 y1 y2 y3 y4 y5 y6))
 | 0 => fun _ _ _ _ _ _ _ r h => by simp [galoisref09_Xgcd.l0] at h
 | k + 1 => by
   have ih0 := galoisref09_Xgcd.mono_l k
   · intro y0 y1 y2 y3 y4 y5 y6
     unfold galoisref09_Xgcd.l0
     repeat' first
     | (with_reducible apply ih0)
     | (with_reducible apply galoisref04_Inverse.mono)
     | (with_reducible apply galoisref09_DivMod.mono)
     | (with_reducible apply galoisref09_Mul.mono)
     | (with_reducible apply galoisref09_Scale.mono)
     | (with_reducible apply galoisref09_Sub.mono)
     | (with_reducible apply LeO.refl)
     | (with_reducible apply LeO.none)
     | (with_reducible refine LeO.ite ?_ ?_)
     | (with_reducible refine LeO.bind ?_ (fun _ => ?_))
theorem galoisref09_Xgcd.mono : ∀ a0 a1 a2 k, LeO (galoisref09_Xgcd.f k a0 a1 a2) (galoisref09_Xgcd.f (k + 1) a0 a1 a2) := by
 intro a0 a1 a2 k
 have ih0 := galoisref09_Xgcd.mono_l k
 unfold galoisref09_Xgcd.f
 repeat' first
  | (with_reducible apply ih0)
  | (with_reducible apply galoisref04_Inverse.mono)
  | (with_reducible apply galoisref09_DivMod.mono)
  | (with_reducible apply galoisref09_Mul.mono)
  | (with_reducible apply galoisref09_Scale.mono)
  | (with_reducible apply galoisref09_Sub.mono)
  | (with_reducible apply LeO.refl)
  | (with_reducible apply LeO.none)
  | (with_reducible refine LeO.ite ?_ ?_)
  | (with_reducible refine LeO.bind ?_ (fun _ => ?_))
set_option maxHeartbeats 8000000 in
set_option maxRecDepth 100000 in
theorem galoisref09_Xgcd.calls (k : Nat) (a0 : Int) (P1_ : Nat → Prop) (A1 : Option Addr) (c1 : Nat) (l1 : List Int) (P2_ : Nat → Prop) (A2 : Option Addr) (c2 : Nat) (l2 : List Int) (r1 : List Int) (r2 : List Int) (r3 : List Int) (w : World) (hs1 : Kd.V (Kd.int .i64) 3 w w.heap.size (fun k_ => P1_ k_) (.slice A1 l1.length c1) l1) (hs2 : Kd.V (Kd.int .i64) 3 w w.heap.size (fun k_ => P2_ k_) (.slice A2 l2.length c2) l2) (h : galoisref09_Xgcd.f k a0 l1 l2 = some (r1, r2, r3)) :
 Calls Try.prog 34 #[.int .i64 a0, .slice A1 l1.length c1, .slice A2 l2.length c2] w fun e w' => ∃ v0_ v1_ v2_ : Value, e = .returned (.tuple #[v0_, v1_, v2_]) ∧ Kd.V (Kd.int .i64) 3 w' w.heap.size (fun k_ => ((P1_ k_ ∨ P2_ k_) ∨ w.heap.size ≤ k_)) v0_ r1 ∧ Kd.V (Kd.int .i64) 3 w' w.heap.size (fun k_ => ((P1_ k_ ∨ P2_ k_) ∨ w.heap.size ≤ k_)) v1_ r2 ∧ Kd.V (Kd.int .i64) 3 w' w.heap.size (fun k_ => ((P1_ k_ ∨ P2_ k_) ∨ w.heap.size ≤ k_)) v2_ r3 ∧ Below w.heap.size w w' := by
 have HO1 := ak (show Kd.V (Kd.int .i64) 3 w w.heap.size (fun k_ => ((P1_ k_ ∨ P2_ k_) ∨ w.heap.size ≤ k_)) (.slice A1 l1.length c1) l1 from Kd.V_mono hs1 (fun k_ hk => .inl (.inl hk)))
 have HO2 := ak (show Kd.V (Kd.int .i64) 3 w w.heap.size (fun k_ => ((P1_ k_ ∨ P2_ k_) ∨ w.heap.size ≤ k_)) (.slice A2 l2.length c2) l2 from Kd.V_mono hs2 (fun k_ hk => .inl (.inr hk)))
 have HB := ak (Below.refl w.heap.size w)
 have H : (galoisref09_Xgcd.l0 k a0 l1 l2 (([1] : List Int)) (([] : List Int)) (([] : List Int)) (([1] : List Int))) = some (r1, r2, r3) := h
 clear h
 obtain ⟨y508, hy508⟩ : ∃ y_ : List Int, y_ = (([1] : List Int)) := ⟨_, rfl⟩
 replace H : (galoisref09_Xgcd.l0 k a0 l1 l2 y508 (([] : List Int)) (([] : List Int)) (([1] : List Int))) = some (r1, r2, r3) := by first | (rw [hy508]; with_reducible exact H) | (have H2_ := (Option.bind_some _ _).symm.trans H; rw [hy508]; with_reducible exact H2_) | (have H2_ := (Option.bind_some _ _).symm.trans H; with_reducible exact H2_) | with_reducible exact H | (rw [hy508]; exact H) | exact H
 have Ny508 := ak hy508
 clear hy508
 obtain ⟨y511, hy511⟩ : ∃ y_ : List Int, y_ = (([] : List Int)) := ⟨_, rfl⟩
 replace H : (galoisref09_Xgcd.l0 k a0 l1 l2 y508 y511 (([] : List Int)) (([1] : List Int))) = some (r1, r2, r3) := by first | (rw [hy511]; with_reducible exact H) | (have H2_ := (Option.bind_some _ _).symm.trans H; rw [hy511]; with_reducible exact H2_) | (have H2_ := (Option.bind_some _ _).symm.trans H; with_reducible exact H2_) | with_reducible exact H | (rw [hy511]; exact H) | exact H
 have Ny511 := ak hy511
 clear hy511
 obtain ⟨y514, hy514⟩ : ∃ y_ : List Int, y_ = (([] : List Int)) := ⟨_, rfl⟩
 replace H : (galoisref09_Xgcd.l0 k a0 l1 l2 y508 y511 y514 (([1] : List Int))) = some (r1, r2, r3) := by first | (rw [hy514]; with_reducible exact H) | (have H2_ := (Option.bind_some _ _).symm.trans H; rw [hy514]; with_reducible exact H2_) | (have H2_ := (Option.bind_some _ _).symm.trans H; with_reducible exact H2_) | with_reducible exact H | (rw [hy514]; exact H) | exact H
 have Ny514 := ak hy514
 clear hy514
 obtain ⟨y517, hy517⟩ : ∃ y_ : List Int, y_ = (([1] : List Int)) := ⟨_, rfl⟩
 replace H : (galoisref09_Xgcd.l0 k a0 l1 l2 y508 y511 y514 y517) = some (r1, r2, r3) := by first | (rw [hy517]; with_reducible exact H) | (have H2_ := (Option.bind_some _ _).symm.trans H; rw [hy517]; with_reducible exact H2_) | (have H2_ := (Option.bind_some _ _).symm.trans H; with_reducible exact H2_) | with_reducible exact H | (rw [hy517]; exact H) | exact H
 have Ny517 := ak hy517
 clear hy517
 have H' := ak H
 clear H
 go_enter Try.func34, Try.ntmps34
 go_wp2_with (first | ((with_reducible refine gate_dst (N := 16) rfl ?_); refine Kd.R_lit (Kd.int .i64) _ 3 ?hg (N := 16) ?hd (xs := ([1] : List Int)) (inner := [.int .i64 1]) (ok := fun _ => True) (okp := fun _ => True) ?hr ?hp (fun _ hk => hk) trivial (Below.refl _ _) (Nat.le_refl _) (by simp) ?_; (case hd => rfl); (case hg => rfl); (case hr => first | (go_simp; done) | (go_simp; rfl)); (case hp => exact (Reps.one (show Kd.M (Kd.int .i64) _ _ _ 1 [.int .i64 1] from rfl) (Reps.none _ _))); intro v509 w4 ho5 hb hg_ hnew_; clear hg_ hnew_; (first | rw [← Ny508.out] at ho5 | (simp only [Int.reduceToNat] at ho5; rw [← Ny508.out] at ho5)); have n0_ := ak (Kd.V_elder' (vX HO1.out) (Kd.R_base ho5) hb); have n1_ := ak (Kd.V_elder' (vX HO2.out) (Kd.R_base ho5) hb); have n2_ := ak (Kd.R_lower (Kd.R_newM (M := fun k_ => (w.heap.size ≤ k_)) ho5 (below_size bX) (fun k_ h_ => h_)) (below_size bX)); have n3_ := ak (below_step bX hb); clear HO1; clear HO2; clear HB; have HO1 := n0_; have HO2 := n1_; have HO510 := n2_; have HB := n3_; clear n0_ n1_ n2_ n3_; clear hb ho5) | ((with_reducible refine gate_dst (N := 17) rfl ?_); refine Kd.R_lit (Kd.int .i64) _ 3 ?hg (N := 17) ?hd (xs := ([] : List Int)) (inner := []) (ok := fun _ => True) (okp := fun _ => True) ?hr ?hp (fun _ hk => hk) trivial (Below.refl _ _) (Nat.le_refl _) (by simp) ?_; (case hd => rfl); (case hg => rfl); (case hr => first | (go_simp; done) | (go_simp; rfl)); (case hp => exact (Reps.none _ _)); intro v512 w6 ho7 hb hg_ hnew_; clear hg_ hnew_; (first | rw [← Ny511.out] at ho7 | (simp only [Int.reduceToNat] at ho7; rw [← Ny511.out] at ho7)); have n0_ := ak (Kd.V_elder' (vX HO1.out) (Kd.R_base ho7) hb); have n1_ := ak (Kd.V_elder' (vX HO2.out) (Kd.R_base ho7) hb); have n2_ := ak (Kd.R_elder' (rX HO510.out) (Kd.R_base ho7) hb); have n3_ := ak (Kd.R_lower (Kd.R_new' (Kd.R_newM (M := fun k_ => (w.heap.size ≤ k_)) ho7 (below_size bX) (fun k_ h_ => h_)) (Kd.R_lt (rX HO510.out))) (below_size bX)); have n4_ := ak (below_step bX hb); clear HO1; clear HO2; clear HO510; clear HB; have HO1 := n0_; have HO2 := n1_; have HO510 := n2_; have HO513 := n3_; have HB := n4_; clear n0_ n1_ n2_ n3_ n4_; clear hb ho7) | ((with_reducible refine gate_dst (N := 18) rfl ?_); refine Kd.R_lit (Kd.int .i64) _ 3 ?hg (N := 18) ?hd (xs := ([] : List Int)) (inner := []) (ok := fun _ => True) (okp := fun _ => True) ?hr ?hp (fun _ hk => hk) trivial (Below.refl _ _) (Nat.le_refl _) (by simp) ?_; (case hd => rfl); (case hg => rfl); (case hr => first | (go_simp; done) | (go_simp; rfl)); (case hp => exact (Reps.none _ _)); intro v515 w8 ho9 hb hg_ hnew_; clear hg_ hnew_; (first | rw [← Ny514.out] at ho9 | (simp only [Int.reduceToNat] at ho9; rw [← Ny514.out] at ho9)); have n0_ := ak (Kd.V_elder' (vX HO1.out) (Kd.R_base ho9) hb); have n1_ := ak (Kd.V_elder' (vX HO2.out) (Kd.R_base ho9) hb); have n2_ := ak (Kd.R_elder' (rX HO510.out) (Kd.R_base ho9) hb); have n3_ := ak (Kd.R_elder' (rX HO513.out) (Kd.R_base ho9) hb); have n4_ := ak (Kd.R_lower (Kd.R_new' (Kd.R_new' (Kd.R_newM (M := fun k_ => (w.heap.size ≤ k_)) ho9 (below_size bX) (fun k_ h_ => h_)) (Kd.R_lt (rX HO510.out))) (Kd.R_lt (rX HO513.out))) (below_size bX)); have n5_ := ak (below_step bX hb); clear HO1; clear HO2; clear HO510; clear HO513; clear HB; have HO1 := n0_; have HO2 := n1_; have HO510 := n2_; have HO513 := n3_; have HO516 := n4_; have HB := n5_; clear n0_ n1_ n2_ n3_ n4_ n5_; clear hb ho9) | ((with_reducible refine gate_dst (N := 19) rfl ?_); refine Kd.R_lit (Kd.int .i64) _ 3 ?hg (N := 19) ?hd (xs := ([1] : List Int)) (inner := [.int .i64 1]) (ok := fun _ => True) (okp := fun _ => True) ?hr ?hp (fun _ hk => hk) trivial (Below.refl _ _) (Nat.le_refl _) (by simp) ?_; (case hd => rfl); (case hg => rfl); (case hr => first | (go_simp; done) | (go_simp; rfl)); (case hp => exact (Reps.one (show Kd.M (Kd.int .i64) _ _ _ 1 [.int .i64 1] from rfl) (Reps.none _ _))); intro v518 w10 ho11 hb hg_ hnew_; clear hg_ hnew_; (first | rw [← Ny517.out] at ho11 | (simp only [Int.reduceToNat] at ho11; rw [← Ny517.out] at ho11)); have n0_ := ak (Kd.V_elder' (vX HO1.out) (Kd.R_base ho11) hb); have n1_ := ak (Kd.V_elder' (vX HO2.out) (Kd.R_base ho11) hb); have n2_ := ak (Kd.R_elder' (rX HO510.out) (Kd.R_base ho11) hb); have n3_ := ak (Kd.R_elder' (rX HO513.out) (Kd.R_base ho11) hb); have n4_ := ak (Kd.R_elder' (rX HO516.out) (Kd.R_base ho11) hb); have n5_ := ak (Kd.R_lower (Kd.R_new' (Kd.R_new' (Kd.R_new' (Kd.R_newM (M := fun k_ => (w.heap.size ≤ k_)) ho11 (below_size bX) (fun k_ h_ => h_)) (Kd.R_lt (rX HO510.out))) (Kd.R_lt (rX HO513.out))) (Kd.R_lt (rX HO516.out))) (below_size bX)); have n6_ := ak (below_step bX hb); clear HO1; clear HO2; clear HO510; clear HO513; clear HO516; clear HB; have HO1 := n0_; have HO2 := n1_; have HO510 := n2_; have HO513 := n3_; have HO516 := n4_; have HO519 := n5_; have HB := n6_; clear n0_ n1_ n2_ n3_ n4_ n5_ n6_; clear hb ho11))
 go_loopg [1, 2, 9, 10, 11, 12] k (fun kq v1 v2 v9 v10 v11 v12 w' => ∃ (x1_1 : List Int) (x2_1 : List Int) (x9_1 : List Int) (x10_1 : List Int) (x11_1 : List Int) (x12_1 : List Int), Aside0 (galoisref09_Xgcd.l0 kq a0 x1_1 x2_1 x9_1 x10_1 x11_1 x12_1 = some (r1, r2, r3)) ∧ Aside0 (kq ≤ k) ∧ Aside0 (Kd.V (Kd.int .i64) 3 w' w.heap.size (fun k_ => ((P1_ k_ ∨ P2_ k_) ∨ w.heap.size ≤ k_)) v1 x1_1) ∧ Aside0 (Kd.V (Kd.int .i64) 3 w' w.heap.size (fun k_ => ((P1_ k_ ∨ P2_ k_) ∨ w.heap.size ≤ k_)) v2 x2_1) ∧ Aside0 (Kd.V (Kd.int .i64) 3 w' w.heap.size (fun k_ => ((P1_ k_ ∨ P2_ k_) ∨ w.heap.size ≤ k_)) v9 x9_1) ∧ Aside0 (Kd.V (Kd.int .i64) 3 w' w.heap.size (fun k_ => ((P1_ k_ ∨ P2_ k_) ∨ w.heap.size ≤ k_)) v10 x10_1) ∧ Aside0 (Kd.V (Kd.int .i64) 3 w' w.heap.size (fun k_ => ((P1_ k_ ∨ P2_ k_) ∨ w.heap.size ≤ k_)) v11 x11_1) ∧ Aside0 (Kd.V (Kd.int .i64) 3 w' w.heap.size (fun k_ => ((P1_ k_ ∨ P2_ k_) ∨ w.heap.size ≤ k_)) v12 x12_1) ∧ Aside0 (Below w.heap.size w w'))
 case atStart => exact ⟨(l1), (l2), (y508), (y511), (y514), (y517), H', ⟨Nat.le_refl _⟩, ⟨by (with_reducible repeat (first | apply vA | apply vB | apply vC)); exact Kd.V_mono HO1.out (fun _ hk => hk.1.1.1.1)⟩, ⟨by (with_reducible repeat (first | apply vA | apply vB | apply vC)); exact Kd.V_mono HO2.out (fun _ hk => hk.1.1.1.1)⟩, ⟨Kd.V_mono (Kd.R_V (by (with_reducible repeat (first | apply Kd.R_alloc | apply Kd.R_drewN | apply Kd.R_drew)); exact Kd.R_mono HO510.out (fun _ hk => hk.1.1.1.1))) (fun k_ hk => by first | exact ⟨(.inr (hk.1)), hk.2⟩ | exact (.inr (hk)))⟩, ⟨Kd.V_mono (Kd.R_V (by (with_reducible repeat (first | apply Kd.R_alloc | apply Kd.R_drewN | apply Kd.R_drew)); exact Kd.R_mono HO513.out (fun _ hk => hk.1.1.1.1))) (fun k_ hk => by first | exact ⟨(.inr (hk.1)), hk.2⟩ | exact (.inr (hk)))⟩, ⟨Kd.V_mono (Kd.R_V (by (with_reducible repeat (first | apply Kd.R_alloc | apply Kd.R_drewN | apply Kd.R_drew)); exact Kd.R_mono HO516.out (fun _ hk => hk.1.1.1.1))) (fun k_ hk => by first | exact ⟨(.inr (hk.1)), hk.2⟩ | exact (.inr (hk)))⟩, ⟨Kd.V_mono (Kd.R_V (by (with_reducible repeat (first | apply Kd.R_alloc | apply Kd.R_drewN | apply Kd.R_drew)); exact Kd.R_mono HO519.out (fun _ hk => hk.1.1.1.1))) (fun k_ hk => by first | exact ⟨(.inr (hk.1)), hk.2⟩ | exact (.inr (hk)))⟩, ⟨by repeat (first | (with_reducible first | exact HB.out | apply bA | apply bB | apply bC) | exact HB.out)⟩⟩
 case round =>
  clear H'
  try clear c1
  try clear c2
  try clear p2
  try clear c3
  obtain ⟨x1_1, x2_1, x9_1, x10_1, x11_1, x12_1, HA, HK1, HO_1, HO_2, HO_9, HO_10, HO_11, HO_12, HB⟩ := hrel
  cases gk with
  | zero => exact absurd HA.out (by simp [galoisref09_Xgcd.l0])
  | succ k1 =>
    have H := HA.out
    clear HA
    simp only [galoisref09_Xgcd.l0] at H
    by_cases c12 : (x2_1.length : Int) > 0
    · rw [if_pos c12] at H
      have c12b0 : decide (0 < (x2_1.length : Int)) = true := decide_eq_true c12
      have c12b1 : decide (0 < x2_1.length) = true := decide_eq_true (by omega)
      clear c12
      replace H := Option.bind_eq_some_iff.mp H
      obtain ⟨⟨t520, t523⟩, A130, H⟩ := H
      replace H : ((galoisref09_Mul.f k1 a0 t520 x10_1).bind fun t526 => ((galoisref09_Sub.f k1 a0 x9_1 t526).bind fun t529 => ((galoisref09_Mul.f k1 a0 t520 x12_1).bind fun t532 => ((galoisref09_Sub.f k1 a0 x11_1 t532).bind fun t535 => (galoisref09_Xgcd.l0 k1 a0 x2_1 t523 x10_1 t529 x12_1 t535))))) = some (r1, r2, r3) := H
      have A13 := ak A130
      clear A130
      replace H := Option.bind_eq_some_iff.mp H
      obtain ⟨t526, A140, H⟩ := H
      replace H : ((galoisref09_Sub.f k1 a0 x9_1 t526).bind fun t529 => ((galoisref09_Mul.f k1 a0 t520 x12_1).bind fun t532 => ((galoisref09_Sub.f k1 a0 x11_1 t532).bind fun t535 => (galoisref09_Xgcd.l0 k1 a0 x2_1 t523 x10_1 t529 x12_1 t535)))) = some (r1, r2, r3) := H
      have A14 := ak A140
      clear A140
      replace H := Option.bind_eq_some_iff.mp H
      obtain ⟨t529, A150, H⟩ := H
      replace H : ((galoisref09_Mul.f k1 a0 t520 x12_1).bind fun t532 => ((galoisref09_Sub.f k1 a0 x11_1 t532).bind fun t535 => (galoisref09_Xgcd.l0 k1 a0 x2_1 t523 x10_1 t529 x12_1 t535))) = some (r1, r2, r3) := H
      have A15 := ak A150
      clear A150
      replace H := Option.bind_eq_some_iff.mp H
      obtain ⟨t532, A160, H⟩ := H
      replace H : ((galoisref09_Sub.f k1 a0 x11_1 t532).bind fun t535 => (galoisref09_Xgcd.l0 k1 a0 x2_1 t523 x10_1 t529 x12_1 t535)) = some (r1, r2, r3) := H
      have A16 := ak A160
      clear A160
      replace H := Option.bind_eq_some_iff.mp H
      obtain ⟨t535, A170, H⟩ := H
      replace H : (galoisref09_Xgcd.l0 k1 a0 x2_1 t523 x10_1 t529 x12_1 t535) = some (r1, r2, r3) := H
      have A17 := ak A170
      clear A170
      have H' := ak H
      clear H
      obtain ⟨Ao18, co18, eo18⟩ := Kd.V_slice HO_2.out
      subst eo18
      obtain ⟨Ao19, co19, eo19⟩ := Kd.V_slice HO_1.out
      subst eo19
      go_wp2_with (first | ((with_reducible refine gate_callee (f := 35) rfl ?_); refine goesL_ (some 27) rfl rfl Try.func35 (by kernel_rfl) rfl #[.int .i64 a0, .slice Ao19 x1_1.length co19, .slice Ao18 x2_1.length co18] rfl mX ?_; (with_reducible refine (galoisref09_DivMod.calls k1 a0 _ _ x1_1 _ _ x2_1 t520 t523 _ ?side1 ?side2 ?side3 ?side4 A13.out).mono ?_); (case side1 => exact cX (Kd.V_reads' HO_1.out).2.2); (case side2 => exact (Kd.V_reads' HO_1.out).2.1); (case side3 => exact cX (Kd.V_reads' HO_2.out).2.2); (case side4 => exact (Kd.V_reads' HO_2.out).2.1); rintro e w20 ⟨v521, v524, rfl, ho0, ho1, hb⟩; refine ⟨_, rfl, ?_⟩; have n0_ := ak (Kd.V_below (vX HO_1.out) hb); have n1_ := ak (Kd.V_below (vX HO_2.out) hb); have n2_ := ak (Kd.V_below (vX HO_9.out) hb); have n3_ := ak (Kd.V_below (vX HO_10.out) hb); have n4_ := ak (Kd.V_below (vX HO_11.out) hb); have n5_ := ak (Kd.V_below (vX HO_12.out) hb); have n6_ := ak (Kd.V_lower (Kd.V_mono (ok' := fun k_ => ((P1_ k_ ∨ P2_ k_) ∨ w.heap.size ≤ k_)) ho0 (fun k_ hk_ => (.inr (Nat.le_trans (below_size bX) hk_)))) (below_size bX)); have n7_ := ak (Kd.V_lower (Kd.V_mono (ok' := fun k_ => ((P1_ k_ ∨ P2_ k_) ∨ w.heap.size ≤ k_)) ho1 (fun k_ hk_ => (.inr (Nat.le_trans (below_size bX) hk_)))) (below_size bX)); have n8_ := ak (below_step bX hb); clear HO_1; clear HO_2; clear HO_9; clear HO_10; clear HO_11; clear HO_12; clear HB; have HO_1 := n0_; have HO_2 := n1_; have HO_9 := n2_; have HO_10 := n3_; have HO_11 := n4_; have HO_12 := n5_; have HO522 := n6_; have HO525 := n7_; have HB := n8_; clear n0_ n1_ n2_ n3_ n4_ n5_ n6_ n7_ n8_; (try clear hb); (try clear hb2); (try clear hk); (try clear hi); (try clear ho0); (try clear ho1); obtain ⟨Ao21, co21, eo21⟩ := Kd.V_slice HO522.out; subst eo21; obtain ⟨Ao22, co22, eo22⟩ := Kd.V_slice HO_10.out; subst eo22) | ((with_reducible refine gate_callee (f := 52) rfl ?_); refine goesL_ (some 38) rfl rfl Try.func52 (by kernel_rfl) rfl #[.int .i64 a0, .slice Ao21 t520.length co21, .slice Ao22 x10_1.length co22] rfl mX ?_; (with_reducible refine (galoisref09_Mul.calls k1 a0 _ _ t520 _ _ x10_1 t526 _ ?side1 ?side2 ?side3 ?side4 A14.out).mono ?_); (case side1 => exact cX (Kd.V_reads' HO522.out).2.2); (case side2 => exact (Kd.V_reads' HO522.out).2.1); (case side3 => exact cX (Kd.V_reads' HO_10.out).2.2); (case side4 => exact (Kd.V_reads' HO_10.out).2.1); rintro e w23 ⟨v527, rfl, ho0, hb⟩; refine ⟨_, rfl, ?_⟩; have n0_ := ak (Kd.V_below (vX HO_1.out) hb); have n1_ := ak (Kd.V_below (vX HO_2.out) hb); have n2_ := ak (Kd.V_below (vX HO_9.out) hb); have n3_ := ak (Kd.V_below (vX HO_10.out) hb); have n4_ := ak (Kd.V_below (vX HO_11.out) hb); have n5_ := ak (Kd.V_below (vX HO_12.out) hb); have n6_ := ak (Kd.V_below (vX HO522.out) hb); have n7_ := ak (Kd.V_below (vX HO525.out) hb); have n8_ := ak (Kd.V_lower (Kd.V_mono (ok' := fun k_ => ((P1_ k_ ∨ P2_ k_) ∨ w.heap.size ≤ k_)) ho0 (fun k_ hk_ => (.inr (Nat.le_trans (below_size bX) hk_)))) (below_size bX)); have n9_ := ak (below_step bX hb); clear HO_1; clear HO_2; clear HO_9; clear HO_10; clear HO_11; clear HO_12; clear HO522; clear HO525; clear HB; have HO_1 := n0_; have HO_2 := n1_; have HO_9 := n2_; have HO_10 := n3_; have HO_11 := n4_; have HO_12 := n5_; have HO522 := n6_; have HO525 := n7_; have HO528 := n8_; have HB := n9_; clear n0_ n1_ n2_ n3_ n4_ n5_ n6_ n7_ n8_ n9_; (try clear hb); (try clear hb2); (try clear hk); (try clear hi); (try clear ho0); obtain ⟨Ao24, co24, eo24⟩ := Kd.V_slice HO_9.out; subst eo24; obtain ⟨Ao25, co25, eo25⟩ := Kd.V_slice HO528.out; subst eo25) | ((with_reducible refine gate_callee (f := 51) rfl ?_); refine goesL_ (some 39) rfl rfl Try.func51 (by kernel_rfl) rfl #[.int .i64 a0, .slice Ao24 x9_1.length co24, .slice Ao25 t526.length co25] rfl mX ?_; (with_reducible refine (galoisref09_Sub.calls k1 a0 _ _ x9_1 _ _ t526 t529 _ ?side1 ?side2 ?side3 ?side4 A15.out).mono ?_); (case side1 => exact cX (Kd.V_reads' HO_9.out).2.2); (case side2 => exact (Kd.V_reads' HO_9.out).2.1); (case side3 => exact cX (Kd.V_reads' HO528.out).2.2); (case side4 => exact (Kd.V_reads' HO528.out).2.1); rintro e w26 ⟨v530, rfl, ho0, hb⟩; refine ⟨_, rfl, ?_⟩; have n0_ := ak (Kd.V_below (vX HO_1.out) hb); have n1_ := ak (Kd.V_below (vX HO_2.out) hb); have n2_ := ak (Kd.V_below (vX HO_9.out) hb); have n3_ := ak (Kd.V_below (vX HO_10.out) hb); have n4_ := ak (Kd.V_below (vX HO_11.out) hb); have n5_ := ak (Kd.V_below (vX HO_12.out) hb); have n6_ := ak (Kd.V_below (vX HO522.out) hb); have n7_ := ak (Kd.V_below (vX HO525.out) hb); have n8_ := ak (Kd.V_below (vX HO528.out) hb); have n9_ := ak (Kd.V_lower (Kd.V_mono (ok' := fun k_ => ((P1_ k_ ∨ P2_ k_) ∨ w.heap.size ≤ k_)) ho0 (fun k_ hk_ => (.inr (Nat.le_trans (below_size bX) hk_)))) (below_size bX)); have n10_ := ak (below_step bX hb); clear HO_1; clear HO_2; clear HO_9; clear HO_10; clear HO_11; clear HO_12; clear HO522; clear HO525; clear HO528; clear HB; have HO_1 := n0_; have HO_2 := n1_; have HO_9 := n2_; have HO_10 := n3_; have HO_11 := n4_; have HO_12 := n5_; have HO522 := n6_; have HO525 := n7_; have HO528 := n8_; have HO531 := n9_; have HB := n10_; clear n0_ n1_ n2_ n3_ n4_ n5_ n6_ n7_ n8_ n9_ n10_; (try clear hb); (try clear hb2); (try clear hk); (try clear hi); (try clear ho0); obtain ⟨Ao27, co27, eo27⟩ := Kd.V_slice HO_12.out; subst eo27) | ((with_reducible refine gate_callee (f := 52) rfl ?_); refine goesL_ (some 46) rfl rfl Try.func52 (by kernel_rfl) rfl #[.int .i64 a0, .slice Ao21 t520.length co21, .slice Ao27 x12_1.length co27] rfl mX ?_; (with_reducible refine (galoisref09_Mul.calls k1 a0 _ _ t520 _ _ x12_1 t532 _ ?side1 ?side2 ?side3 ?side4 A16.out).mono ?_); (case side1 => exact cX (Kd.V_reads' HO522.out).2.2); (case side2 => exact (Kd.V_reads' HO522.out).2.1); (case side3 => exact cX (Kd.V_reads' HO_12.out).2.2); (case side4 => exact (Kd.V_reads' HO_12.out).2.1); rintro e w28 ⟨v533, rfl, ho0, hb⟩; refine ⟨_, rfl, ?_⟩; have n0_ := ak (Kd.V_below (vX HO_1.out) hb); have n1_ := ak (Kd.V_below (vX HO_2.out) hb); have n2_ := ak (Kd.V_below (vX HO_9.out) hb); have n3_ := ak (Kd.V_below (vX HO_10.out) hb); have n4_ := ak (Kd.V_below (vX HO_11.out) hb); have n5_ := ak (Kd.V_below (vX HO_12.out) hb); have n6_ := ak (Kd.V_below (vX HO522.out) hb); have n7_ := ak (Kd.V_below (vX HO525.out) hb); have n8_ := ak (Kd.V_below (vX HO528.out) hb); have n9_ := ak (Kd.V_below (vX HO531.out) hb); have n10_ := ak (Kd.V_lower (Kd.V_mono (ok' := fun k_ => ((P1_ k_ ∨ P2_ k_) ∨ w.heap.size ≤ k_)) ho0 (fun k_ hk_ => (.inr (Nat.le_trans (below_size bX) hk_)))) (below_size bX)); have n11_ := ak (below_step bX hb); clear HO_1; clear HO_2; clear HO_9; clear HO_10; clear HO_11; clear HO_12; clear HO522; clear HO525; clear HO528; clear HO531; clear HB; have HO_1 := n0_; have HO_2 := n1_; have HO_9 := n2_; have HO_10 := n3_; have HO_11 := n4_; have HO_12 := n5_; have HO522 := n6_; have HO525 := n7_; have HO528 := n8_; have HO531 := n9_; have HO534 := n10_; have HB := n11_; clear n0_ n1_ n2_ n3_ n4_ n5_ n6_ n7_ n8_ n9_ n10_ n11_; (try clear hb); (try clear hb2); (try clear hk); (try clear hi); (try clear ho0); obtain ⟨Ao29, co29, eo29⟩ := Kd.V_slice HO_11.out; subst eo29; obtain ⟨Ao30, co30, eo30⟩ := Kd.V_slice HO534.out; subst eo30) | ((with_reducible refine gate_callee (f := 51) rfl ?_); refine goesL_ (some 47) rfl rfl Try.func51 (by kernel_rfl) rfl #[.int .i64 a0, .slice Ao29 x11_1.length co29, .slice Ao30 t532.length co30] rfl mX ?_; (with_reducible refine (galoisref09_Sub.calls k1 a0 _ _ x11_1 _ _ t532 t535 _ ?side1 ?side2 ?side3 ?side4 A17.out).mono ?_); (case side1 => exact cX (Kd.V_reads' HO_11.out).2.2); (case side2 => exact (Kd.V_reads' HO_11.out).2.1); (case side3 => exact cX (Kd.V_reads' HO534.out).2.2); (case side4 => exact (Kd.V_reads' HO534.out).2.1); rintro e w31 ⟨v536, rfl, ho0, hb⟩; refine ⟨_, rfl, ?_⟩; have n0_ := ak (Kd.V_below (vX HO_1.out) hb); have n1_ := ak (Kd.V_below (vX HO_2.out) hb); have n2_ := ak (Kd.V_below (vX HO_9.out) hb); have n3_ := ak (Kd.V_below (vX HO_10.out) hb); have n4_ := ak (Kd.V_below (vX HO_11.out) hb); have n5_ := ak (Kd.V_below (vX HO_12.out) hb); have n6_ := ak (Kd.V_below (vX HO522.out) hb); have n7_ := ak (Kd.V_below (vX HO525.out) hb); have n8_ := ak (Kd.V_below (vX HO528.out) hb); have n9_ := ak (Kd.V_below (vX HO531.out) hb); have n10_ := ak (Kd.V_below (vX HO534.out) hb); have n11_ := ak (Kd.V_lower (Kd.V_mono (ok' := fun k_ => ((P1_ k_ ∨ P2_ k_) ∨ w.heap.size ≤ k_)) ho0 (fun k_ hk_ => (.inr (Nat.le_trans (below_size bX) hk_)))) (below_size bX)); have n12_ := ak (below_step bX hb); clear HO_1; clear HO_2; clear HO_9; clear HO_10; clear HO_11; clear HO_12; clear HO522; clear HO525; clear HO528; clear HO531; clear HO534; clear HB; have HO_1 := n0_; have HO_2 := n1_; have HO_9 := n2_; have HO_10 := n3_; have HO_11 := n4_; have HO_12 := n5_; have HO522 := n6_; have HO525 := n7_; have HO528 := n8_; have HO531 := n9_; have HO534 := n10_; have HO537 := n11_; have HB := n12_; clear n0_ n1_ n2_ n3_ n4_ n5_ n6_ n7_ n8_ n9_ n10_ n11_ n12_; (try clear hb); (try clear hb2); (try clear hk); (try clear hi); (try clear ho0)))
      (first | go_roundg k1 | (refine Handed.intro k1 ?measure ?_; rotate_left; go_step; (repeat rw [add_plain]); (repeat apply Exists.intro); refine ⟨?rel, rfl⟩))
      case measure => have := HK1.out; omega
      case rel => exact ⟨(x2_1), (t523), (x10_1), (t529), (x12_1), (t535), H', ⟨by have := HK1.out; omega⟩, ⟨by (with_reducible repeat (first | apply vA | apply vB | apply vC)); exact HO_2.out⟩, ⟨by (with_reducible repeat (first | apply vA | apply vB | apply vC)); exact HO525.out⟩, ⟨by (with_reducible repeat (first | apply vA | apply vB | apply vC)); exact HO_10.out⟩, ⟨by (with_reducible repeat (first | apply vA | apply vB | apply vC)); exact HO531.out⟩, ⟨by (with_reducible repeat (first | apply vA | apply vB | apply vC)); exact HO_12.out⟩, ⟨by (with_reducible repeat (first | apply vA | apply vB | apply vC)); exact HO537.out⟩, ⟨by repeat (first | (with_reducible first | exact HB.out | apply bA | apply bB | apply bC) | exact HB.out)⟩⟩
    · rw [if_neg c12] at H
      have c12b0 : decide (0 < (x2_1.length : Int)) = false := decide_eq_false c12
      have c12b1 : decide (0 < x2_1.length) = false := decide_eq_false (by omega)
      clear c12
      by_cases c32 : (x1_1.length : Int) = 0
      · rw [if_pos c32] at H
        have c32b0 : ((x1_1.length : Int) == 0) = true := beq_iff_eq.mpr c32
        have c32b1 : ((x1_1.length : Int) != 0) = false := bne_eq_false_iff_eq.mpr c32
        clear c32
        simp only [Option.some.injEq, Prod.mk.injEq] at H
        obtain ⟨rfl, rfl, rfl⟩ := H
        obtain ⟨Ao33, co33, eo33⟩ := Kd.V_slice HO_2.out
        subst eo33
        obtain ⟨Ao34, co34, eo34⟩ := Kd.V_slice HO_1.out
        subst eo34
        go_wp2
        go_ret3
        exact ⟨_, _, _, by first | rfl | (simp [errW_none, errW_some] <;> rfl) | (simp [*, errW_none, errW_some] <;> rfl), (Kd.V_nil _ _ _ _ _), (Kd.V_nil _ _ _ _ _), (Kd.V_nil _ _ _ _ _), by repeat (first | (with_reducible first | exact HB.out | apply bA | apply bB | apply bC) | exact HB.out)⟩
      · rw [if_neg c32] at H
        have c32b0 : ((x1_1.length : Int) == 0) = false := beq_eq_false_iff_ne.mpr c32
        have c32b1 : ((x1_1.length : Int) != 0) = true := bne_iff_ne.mpr c32
        have c32b2 : ¬ (x1_1 = []) := fun h_ => c32 (by rw [h_]; rfl)
        replace H := Option.bind_eq_some_iff.mp H
        obtain ⟨t538, A350, H⟩ := H
        replace H : ((galoisref04_Inverse.f k1 t538 a0).bind fun t539 => ((galoisref09_Scale.f k1 a0 x1_1 t539).bind fun t540 => ((galoisref09_Scale.f k1 a0 x9_1 t539).bind fun t543 => ((galoisref09_Scale.f k1 a0 x11_1 t539).bind fun t546 => (some (t540, t543, t546)))))) = some (r1, r2, r3) := H
        have A35 := ak A350
        clear A350
        replace H := Option.bind_eq_some_iff.mp H
        obtain ⟨t539, A360, H⟩ := H
        replace H : ((galoisref09_Scale.f k1 a0 x1_1 t539).bind fun t540 => ((galoisref09_Scale.f k1 a0 x9_1 t539).bind fun t543 => ((galoisref09_Scale.f k1 a0 x11_1 t539).bind fun t546 => (some (t540, t543, t546))))) = some (r1, r2, r3) := H
        have A36 := ak A360
        clear A360
        replace H := Option.bind_eq_some_iff.mp H
        obtain ⟨t540, A370, H⟩ := H
        replace H : ((galoisref09_Scale.f k1 a0 x9_1 t539).bind fun t543 => ((galoisref09_Scale.f k1 a0 x11_1 t539).bind fun t546 => (some (t540, t543, t546)))) = some (r1, r2, r3) := H
        have A37 := ak A370
        clear A370
        replace H := Option.bind_eq_some_iff.mp H
        obtain ⟨t543, A380, H⟩ := H
        replace H : ((galoisref09_Scale.f k1 a0 x11_1 t539).bind fun t546 => (some (t540, t543, t546))) = some (r1, r2, r3) := H
        have A38 := ak A380
        clear A380
        replace H := Option.bind_eq_some_iff.mp H
        obtain ⟨t546, A390, H⟩ := H
        replace H : (some (t540, t543, t546)) = some (r1, r2, r3) := H
        have A39 := ak A390
        clear A390
        simp only [Option.some.injEq, Prod.mk.injEq] at H
        obtain ⟨rfl, rfl, rfl⟩ := H
        obtain ⟨Ao40, co40, eo40⟩ := Kd.V_slice HO_2.out
        subst eo40
        obtain ⟨Ao41, co41, eo41⟩ := Kd.V_slice HO_1.out
        subst eo41
        go_wp2_with (first | ((with_reducible refine gate_callee (f := 83) rfl ?_); refine goesL_ (some 52) rfl rfl Try.func83 (by kernel_rfl) rfl #[.slice Ao41 x1_1.length co41] rfl mX ?_; (with_reducible refine (galoisref09_Lead.calls _ _ x1_1 t538 _ ?side1 ?side2 A35.out).mono ?_); (case side1 => exact cX (Kd.V_reads' HO_1.out).2.2); (case side2 => exact (Kd.V_reads' HO_1.out).2.1); rintro e w' ⟨rfl, ⟨nd, rfl⟩⟩; refine ⟨_, rfl, ?_⟩) | ((with_reducible refine gate_callee (f := 82) rfl ?_); refine goesL_ (some 54) rfl rfl Try.func82 (by kernel_rfl) rfl #[.int .i64 t538, .int .i64 a0] rfl mX ?_; (with_reducible refine (galoisref04_Inverse.calls k1 t538 a0 t539 _ A36.out).mono ?_); rintro e w' ⟨rfl, ⟨nd, rfl⟩⟩; refine ⟨_, rfl, ?_⟩) | ((with_reducible refine gate_callee (f := 45) rfl ?_); refine goesL_ (some 58) rfl rfl Try.func45 (by kernel_rfl) rfl #[.int .i64 a0, .slice Ao41 x1_1.length co41, .int .i64 t539] rfl mX ?_; (with_reducible refine (galoisref09_Scale.calls k1 a0 _ _ x1_1 t539 t540 _ ?side1 ?side2 A37.out).mono ?_); (case side1 => exact cX (Kd.V_reads' HO_1.out).2.2); (case side2 => exact (Kd.V_reads' HO_1.out).2.1); rintro e w42 ⟨v541, rfl, ho0, hb⟩; refine ⟨_, rfl, ?_⟩; have n0_ := ak (Kd.V_below (vX HO_1.out) hb); have n1_ := ak (Kd.V_below (vX HO_2.out) hb); have n2_ := ak (Kd.V_below (vX HO_9.out) hb); have n3_ := ak (Kd.V_below (vX HO_10.out) hb); have n4_ := ak (Kd.V_below (vX HO_11.out) hb); have n5_ := ak (Kd.V_below (vX HO_12.out) hb); have n6_ := ak (Kd.V_lower (Kd.V_mono (ok' := fun k_ => ((P1_ k_ ∨ P2_ k_) ∨ w.heap.size ≤ k_)) ho0 (fun k_ hk_ => (.inr (Nat.le_trans (below_size bX) hk_)))) (below_size bX)); have n7_ := ak (below_step bX hb); clear HO_1; clear HO_2; clear HO_9; clear HO_10; clear HO_11; clear HO_12; clear HB; have HO_1 := n0_; have HO_2 := n1_; have HO_9 := n2_; have HO_10 := n3_; have HO_11 := n4_; have HO_12 := n5_; have HO542 := n6_; have HB := n7_; clear n0_ n1_ n2_ n3_ n4_ n5_ n6_ n7_; (try clear hb); (try clear hb2); (try clear hk); (try clear hi); (try clear ho0); obtain ⟨Ao43, co43, eo43⟩ := Kd.V_slice HO_9.out; subst eo43) | ((with_reducible refine gate_callee (f := 45) rfl ?_); refine goesL_ (some 62) rfl rfl Try.func45 (by kernel_rfl) rfl #[.int .i64 a0, .slice Ao43 x9_1.length co43, .int .i64 t539] rfl mX ?_; (with_reducible refine (galoisref09_Scale.calls k1 a0 _ _ x9_1 t539 t543 _ ?side1 ?side2 A38.out).mono ?_); (case side1 => exact cX (Kd.V_reads' HO_9.out).2.2); (case side2 => exact (Kd.V_reads' HO_9.out).2.1); rintro e w44 ⟨v544, rfl, ho0, hb⟩; refine ⟨_, rfl, ?_⟩; have n0_ := ak (Kd.V_below (vX HO_1.out) hb); have n1_ := ak (Kd.V_below (vX HO_2.out) hb); have n2_ := ak (Kd.V_below (vX HO_9.out) hb); have n3_ := ak (Kd.V_below (vX HO_10.out) hb); have n4_ := ak (Kd.V_below (vX HO_11.out) hb); have n5_ := ak (Kd.V_below (vX HO_12.out) hb); have n6_ := ak (Kd.V_below (vX HO542.out) hb); have n7_ := ak (Kd.V_lower (Kd.V_mono (ok' := fun k_ => ((P1_ k_ ∨ P2_ k_) ∨ w.heap.size ≤ k_)) ho0 (fun k_ hk_ => (.inr (Nat.le_trans (below_size bX) hk_)))) (below_size bX)); have n8_ := ak (below_step bX hb); clear HO_1; clear HO_2; clear HO_9; clear HO_10; clear HO_11; clear HO_12; clear HO542; clear HB; have HO_1 := n0_; have HO_2 := n1_; have HO_9 := n2_; have HO_10 := n3_; have HO_11 := n4_; have HO_12 := n5_; have HO542 := n6_; have HO545 := n7_; have HB := n8_; clear n0_ n1_ n2_ n3_ n4_ n5_ n6_ n7_ n8_; (try clear hb); (try clear hb2); (try clear hk); (try clear hi); (try clear ho0); obtain ⟨Ao45, co45, eo45⟩ := Kd.V_slice HO_11.out; subst eo45) | ((with_reducible refine gate_callee (f := 45) rfl ?_); refine goesL_ (some 66) rfl rfl Try.func45 (by kernel_rfl) rfl #[.int .i64 a0, .slice Ao45 x11_1.length co45, .int .i64 t539] rfl mX ?_; (with_reducible refine (galoisref09_Scale.calls k1 a0 _ _ x11_1 t539 t546 _ ?side1 ?side2 A39.out).mono ?_); (case side1 => exact cX (Kd.V_reads' HO_11.out).2.2); (case side2 => exact (Kd.V_reads' HO_11.out).2.1); rintro e w46 ⟨v547, rfl, ho0, hb⟩; refine ⟨_, rfl, ?_⟩; have n0_ := ak (Kd.V_below (vX HO_1.out) hb); have n1_ := ak (Kd.V_below (vX HO_2.out) hb); have n2_ := ak (Kd.V_below (vX HO_9.out) hb); have n3_ := ak (Kd.V_below (vX HO_10.out) hb); have n4_ := ak (Kd.V_below (vX HO_11.out) hb); have n5_ := ak (Kd.V_below (vX HO_12.out) hb); have n6_ := ak (Kd.V_below (vX HO542.out) hb); have n7_ := ak (Kd.V_below (vX HO545.out) hb); have n8_ := ak (Kd.V_lower (Kd.V_mono (ok' := fun k_ => ((P1_ k_ ∨ P2_ k_) ∨ w.heap.size ≤ k_)) ho0 (fun k_ hk_ => (.inr (Nat.le_trans (below_size bX) hk_)))) (below_size bX)); have n9_ := ak (below_step bX hb); clear HO_1; clear HO_2; clear HO_9; clear HO_10; clear HO_11; clear HO_12; clear HO542; clear HO545; clear HB; have HO_1 := n0_; have HO_2 := n1_; have HO_9 := n2_; have HO_10 := n3_; have HO_11 := n4_; have HO_12 := n5_; have HO542 := n6_; have HO545 := n7_; have HO548 := n8_; have HB := n9_; clear n0_ n1_ n2_ n3_ n4_ n5_ n6_ n7_ n8_ n9_; (try clear hb); (try clear hb2); (try clear hk); (try clear hi); (try clear ho0)))
        go_ret3
        exact ⟨_, _, _, by first | rfl | (simp [errW_none, errW_some] <;> rfl) | (simp [*, errW_none, errW_some] <;> rfl), by (with_reducible repeat (first | apply vA | apply vB | apply vC)); exact HO542.out, by (with_reducible repeat (first | apply vA | apply vB | apply vC)); exact HO545.out, by (with_reducible repeat (first | apply vA | apply vB | apply vC)); exact HO548.out, by repeat (first | (with_reducible first | exact HB.out | apply bA | apply bB | apply bC) | exact HB.out)⟩

end Go.Proofs.Ytmknclgamadphaa.PPolymodDivisions
