-- WRITTEN BY sprint.py (a program of this repo, over the kit's print.py): nothing here is trusted, Lean checks it.
import Derived.Test.YtmknclgamadphaaPPolymodFrobeniusx0
import Derived.Test.YtmknclgamadphaaPPolymodFrobeniusx1
import Derived.Test.YtmknclgamadphaaPPolymodFrobeniusx2
import Derived.Test.YtmknclgamadphaaPPolymodFrobeniusx4
import Derived.Test.YtmknclgamadphaaPPolymodFrobeniusx8
namespace Go.Proofs.Ytmknclgamadphaa.PPolymodFrobenius
open Go.RowKit Go.Proofs.YtmknclgamadphaaW.PrintWords Go.Proofs.YtmknclgamadphaaW.PrintLast Go.Proofs.YtmknclgamadphaaW.PrintMore
attribute [local go_sem] max2_int min2_int max_two min_two max_three min_three max_four min_four   -- for this text's walks alone
set_option linter.unusedVariables false
set_option linter.unusedSimpArgs false

/-! ### polymod_Compose: function 39 -/
mutual
def polymod_Compose.j0 : Nat → Int → List Int → List Int → Bool → Option (List Int × Int)
 | 0, _, _, _, _ => none
 | k + 1, x0, x1, x2, x36 => if x36 = true then (some (([] : List Int), 4)) else (polymod_Compose.l0 k x0 x1 x2 ([] : List Int) (x1.length : Int) 0)
def polymod_Compose.l0 : Nat → Int → List Int → List Int → List Int → Int → Int → Option (List Int × Int)
 | 0, _, _, _, _, _, _ => none
 | k + 1, x0, x1, x2, x9, x38, x39 => if x39 < x38 then ((fp_Mul.f k x0 x9 x2).bind fun t402 => (if 0 ≤ (wrap64 ((wrap64 ((x1.length : Int) - 1)) - x39)) then (if (wrap64 ((wrap64 ((x1.length : Int) - 1)) - x39)) < (x1.length : Int) then ((fp_Trim.f k (([rd x1 (wrap64 ((wrap64 ((x1.length : Int) - 1)) - x39))] : List Int))).bind fun t409 => ((fp_Add.f k x0 t402 t409).bind fun t412 => (polymod_Compose.l0 k x0 x1 x2 t412 x38 (wrap64 (x39 + 1))))) else (none)) else (none))) else (some (x9, 0))
end
def polymod_Compose.f (k : Nat) (a0 : Int) (l1 : List Int) (l2 : List Int) : Option (List Int × Int) := (polymod_first.f k a0 (([l1, l2] : List (List Int)))).bind fun t401 => (if t401 = 0 then (if (l1.length : Int) > 1 then (if (l2.length : Int) > 1 then (polymod_Compose.j0 k a0 l1 l2 (decide ((wrap64 ((wrap64 ((l1.length : Int) - 1)) * (wrap64 ((l2.length : Int) - 1)))) > 64))) else (polymod_Compose.j0 k a0 l1 l2 false)) else (polymod_Compose.j0 k a0 l1 l2 false)) else (some (([] : List Int), t401)))
theorem polymod_Compose.mono_l : ∀ k, (∀ y0 y1 y2 y3, LeO (polymod_Compose.j0 k y0 y1 y2 y3) (polymod_Compose.j0 (k + 1) y0 y1 y2 y3)) ∧ (∀ y0 y1 y2 y3 y4 y5, LeO (polymod_Compose.l0 k y0 y1 y2 y3 y4 y5) (polymod_Compose.l0 (k + 1) y0 y1 y2 y3 y4 y5))
 | 0 => ⟨fun _ _ _ _ r h => by simp [polymod_Compose.j0] at h, fun _ _ _ _ _ _ r h => by simp [polymod_Compose.l0] at h⟩
 | k + 1 => by
   obtain ⟨ih0, ih1⟩ := polymod_Compose.mono_l k
   refine ⟨?_, ?_⟩
   · intro y0 y1 y2 y3
     unfold polymod_Compose.j0
     repeat' first
     | (with_reducible apply ih0)
     | (with_reducible apply ih1)
     | (with_reducible apply fp_Add.mono)
     | (with_reducible apply fp_Mul.mono)
     | (with_reducible apply fp_Trim.mono)
     | (with_reducible apply polymod_first.mono)
     | (with_reducible apply LeO.refl)
     | (with_reducible apply LeO.none)
     | (with_reducible refine LeO.ite ?_ ?_)
     | (with_reducible refine LeO.bind ?_ (fun _ => ?_))
   · intro y0 y1 y2 y3 y4 y5
     unfold polymod_Compose.l0
     repeat' first
     | (with_reducible apply ih0)
     | (with_reducible apply ih1)
     | (with_reducible apply fp_Add.mono)
     | (with_reducible apply fp_Mul.mono)
     | (with_reducible apply fp_Trim.mono)
     | (with_reducible apply polymod_first.mono)
     | (with_reducible apply LeO.refl)
     | (with_reducible apply LeO.none)
     | (with_reducible refine LeO.ite ?_ ?_)
     | (with_reducible refine LeO.bind ?_ (fun _ => ?_))
theorem polymod_Compose.mono : ∀ a0 a1 a2 k, LeO (polymod_Compose.f k a0 a1 a2) (polymod_Compose.f (k + 1) a0 a1 a2) := by
 intro a0 a1 a2 k
 obtain ⟨ih0, ih1⟩ := polymod_Compose.mono_l k
 unfold polymod_Compose.f
 repeat' first
  | (with_reducible apply ih0)
  | (with_reducible apply ih1)
  | (with_reducible apply fp_Add.mono)
  | (with_reducible apply fp_Mul.mono)
  | (with_reducible apply fp_Trim.mono)
  | (with_reducible apply polymod_first.mono)
  | (with_reducible apply LeO.refl)
  | (with_reducible apply LeO.none)
  | (with_reducible refine LeO.ite ?_ ?_)
  | (with_reducible refine LeO.bind ?_ (fun _ => ?_))
def polymod_Compose.T10 : Bool × List (List Nat × List Nat) := (true, [([], []), ([], []), ([], []), ([], []), ([1, 2, 3], [1, 2, 3]), ([], []), ([], []), ([6], [6]), ([7], [7]), ([], []), ([8, 9], [8, 9]), ([5, 10], [5, 10]), ([11], [11]), ([12], [12]), ([13, 4], [13]), ([0, 4, 14, 14], [0, 4, 14]), ([15, 15, 0, 1, 2, 3, 4, 5, 6, 7, 8, 9, 10, 11, 12, 13, 14, 15], [2, 15])])
def polymod_Compose.B10 : List Nat := [0, 0, 0, 0, 14, 0, 0, 64, 192, 0, 960, 2016, 4064, 8160, 16382, 32767, 65535]
theorem polymod_Compose.tab10 : rtab .any (opsOf Try.f39 10) = polymod_Compose.T10 := by kernel_rfl
theorem polymod_Compose.bits10 : waitsOk polymod_Compose.T10.2 polymod_Compose.B10 = true := by kernel_rfl
set_option maxHeartbeats 8000000 in
set_option maxRecDepth 100000 in
theorem polymod_Compose.calls (k : Nat) (a0 : Int) (P1_ : Nat → Prop) (A1 : Option Addr) (c1 : Nat) (l1 : List Int) (P2_ : Nat → Prop) (A2 : Option Addr) (c2 : Nat) (l2 : List Int) (r1 : List Int) (r2 : Int) (w : World) (hs1 : Kd.V (Kd.int .i64) 3 w w.heap.size (fun k_ => P1_ k_) (.slice A1 l1.length c1) l1) (hs2 : Kd.V (Kd.int .i64) 3 w w.heap.size (fun k_ => P2_ k_) (.slice A2 l2.length c2) l2) (h : polymod_Compose.f k a0 l1 l2 = some (r1, r2)) :
 Calls Try.prog 39 #[.int .i64 a0, .slice A1 l1.length c1, .slice A2 l2.length c2] w fun e w' => ∃ v0_ : Value, e = .returned (.tuple #[v0_, .int .i64 r2]) ∧ Kd.V (Kd.int .i64) 3 w' w.heap.size (fun k_ => ((P1_ k_ ∨ P2_ k_) ∨ w.heap.size ≤ k_)) v0_ r1 ∧ Below w.heap.size w w' := by
 have HO1 := ak (show Kd.V (Kd.int .i64) 3 w w.heap.size (fun k_ => ((P1_ k_ ∨ P2_ k_) ∨ w.heap.size ≤ k_)) (.slice A1 l1.length c1) l1 from Kd.V_mono hs1 (fun k_ hk => .inl (.inl hk)))
 have HO2 := ak (show Kd.V (Kd.int .i64) 3 w w.heap.size (fun k_ => ((P1_ k_ ∨ P2_ k_) ∨ w.heap.size ≤ k_)) (.slice A2 l2.length c2) l2 from Kd.V_mono hs2 (fun k_ hk => .inl (.inr hk)))
 have HB := ak (Below.refl w.heap.size w)
 have H : ((polymod_first.f k a0 (([l1, l2] : List (List Int)))).bind fun t401 => (if t401 = 0 then (if (l1.length : Int) > 1 then (if (l2.length : Int) > 1 then (polymod_Compose.j0 k a0 l1 l2 (decide ((wrap64 ((wrap64 ((l1.length : Int) - 1)) * (wrap64 ((l2.length : Int) - 1)))) > 64))) else (polymod_Compose.j0 k a0 l1 l2 false)) else (polymod_Compose.j0 k a0 l1 l2 false)) else (some (([] : List Int), t401)))) = some (r1, r2) := h
 clear h
 obtain ⟨y398, hy398⟩ : ∃ y_ : List (List Int), y_ = (([l1, l2] : List (List Int))) := ⟨_, rfl⟩
 replace H : ((polymod_first.f k a0 y398).bind fun t401 => (if t401 = 0 then (if (l1.length : Int) > 1 then (if (l2.length : Int) > 1 then (polymod_Compose.j0 k a0 l1 l2 (decide ((wrap64 ((wrap64 ((l1.length : Int) - 1)) * (wrap64 ((l2.length : Int) - 1)))) > 64))) else (polymod_Compose.j0 k a0 l1 l2 false)) else (polymod_Compose.j0 k a0 l1 l2 false)) else (some (([] : List Int), t401)))) = some (r1, r2) := by first | (rw [hy398]; with_reducible exact H) | (have H2_ := (Option.bind_some _ _).symm.trans H; rw [hy398]; with_reducible exact H2_) | (have H2_ := (Option.bind_some _ _).symm.trans H; with_reducible exact H2_) | with_reducible exact H | (rw [hy398]; exact H) | exact H
 have Ny398 := ak hy398
 clear hy398
 replace H := Option.bind_eq_some_iff.mp H
 obtain ⟨t401, A40, H⟩ := H
 replace H : (if t401 = 0 then (if (l1.length : Int) > 1 then (if (l2.length : Int) > 1 then (polymod_Compose.j0 k a0 l1 l2 (decide ((wrap64 ((wrap64 ((l1.length : Int) - 1)) * (wrap64 ((l2.length : Int) - 1)))) > 64))) else (polymod_Compose.j0 k a0 l1 l2 false)) else (polymod_Compose.j0 k a0 l1 l2 false)) else (some (([] : List Int), t401))) = some (r1, r2) := H
 have A4 := ak A40
 clear A40
 by_cases c5 : t401 = 0
 · rw [if_pos c5] at H
   have c5b0 : (t401 == 0) = true := beq_iff_eq.mpr c5
   have c5b1 : (t401 != 0) = false := bne_eq_false_iff_eq.mpr c5
   clear c5
   have HC6 := ak H
   clear H
   go_enter Try.func39, Try.ntmps39
   go_upto_region 4 with (first | ((with_reducible refine gate_dst (N := 14) rfl ?_); (try (refine gate_guard (by rfl) ?_; dsimp only)); refine Kd.N_lit (Kd.slice 3 (Kd.int .i64)) _ 23 ?hg (N' := 14) ?hd (xs := ([l1, l2] : List (List Int))) (inner := [.slice A1 l1.length c1, .slice A2 l2.length c2]) (ok := (fun k_ => ((P1_ k_ ∨ P2_ k_) ∨ w.heap.size ≤ k_))) (okp := (fun k_ => ((P1_ k_ ∨ P2_ k_) ∨ w.heap.size ≤ k_))) ?hr ?hp (fun _ hk => hk) ((show ∀ k_, w.heap.size ≤ k_ → (fun k_ => ((P1_ k_ ∨ P2_ k_) ∨ w.heap.size ≤ k_)) k_ from fun k_ hk => (.inr (Nat.le_trans (below_size bX) hk))) _ (Nat.le_refl _)) (Below.refl _ _) (Nat.le_refl _) (by simp) ?_; (case hd => rfl); (case hg => rfl); (case hr => first | (go_simp; done) | (go_simp; rfl)); (case hp => exact (Reps.one (show Kd.FK (Kd.slice 3 (Kd.int .i64)) _ _ l1 [.slice A1 l1.length c1] from (Kd.FK_slice_mk (Kd.V_reads' (Kd.V_mono (ok' := (fun k_ => ((P1_ k_ ∨ P2_ k_) ∨ w.heap.size ≤ k_))) (HO1.out) (fun k_ hk => hk))).2.1 (Kd.V_F (Kd.V_mono (ok' := (fun k_ => ((P1_ k_ ∨ P2_ k_) ∨ w.heap.size ≤ k_))) (HO1.out) (fun k_ hk => hk))))) (Reps.one (show Kd.FK (Kd.slice 3 (Kd.int .i64)) _ _ l2 [.slice A2 l2.length c2] from (Kd.FK_slice_mk (Kd.V_reads' (Kd.V_mono (ok' := (fun k_ => ((P1_ k_ ∨ P2_ k_) ∨ w.heap.size ≤ k_))) (HO2.out) (fun k_ hk => hk))).2.1 (Kd.V_F (Kd.V_mono (ok' := (fun k_ => ((P1_ k_ ∨ P2_ k_) ∨ w.heap.size ≤ k_))) (HO2.out) (fun k_ hk => hk))))) (Reps.none _ _)))); intro v399 w7 ho8 hb hg_ hnew_; clear hg_ hnew_; (first | rw [← Ny398.out] at ho8 | (simp only [Int.reduceToNat] at ho8; rw [← Ny398.out] at ho8)); have n0_ := ak (Kd.V_elder' (vX HO1.out) (Kd.N_base ho8) hb); have n1_ := ak (Kd.V_elder' (vX HO2.out) (Kd.N_base ho8) hb); have n2_ := ak (Kd.N_lower ho8 (below_size bX)); have n3_ := ak (below_step bX hb); clear HO1; clear HO2; clear HB; have HO1 := n0_; have HO2 := n1_; have HO400 := n2_; have HB := n3_; clear n0_ n1_ n2_ n3_; clear hb ho8; obtain ⟨Ao9, co9, eo9⟩ := Kd.N_slice HO400.out; subst eo9) | ((with_reducible refine gate_callee (f := 60) rfl ?_); refine goesL_ (some 15) rfl rfl Try.func60 (by kernel_rfl) rfl #[.int .i64 a0, .slice Ao9 y398.length co9] rfl mX ?_; (with_reducible refine (polymod_first.calls k a0 _ _ y398 t401 _ ?side1 ?side2 A4.out).mono ?_); (case side1 => exact cX (Kd.N_reads' HO400.out).2.2); (case side2 => exact (Kd.N_reads' HO400.out).2.1); rintro e w10 ⟨rfl, hb⟩; refine ⟨_, rfl, ?_⟩; have n0_ := ak (Kd.V_below (vX HO1.out) hb); have n1_ := ak (Kd.V_below (vX HO2.out) hb); have n2_ := ak (Kd.N_below (by (with_reducible repeat (first | apply Kd.N_alloc | apply Kd.N_drewN | apply Kd.N_drew)); exact HO400.out) hb); have n3_ := ak (below_step bX hb); clear HO1; clear HO2; clear HO400; clear HB; have HO1 := n0_; have HO2 := n1_; have HO400 := n2_; have HB := n3_; clear n0_ n1_ n2_ n3_; (try clear hb); (try clear hb2); (try clear hk); (try clear hi)))
   (try simp only [Act.put, sS, s0, s1])
   go_cut [36] (fun v36 wc => ∃ (kq : Nat) (x36_5 : Bool), v36 = .bool x36_5 ∧ Aside0 (polymod_Compose.j0 kq a0 l1 l2 x36_5 = some (r1, r2)) ∧ Aside0 (kq ≤ k) ∧ Aside0 (Kd.V (Kd.int .i64) 3 wc w.heap.size (fun k_ => ((P1_ k_ ∨ P2_ k_) ∨ w.heap.size ≤ k_)) (.slice A1 l1.length c1) l1) ∧ Aside0 (Kd.V (Kd.int .i64) 3 wc w.heap.size (fun k_ => ((P1_ k_ ∨ P2_ k_) ∨ w.heap.size ≤ k_)) (.slice A2 l2.length c2) l2) ∧ Aside0 (Below w.heap.size w wc))
   case first =>
    have H := HC6.out
    clear HC6
    by_cases c11 : (l1.length : Int) > 1
    · rw [if_pos c11] at H
      have c11b0 : decide (1 < (l1.length : Int)) = true := decide_eq_true c11
      have c11b1 : decide (1 < l1.length) = true := decide_eq_true (by omega)
      clear c11
      (first | rw [c11b0] | (simp only [i64_w, i32_w]; rw [c11b0]) | skip)
      by_cases c12 : (l2.length : Int) > 1
      · rw [if_pos c12] at H
        have c12b0 : decide (1 < (l2.length : Int)) = true := decide_eq_true c12
        have c12b1 : decide (1 < l2.length) = true := decide_eq_true (by omega)
        clear c12
        as_aux_lemma =>
         have H' := ak H
         clear H
         go_wp2
         go_meet
         case rel => exact ⟨_, (decide ((wrap64 ((wrap64 ((l1.length : Int) - 1)) * (wrap64 ((l2.length : Int) - 1)))) > 64)), (by first | rfl | (simp; done) | (simp [*]; done)), H', ⟨by first | omega | exact Nat.le_refl _⟩, ⟨by (with_reducible repeat (first | apply vA | apply vB | apply vC)); exact Kd.V_mono HO1.out (fun _ hk => hk.1)⟩, ⟨by (with_reducible repeat (first | apply vA | apply vB | apply vC)); exact Kd.V_mono HO2.out (fun _ hk => hk.1)⟩, ⟨by repeat (first | (with_reducible first | exact HB.out | apply bA | apply bB | apply bC) | exact HB.out)⟩⟩
      · rw [if_neg c12] at H
        have c12b0 : decide (1 < (l2.length : Int)) = false := decide_eq_false c12
        have c12b1 : decide (1 < l2.length) = false := decide_eq_false (by omega)
        clear c12
        as_aux_lemma =>
         have H' := ak H
         clear H
         go_wp2
         go_meet
         case rel => exact ⟨_, (false), (by first | rfl | (simp; done) | (simp [*]; done)), H', ⟨by first | omega | exact Nat.le_refl _⟩, ⟨by (with_reducible repeat (first | apply vA | apply vB | apply vC)); exact Kd.V_mono HO1.out (fun _ hk => hk.1)⟩, ⟨by (with_reducible repeat (first | apply vA | apply vB | apply vC)); exact Kd.V_mono HO2.out (fun _ hk => hk.1)⟩, ⟨by repeat (first | (with_reducible first | exact HB.out | apply bA | apply bB | apply bC) | exact HB.out)⟩⟩
    · rw [if_neg c11] at H
      have c11b0 : decide (1 < (l1.length : Int)) = false := decide_eq_false c11
      have c11b1 : decide (1 < l1.length) = false := decide_eq_false (by omega)
      clear c11
      (first | rw [c11b0] | (simp only [i64_w, i32_w]; rw [c11b0]) | skip)
      as_aux_lemma =>
       have H' := ak H
       clear H
       go_wp2
       go_meet
       case rel => exact ⟨_, (false), (by first | rfl | (simp; done) | (simp [*]; done)), H', ⟨by first | omega | exact Nat.le_refl _⟩, ⟨by (with_reducible repeat (first | apply vA | apply vB | apply vC)); exact Kd.V_mono HO1.out (fun _ hk => hk.1)⟩, ⟨by (with_reducible repeat (first | apply vA | apply vB | apply vC)); exact Kd.V_mono HO2.out (fun _ hk => hk.1)⟩, ⟨by repeat (first | (with_reducible first | exact HB.out | apply bA | apply bB | apply bC) | exact HB.out)⟩⟩
   case rest =>
    clear HC6
    try clear c1
    try clear c2
    try clear p2
    try clear c3
    try clear c5
    try clear c5b0
    try clear c5b1
    try clear c6
    try clear p6
    try clear c11
    try clear c11b0
    try clear c11b1
    try clear c12
    try clear c12b0
    try clear c12b1
    obtain ⟨kq, x36_5, rfl, HA, HJ5, HO_1, HO_2, HB⟩ := hcut
    cases kq with
    | zero => exact absurd HA.out (by simp [polymod_Compose.j0])
    | succ kj5 =>
      have H := HA.out
      clear HA
      simp only [polymod_Compose.j0] at H
      by_cases c13 : x36_5 = true
      · subst c13
        have H1 : (some (([] : List Int), 4)) = some (r1, r2) := by rw [if_pos rfl] at H; exact H
        clear H
        have H := H1
        clear H1
        as_aux_lemma =>
         simp only [Option.some.injEq, Prod.mk.injEq] at H
         obtain ⟨rfl, rfl⟩ := H
         go_wp2
         go_ret2
         exact ⟨_, by first | rfl | (simp [errW_none, errW_some] <;> rfl) | (simp [*, errW_none, errW_some] <;> rfl), (Kd.V_nil _ _ _ _ _), by repeat (first | (with_reducible first | exact HB.out | apply bA | apply bB | apply bC) | exact HB.out)⟩
      · replace c13 := Bool.eq_false_iff.mpr c13
        subst c13
        have H1 : (polymod_Compose.l0 kj5 a0 l1 l2 ([] : List Int) (l1.length : Int) 0) = some (r1, r2) := by rw [if_neg (show ¬ (false = true) by decide)] at H; exact H
        clear H
        have H := H1
        clear H1
        have H' := ak H
        clear H
        go_wp2
        go_loopg [9, 39] kj5 (fun kq v9 v39 w' => ∃ (x9_2 : List Int) (x39_2 : Int), v39 = .int .i64 x39_2 ∧ Aside0 (polymod_Compose.l0 kq a0 l1 l2 x9_2 (l1.length : Int) x39_2 = some (r1, r2)) ∧ Aside0 (kq ≤ kj5) ∧ Aside0 (Kd.V (Kd.int .i64) 3 w' w.heap.size (fun k_ => ((P1_ k_ ∨ P2_ k_) ∨ w.heap.size ≤ k_)) (.slice A1 l1.length c1) l1) ∧ Aside0 (Kd.V (Kd.int .i64) 3 w' w.heap.size (fun k_ => ((P1_ k_ ∨ P2_ k_) ∨ w.heap.size ≤ k_)) (.slice A2 l2.length c2) l2) ∧ Aside0 (Kd.V (Kd.int .i64) 3 w' w.heap.size (fun k_ => ((P1_ k_ ∨ P2_ k_) ∨ w.heap.size ≤ k_)) v9 x9_2) ∧ Aside0 (Below w.heap.size w w'))
        case atStart => exact ⟨(([] : List Int)), (0), (by first | rfl | (simp; done) | (simp [*]; done)), H', ⟨Nat.le_refl _⟩, ⟨by (with_reducible repeat (first | apply vA | apply vB | apply vC)); exact HO_1.out⟩, ⟨by (with_reducible repeat (first | apply vA | apply vB | apply vC)); exact HO_2.out⟩, ⟨(Kd.V_nil _ _ _ _ _)⟩, ⟨by repeat (first | (with_reducible first | exact HB.out | apply bA | apply bB | apply bC) | exact HB.out)⟩⟩
        case round =>
         clear H'
         try clear c1
         try clear c2
         try clear p2
         try clear c3
         try clear c5
         try clear c5b0
         try clear c5b1
         try clear c6
         try clear p6
         try clear c11
         try clear c11b0
         try clear c11b1
         try clear c12
         try clear c12b0
         try clear c12b1
         try clear c13
         try clear p2
         try clear p6
         obtain ⟨x9_2, x39_2, rfl, HA, HK2, HO_1, HO_2, HO_9, HB⟩ := hrel
         cases gk with
         | zero => exact absurd HA.out (by simp [polymod_Compose.l0])
         | succ k2 =>
           have H := HA.out
           clear HA
           simp only [polymod_Compose.l0] at H
           by_cases c14 : x39_2 < (l1.length : Int)
           · rw [if_pos c14] at H
             have c14b0 : decide (x39_2 < (l1.length : Int)) = true := decide_eq_true c14
             clear c14
             replace H := Option.bind_eq_some_iff.mp H
             obtain ⟨t402, A150, H⟩ := H
             replace H : (if 0 ≤ (wrap64 ((wrap64 ((l1.length : Int) - 1)) - x39_2)) then (if (wrap64 ((wrap64 ((l1.length : Int) - 1)) - x39_2)) < (l1.length : Int) then ((fp_Trim.f k2 (([rd l1 (wrap64 ((wrap64 ((l1.length : Int) - 1)) - x39_2))] : List Int))).bind fun t409 => ((fp_Add.f k2 a0 t402 t409).bind fun t412 => (polymod_Compose.l0 k2 a0 l1 l2 t412 (l1.length : Int) (wrap64 (x39_2 + 1))))) else (none)) else (none)) = some (r1, r2) := H
             have A15 := ak A150
             clear A150
             obtain ⟨ji16, hji16⟩ : ∃ j_ : Int, (wrap64 ((wrap64 ((l1.length : Int) - 1)) - x39_2)) = j_ := ⟨_, rfl⟩
             replace H : (if 0 ≤ (ji16) then (if (ji16) < (l1.length : Int) then ((fp_Trim.f k2 (([rd l1 (ji16)] : List Int))).bind fun t409 => ((fp_Add.f k2 a0 t402 t409).bind fun t412 => (polymod_Compose.l0 k2 a0 l1 l2 t412 (l1.length : Int) (wrap64 (x39_2 + 1))))) else (none)) else (none)) = some (r1, r2) := by first | (rw [hji16] at H; exact H) | (simp only [hji16] at H ⊢; exact H)
             (try rw [hji16] at A15)
             have hji16w : (IntKind.i64.wrap ((wrap64 ((l1.length : Int) - 1)) - x39_2)) = ji16 := (i64_w _).trans hji16
             by_cases c17 : 0 ≤ (ji16)
             · rw [if_pos c17] at H
               have c17b0 : decide (0 ≤ (ji16)) = true := decide_eq_true c17
               clear c17
               by_cases c18 : (ji16) < (l1.length : Int)
               · rw [if_pos c18] at H
                 have c18b0 : decide ((ji16) < (l1.length : Int)) = true := decide_eq_true c18
                 clear c18
                 obtain ⟨y406, hy406⟩ : ∃ y_ : List Int, y_ = (([rd l1 (ji16)] : List Int)) := ⟨_, rfl⟩
                 replace H : ((fp_Trim.f k2 y406).bind fun t409 => ((fp_Add.f k2 a0 t402 t409).bind fun t412 => (polymod_Compose.l0 k2 a0 l1 l2 t412 (l1.length : Int) (wrap64 (x39_2 + 1))))) = some (r1, r2) := by first | (rw [hy406]; with_reducible exact H) | (have H2_ := (Option.bind_some _ _).symm.trans H; rw [hy406]; with_reducible exact H2_) | (have H2_ := (Option.bind_some _ _).symm.trans H; with_reducible exact H2_) | with_reducible exact H | (rw [hy406]; exact H) | exact H
                 have Ny406 := ak hy406
                 clear hy406
                 replace H := Option.bind_eq_some_iff.mp H
                 obtain ⟨t409, A190, H⟩ := H
                 replace H : ((fp_Add.f k2 a0 t402 t409).bind fun t412 => (polymod_Compose.l0 k2 a0 l1 l2 t412 (l1.length : Int) (wrap64 (x39_2 + 1)))) = some (r1, r2) := H
                 have A19 := ak A190
                 clear A190
                 replace H := Option.bind_eq_some_iff.mp H
                 obtain ⟨t412, A200, H⟩ := H
                 replace H : (polymod_Compose.l0 k2 a0 l1 l2 t412 (l1.length : Int) (wrap64 (x39_2 + 1))) = some (r1, r2) := H
                 have A20 := ak A200
                 clear A200
                 as_aux_lemma =>
                  have H' := ak H
                  clear H
                  obtain ⟨Ao21, co21, eo21⟩ := Kd.V_slice HO_9.out
                  subst eo21
                  try go_wp2
                  have n0_ := ak (Kd.V_drew HO_1.out)
                  have n1_ := ak (Kd.V_drew HO_2.out)
                  have n2_ := ak (Kd.V_drew HO_9.out)
                  have n3_ := ak (below_drew1 HB.out)
                  clear HO_1
                  clear HO_2
                  clear HO_9
                  clear HB
                  have HO_1 := n0_
                  have HO_2 := n1_
                  have HO_9 := n2_
                  have HB := n3_
                  clear n0_ n1_ n2_ n3_
                  have p405 : 0 ≤ ((ji16) : Int) := of_decide_eq_true aX
                  have q405 : (ji16) < (l1.length : Int) := of_decide_eq_true aX
                  obtain ⟨ad405, e405, hx405_0⟩ := Kd.at_int (Kd.V_reads' HO_1.out).2.2 (ji16) p405 q405
                  cases e405
                  replace p405 := eq_true p405
                  replace q405 := eq_true q405
                  refine start_ (n := 17) (S := fun w' => w'.cell? (ad405.add ((ji16)).toNat) = some (.int .i64 (rd l1 (ji16)))) (ds := []) #[false, false, false, false, false, false, false, false, false, false, false, false, false, false, false, false, false] (by kernel_rfl) rfl rfl (hx405_0) (fun hHeld => ?_); refine with_tabW polymod_Compose.tab10 polymod_Compose.bits10 (fun HT_ HW_ => ?_)
                  generalize wr.drew = w22 at HO_1 HO_2 HO_9 HB hx405_0 hHeld ⊢
                  refine pure_ (i := 0) (N := some 42) (v := ?_) (a' := ?_) #[true, false, false, false, false, false, false, false, false, false, false, false, false, false, false, false, false] rfl rfl (any_of HT_.out (by kernel_rfl)) (fun _ _ _ h => h) (Or.inl ⟨by rfl, ?_⟩) ?_ ?_
                  rotate_left
                  · intro w'
                    go_simp
                    with_reducible rfl
                  rotate_left
                  · simp only [Act.put, sS, s0, s1, i64_w, i32_w]
                    rfl
                  refine pure_ (i := 1) (N := some 43) (v := ?_) (a' := ?_) #[true, true, false, false, false, false, false, false, false, false, false, false, false, false, false, false, false] rfl rfl (any_of HT_.out (by kernel_rfl)) (fun _ _ _ h => h) (Or.inl ⟨by rfl, ?_⟩) ?_ ?_
                  rotate_left
                  · intro w'
                    go_simp
                    with_reducible rfl
                  rotate_left
                  · simp only [Act.put, sS, s0, s1, i64_w, i32_w]
                    rfl
                  refine pure_ (i := 2) (N := some 44) (v := ?_) (a' := ?_) #[true, true, true, false, false, false, false, false, false, false, false, false, false, false, false, false, false] rfl rfl (any_of HT_.out (by kernel_rfl)) (fun _ _ _ h => h) (Or.inl ⟨by rfl, ?_⟩) ?_ ?_
                  rotate_left
                  · intro w'
                    go_simp
                    with_reducible rfl
                  rotate_left
                  · simp only [Act.put, sS, s0, s1, i64_w, i32_w]
                    rfl
                  refine pure_ (i := 3) (N := some 45) (v := ?_) (a' := ?_) #[true, true, true, true, false, false, false, false, false, false, false, false, false, false, false, false, false] rfl rfl (any_of HT_.out (by kernel_rfl)) (fun _ _ _ h => h) (Or.inl ⟨by rfl, ?_⟩) ?_ ?_
                  rotate_left
                  · intro w'
                    go_simp
                    with_reducible rfl
                  rotate_left
                  · simp only [Act.put, sS, s0, s1, i64_w, i32_w]
                    rfl
                  refine pure_ (i := 5) (N := some 47) (v := ?_) (a' := ?_) #[true, true, true, true, false, true, false, false, false, false, false, false, false, false, false, false, false] rfl rfl (any_of HT_.out (by kernel_rfl)) (fun _ _ _ h => h) (Or.inl ⟨by rfl, ?_⟩) ?_ ?_
                  rotate_left
                  · intro w'
                    go_simp
                    with_reducible rfl
                  rotate_left
                  · simp only [Act.put, sS, s0, s1, i64_w, i32_w]
                    rfl
                  refine pure_ (i := 6) (N := some 48) (v := ?_) (a' := ?_) #[true, true, true, true, false, true, true, false, false, false, false, false, false, false, false, false, false] rfl rfl (any_of HT_.out (by kernel_rfl)) (fun _ _ _ h => h) (Or.inl ⟨by rfl, ?_⟩) ?_ ?_
                  rotate_left
                  · intro w'
                    go_simp
                    with_reducible rfl
                  rotate_left
                  · simp only [Act.put, sS, s0, s1, i64_w, i32_w]
                    rfl
                  refine pure_ (i := 7) (N := some 49) (v := ?_) (a' := ?_) #[true, true, true, true, false, true, true, true, false, false, false, false, false, false, false, false, false] rfl rfl (any_of HT_.out (by kernel_rfl)) (fun _ _ _ h => h) (Or.inl ⟨by rfl, ?_⟩) ?_ ?_
                  rotate_left
                  · intro w'
                    go_simp
                    with_reducible rfl
                  rotate_left
                  · simp only [Act.put, sS, s0, s1, i64_w, i32_w]
                    rfl
                  refine pure_ (i := 8) (N := some 50) (v := ?_) (a' := ?_) #[true, true, true, true, false, true, true, true, true, false, false, false, false, false, false, false, false] rfl rfl (any_of HT_.out (by kernel_rfl)) (fun _ _ _ h => h) (Or.inl ⟨by rfl, ?_⟩) ?_ ?_
                  rotate_left
                  · intro w'
                    go_simp
                    with_reducible rfl
                  rotate_left
                  · simp only [Act.put, sS, s0, s1, i64_w, i32_w]
                    rfl
                  refine pure_ (i := 9) (N := some 51) (v := ?_) (a' := ?_) #[true, true, true, true, false, true, true, true, true, true, false, false, false, false, false, false, false] rfl rfl (any_of HT_.out (by kernel_rfl)) (fun _ _ _ h => h) (Or.inl ⟨by rfl, ?_⟩) ?_ ?_
                  rotate_left
                  · intro w'
                    go_simp
                    with_reducible rfl
                  rotate_left
                  · simp only [Act.put, sS, s0, s1, i64_w, i32_w]
                    rfl
                  refine pure_ (i := 10) (N := some 52) (v := ?_) (a' := ?_) #[true, true, true, true, false, true, true, true, true, true, true, false, false, false, false, false, false] rfl rfl (any_of HT_.out (by kernel_rfl)) (fun _ _ _ h => h) (Or.inl ⟨by rfl, ?_⟩) ?_ ?_
                  rotate_left
                  · intro w'
                    go_simp
                    with_reducible rfl
                  rotate_left
                  · simp only [Act.put, sS, s0, s1, i64_w, i32_w]
                    rfl
                  refine pure_ (i := 11) (N := some 53) (v := ?_) (a' := ?_) #[true, true, true, true, false, true, true, true, true, true, true, true, false, false, false, false, false] rfl rfl (any_of HT_.out (by kernel_rfl)) (fun _ _ _ h => h) (Or.inl ⟨by rfl, ?_⟩) ?_ ?_
                  rotate_left
                  · intro w'
                    go_simp
                    with_reducible rfl
                  rotate_left
                  · simp only [Act.put, sS, s0, s1, i64_w, i32_w]
                    rfl
                  refine take_ (i := 12) (N := some 54) (v := ?_) (a' := ?_) #[true, true, true, true, false, true, true, true, true, true, true, true, true, false, false, false, false] rfl rfl (take_ofW HT_.out HW_.out (by kernel_rfl)) (fun _ _ _ h => h) (Or.inl ⟨by rfl, ?_⟩) hHeld ?_ ?_
                  rotate_left
                  · intro w' s0
                    go_simp
                    with_reducible rfl
                  rotate_left
                  · simp only [Act.put, sS, s0, s1, i64_w, i32_w]
                    rfl
                  refine join_ (σ := Value × Value) 3 #[true, true, true, true, true, true, true, true, true, true, true, true, true, true, false, false, false] (fun s_ => [(46, s_.1), (55, s_.2)]) (fun s_ w' => (w'.cell? (ad405.add ((ji16)).toNat) = some (.int .i64 (rd l1 (ji16)))) ∧ (Kd.V (Kd.int .i64) 3 w' w.heap.size (fun k_ => ((P1_ k_ ∨ P2_ k_) ∨ w.heap.size ≤ k_) ∧ some k_ ≠ (s_.2 : Value).ownBlock) s_.1 t402) ∧ (Kd.R (Kd.int .i64) 3 w' w.heap.size (fun k_ => (w.heap.size ≤ k_)) s_.2 y406) ∧ (Kd.V (Kd.int .i64) 3 w' w.heap.size (fun k_ => ((P1_ k_ ∨ P2_ k_) ∨ w.heap.size ≤ k_) ∧ some k_ ≠ (s_.2 : Value).ownBlock) (.slice (some ad405) l1.length c1) l1) ∧ (Kd.V (Kd.int .i64) 3 w' w.heap.size (fun k_ => ((P1_ k_ ∨ P2_ k_) ∨ w.heap.size ≤ k_) ∧ some k_ ≠ (s_.2 : Value).ownBlock) (.slice A2 l2.length c2) l2) ∧ (Kd.V (Kd.int .i64) 3 w' w.heap.size (fun k_ => ((P1_ k_ ∨ P2_ k_) ∨ w.heap.size ≤ k_) ∧ some k_ ≠ (s_.2 : Value).ownBlock) (.slice Ao21 x9_2.length co21) x9_2) ∧ (Below w.heap.size w w')) ?_ ?_
                  rotate_left
                  · intro hCont
                    refine two_ (i := 4) (j := 13) (Ni := some 46) (Nj := some 55) #[true, true, true, true, true, true, true, true, true, true, true, true, true, false, false, false, false] #[true, true, true, true, false, true, true, true, true, true, true, true, true, true, false, false, false] rfl rfl rfl rfl (two_of HT_.out (by kernel_rfl)) (by decide) (by decide) (fun K hK => ?_) (fun K hK => ?_)
                    · skip
                      refine goes_ Try.func67 (by kernel_rfl) rfl #[.int .i64 a0, .slice Ao21 x9_2.length co21, .slice A2 l2.length c2] (by rfl) rfl rfl mX ?_
                      with_reducible refine (fp_Mul.calls k2 a0 _ _ x9_2 _ _ l2 t402 _ ?side1 ?side2 ?side3 ?side4 A15.out).mono ?_
                      (case side1 => exact cX (Kd.V_reads' HO_9.out).2.2)
                      (case side2 => exact (Kd.V_reads' HO_9.out).2.1)
                      (case side3 => exact cX (Kd.V_reads' HO_2.out).2.2)
                      (case side4 => exact (Kd.V_reads' HO_2.out).2.1)
                      rintro e w23 ⟨v403, rfl, ho0, hb⟩
                      have HS0_ := (hb.cell (World.block_lt_of_cell? _ _ (hHeld))).trans (hHeld)
                      refine ⟨_, rfl, ?_⟩
                      have n0_ := ak (Kd.V_below (vX HO_1.out) hb)
                      have n1_ := ak (Kd.V_below (vX HO_2.out) hb)
                      have n2_ := ak (Kd.V_below (vX HO_9.out) hb)
                      have n3_ := ak (Kd.V_lower (Kd.V_mono (ok' := fun k_ => ((P1_ k_ ∨ P2_ k_) ∨ w.heap.size ≤ k_)) ho0 (fun k_ hk_ => (.inr (Nat.le_trans (below_size bX) hk_)))) (below_size bX))
                      have n4_ := ak (below_step bX hb)
                      clear HO_1
                      clear HO_2
                      clear HO_9
                      clear HB
                      have HO_1 := n0_
                      have HO_2 := n1_
                      have HO_9 := n2_
                      have HO404 := n3_
                      have HB := n4_
                      clear n0_ n1_ n2_ n3_ n4_
                      (try clear hb)
                      (try clear hb2)
                      (try clear hk)
                      (try clear hi)
                      (try clear ho0)
                      refine hK.out _ _ (HS0_) (fun hHeld => ?_)
                      clear hK K
                      refine norm_ (a' := ?_) ?_ ?_
                      rotate_left
                      · show Act.put _ (some 46) _ = _
                        simp only [Act.put, sS, s0, s1, i64_w, i32_w]
                        rfl
                      refine one_ (i := 13) (N := some 55) #[true, true, true, true, true, true, true, true, true, true, true, true, true, true, false, false, false] rfl rfl (one_of HT_.out (by kernel_rfl)) (by decide) (fun K hK => ?_)
                      refine Kd.R_lit_step (Kd.int .i64) _ 3 ?hg (N := 55) ?hd (xs := ([rd l1 (ji16)] : List Int)) (inner := [.int .i64 (rd l1 (ji16))]) (ok := fun _ => True) (okp := fun _ => True) ?hr ?hp (fun _ hk => hk) trivial (Below.refl _ _) (Nat.le_refl _) (by simp) ?_; (case hd => rfl); (case hg => rfl); (case hr => first | (go_simp; done) | (go_simp; rfl)); (case hp => exact (Reps.one (show Kd.M (Kd.int .i64) _ _ _ (rd l1 (ji16)) [.int .i64 (rd l1 (ji16))] from rfl) (Reps.none _ _)))
                      intro v407 w24 ho25 hb hg_ hnew_
                      have HS0_ := (hb.cell (World.block_lt_of_cell? _ _ (hHeld))).trans (hHeld)
                      clear hg_ hnew_
                      (first | rw [← Ny406.out] at ho25 | (simp only [Int.reduceToNat] at ho25; rw [← Ny406.out] at ho25))
                      have n0_ := ak (Kd.V_elder' (vX HO_1.out) (Kd.R_base ho25) hb)
                      have n1_ := ak (Kd.V_elder' (vX HO_2.out) (Kd.R_base ho25) hb)
                      have n2_ := ak (Kd.V_elder' (vX HO_9.out) (Kd.R_base ho25) hb)
                      have n3_ := ak (Kd.V_elder' (vX HO404.out) (Kd.R_base ho25) hb)
                      have n4_ := ak (Kd.R_lower (Kd.R_newM (M := fun k_ => (w.heap.size ≤ k_)) ho25 (below_size bX) (fun k_ h_ => h_)) (below_size bX))
                      have n5_ := ak (below_step bX hb)
                      clear HO_1
                      clear HO_2
                      clear HO_9
                      clear HO404
                      clear HB
                      have HO_1 := n0_
                      have HO_2 := n1_
                      have HO_9 := n2_
                      have HO404 := n3_
                      have HO408 := n4_
                      have HB := n5_
                      clear n0_ n1_ n2_ n3_ n4_ n5_
                      clear hb ho25
                      refine hK.out _ _ (HS0_) (fun hHeld => ?_)
                      clear hK K
                      refine norm_ (a' := ?_) ?_ ?_
                      rotate_left
                      · show Act.put _ (some 55) _ = _
                        simp only [Act.put, sS, s0, s1, i64_w, i32_w]
                        rfl
                      exact norm_ (by simp only [putAll, Act.put, sS, s0, s1]) (hCont (v403, v407) _ ⟨hHeld, (vX HO404.out), (by (with_reducible repeat (first | apply Kd.R_alloc | apply Kd.R_drewN | apply Kd.R_drew)); exact Kd.R_mono HO408.out (fun _ hk => hk.1)), (vX HO_1.out), (vX HO_2.out), (vX HO_9.out), bX⟩)
                    · skip
                      refine Kd.R_lit_step (Kd.int .i64) _ 3 ?hg (N := 55) ?hd (xs := ([rd l1 (ji16)] : List Int)) (inner := [.int .i64 (rd l1 (ji16))]) (ok := fun _ => True) (okp := fun _ => True) ?hr ?hp (fun _ hk => hk) trivial (Below.refl _ _) (Nat.le_refl _) (by simp) ?_; (case hd => rfl); (case hg => rfl); (case hr => first | (go_simp; done) | (go_simp; rfl)); (case hp => exact (Reps.one (show Kd.M (Kd.int .i64) _ _ _ (rd l1 (ji16)) [.int .i64 (rd l1 (ji16))] from rfl) (Reps.none _ _)))
                      intro v407 w23 ho24 hb hg_ hnew_
                      have HS0_ := (hb.cell (World.block_lt_of_cell? _ _ (hHeld))).trans (hHeld)
                      clear hg_ hnew_
                      (first | rw [← Ny406.out] at ho24 | (simp only [Int.reduceToNat] at ho24; rw [← Ny406.out] at ho24))
                      have n0_ := ak (Kd.V_elder' (vX HO_1.out) (Kd.R_base ho24) hb)
                      have n1_ := ak (Kd.V_elder' (vX HO_2.out) (Kd.R_base ho24) hb)
                      have n2_ := ak (Kd.V_elder' (vX HO_9.out) (Kd.R_base ho24) hb)
                      have n3_ := ak (Kd.R_lower (Kd.R_newM (M := fun k_ => (w.heap.size ≤ k_)) ho24 (below_size bX) (fun k_ h_ => h_)) (below_size bX))
                      have n4_ := ak (below_step bX hb)
                      clear HO_1
                      clear HO_2
                      clear HO_9
                      clear HB
                      have HO_1 := n0_
                      have HO_2 := n1_
                      have HO_9 := n2_
                      have HO408 := n3_
                      have HB := n4_
                      clear n0_ n1_ n2_ n3_ n4_
                      clear hb ho24
                      refine hK.out _ _ (HS0_) (fun hHeld => ?_)
                      clear hK K
                      refine norm_ (a' := ?_) ?_ ?_
                      rotate_left
                      · show Act.put _ (some 55) _ = _
                        simp only [Act.put, sS, s0, s1, i64_w, i32_w]
                        rfl
                      refine one_ (i := 4) (N := some 46) #[true, true, true, true, true, true, true, true, true, true, true, true, true, true, false, false, false] rfl rfl (one_of HT_.out (by kernel_rfl)) (by decide) (fun K hK => ?_)
                      refine goes_ Try.func67 (by kernel_rfl) rfl #[.int .i64 a0, .slice Ao21 x9_2.length co21, .slice A2 l2.length c2] (by rfl) rfl rfl mX ?_
                      with_reducible refine (fp_Mul.calls k2 a0 _ _ x9_2 _ _ l2 t402 _ ?side1 ?side2 ?side3 ?side4 A15.out).mono ?_
                      (case side1 => exact cX (Kd.V_reads' HO_9.out).2.2)
                      (case side2 => exact (Kd.V_reads' HO_9.out).2.1)
                      (case side3 => exact cX (Kd.V_reads' HO_2.out).2.2)
                      (case side4 => exact (Kd.V_reads' HO_2.out).2.1)
                      rintro e w25 ⟨v403, rfl, ho0, hb⟩
                      have HS0_ := (hb.cell (World.block_lt_of_cell? _ _ (hHeld))).trans (hHeld)
                      refine ⟨_, rfl, ?_⟩
                      have n0_ := ak (Kd.V_below (vX HO_1.out) hb)
                      have n1_ := ak (Kd.V_below (vX HO_2.out) hb)
                      have n2_ := ak (Kd.V_below (vX HO_9.out) hb)
                      have n3_ := ak (Kd.R_below (rX HO408.out) hb)
                      have n4_ := ak (Kd.V_lower (Kd.V_mono (ok' := fun k_ => ((P1_ k_ ∨ P2_ k_) ∨ w.heap.size ≤ k_) ∧ some k_ ≠ (v407 : Value).ownBlock) ho0 (fun k_ hk_ => ⟨(.inr (Nat.le_trans (below_size bX) hk_)), (Kd.fresh' (Kd.R_lt (rX HO408.out)) k_ hk_)⟩)) (below_size bX))
                      have n5_ := ak (below_step bX hb)
                      clear HO_1
                      clear HO_2
                      clear HO_9
                      clear HO408
                      clear HB
                      have HO_1 := n0_
                      have HO_2 := n1_
                      have HO_9 := n2_
                      have HO408 := n3_
                      have HO404 := n4_
                      have HB := n5_
                      clear n0_ n1_ n2_ n3_ n4_ n5_
                      (try clear hb)
                      (try clear hb2)
                      (try clear hk)
                      (try clear hi)
                      (try clear ho0)
                      refine hK.out _ _ (HS0_) (fun hHeld => ?_)
                      clear hK K
                      refine norm_ (a' := ?_) ?_ ?_
                      rotate_left
                      · show Act.put _ (some 46) _ = _
                        simp only [Act.put, sS, s0, s1, i64_w, i32_w]
                        rfl
                      exact norm_ (by simp only [putAll, Act.put, sS, s0, s1]) (hCont (v403, v407) _ ⟨hHeld, (vX HO404.out), (by (with_reducible repeat (first | apply Kd.R_alloc | apply Kd.R_drewN | apply Kd.R_drew)); exact Kd.R_mono HO408.out (fun _ hk => hk.1)), (vX HO_1.out), (vX HO_2.out), (vX HO_9.out), bX⟩)
                  rintro ⟨v403, v407⟩ w26 ⟨hS_, h0_, h1_, h2_, h3_, h4_, h5_⟩
                  have n0_ : Aside0 (Kd.V (Kd.int .i64) 3 w26 w.heap.size (fun k_ => ((P1_ k_ ∨ P2_ k_) ∨ w.heap.size ≤ k_) ∧ some k_ ≠ (v407 : Value).ownBlock) v403 t402) := ⟨h0_⟩
                  have n1_ : Aside0 (Kd.R (Kd.int .i64) 3 w26 w.heap.size (fun k_ => (w.heap.size ≤ k_)) v407 y406) := ⟨h1_⟩
                  have n2_ : Aside0 (Kd.V (Kd.int .i64) 3 w26 w.heap.size (fun k_ => ((P1_ k_ ∨ P2_ k_) ∨ w.heap.size ≤ k_) ∧ some k_ ≠ (v407 : Value).ownBlock) (.slice (some ad405) l1.length c1) l1) := ⟨h2_⟩
                  have n3_ : Aside0 (Kd.V (Kd.int .i64) 3 w26 w.heap.size (fun k_ => ((P1_ k_ ∨ P2_ k_) ∨ w.heap.size ≤ k_) ∧ some k_ ≠ (v407 : Value).ownBlock) (.slice A2 l2.length c2) l2) := ⟨h3_⟩
                  have n4_ : Aside0 (Kd.V (Kd.int .i64) 3 w26 w.heap.size (fun k_ => ((P1_ k_ ∨ P2_ k_) ∨ w.heap.size ≤ k_) ∧ some k_ ≠ (v407 : Value).ownBlock) (.slice Ao21 x9_2.length co21) x9_2) := ⟨h4_⟩
                  have n5_ : Aside0 (Below w.heap.size w w26) := ⟨h5_⟩
                  clear HO_1
                  clear HO_2
                  clear HO_9
                  clear HB
                  clear h0_ h1_ h2_ h3_ h4_ h5_
                  have HO404 := n0_
                  have HO408 := n1_
                  have HO_1 := n2_
                  have HO_2 := n3_
                  have HO_9 := n4_
                  have HB := n5_
                  clear n0_ n1_ n2_ n3_ n4_ n5_
                  have hHeld : w26.cell? (ad405.add ((ji16)).toNat) = some (.int .i64 (rd l1 (ji16))) := hS_
                  obtain ⟨Ao27, co27, eo27⟩ := Kd.R_slice HO408.out
                  (first | subst eo27 | (injection eo27 with f1_ f2_ f3_; have f4_ := f1_.symm; have f5_ := f3_.symm; clear f1_ f2_ f3_; subst f4_; subst f5_))
                  refine norm_ (a' := ?_) ?_ ?_
                  rotate_left
                  · simp only [putAll, Act.put, sS, s0, s1]
                    rfl
                  refine one_ (i := 14) (N := some 56) #[true, true, true, true, true, true, true, true, true, true, true, true, true, true, true, false, false] rfl rfl (one_of HT_.out (by kernel_rfl)) (by decide) (fun K hK => ?_)
                  refine goes_ Try.func88 (by kernel_rfl) rfl #[.slice Ao27 y406.length co27] (by rfl) rfl rfl mX ?_
                  with_reducible refine (fp_Trim.calls k2 (fun k_ => some k_ = (.slice Ao27 y406.length co27 : Value).ownBlock) _ _ y406 t409 _ ?side1 A19.out).mono ?_
                  (case side1 => exact Kd.R_V (Kd.R_tight rfl (HO408.out)))
                  rintro e w28 ⟨v410, rfl, ho0, hb⟩
                  have HS0_ := (hb.cell (World.block_lt_of_cell? _ _ (hHeld))).trans (hHeld)
                  refine ⟨_, rfl, ?_⟩
                  have n0_ := ak (Kd.V_below (vX HO_1.out) hb)
                  have n1_ := ak (Kd.V_below (vX HO_2.out) hb)
                  have n2_ := ak (Kd.V_below (vX HO_9.out) hb)
                  have n3_ := ak (Kd.V_below (vX HO404.out) hb)
                  have n4_ := ak (Kd.R_below (rX HO408.out) hb)
                  have n5_ := ak (Kd.V_lower (Kd.V_mono (ok' := fun k_ => ((P1_ k_ ∨ P2_ k_) ∨ w.heap.size ≤ k_)) ho0 (fun k_ hk_ => Or.elim hk_ (fun hs_ => (.inr (((HO408.out).1 k_ hs_.symm)))) (fun hn_ => (.inr (Nat.le_trans (below_size bX) hn_))))) (below_size bX))
                  have n6_ := ak (below_step bX hb)
                  clear HO_1
                  clear HO_2
                  clear HO_9
                  clear HO404
                  clear HO408
                  clear HB
                  have HO_1 := n0_
                  have HO_2 := n1_
                  have HO_9 := n2_
                  have HO404 := n3_
                  have HO408 := n4_
                  have HO411 := n5_
                  have HB := n6_
                  clear n0_ n1_ n2_ n3_ n4_ n5_ n6_
                  (try clear hb)
                  (try clear hb2)
                  (try clear hk)
                  (try clear hi)
                  (try clear ho0)
                  obtain ⟨Ao29, co29, eo29⟩ := Kd.V_slice HO404.out
                  (first | subst eo29 | (injection eo29 with f1_ f2_ f3_; have f4_ := f1_.symm; have f5_ := f3_.symm; clear f1_ f2_ f3_; subst f4_; subst f5_))
                  obtain ⟨Ao30, co30, eo30⟩ := Kd.V_slice HO411.out
                  (first | subst eo30 | (injection eo30 with f1_ f2_ f3_; have f4_ := f1_.symm; have f5_ := f3_.symm; clear f1_ f2_ f3_; subst f4_; subst f5_))
                  refine hK.out _ _ (HS0_) (fun hHeld => ?_)
                  clear hK K
                  refine norm_ (a' := ?_) ?_ ?_
                  rotate_left
                  · show Act.put _ (some 56) _ = _
                    simp only [Act.put, sS, s0, s1, i64_w, i32_w]
                    rfl
                  refine one_ (i := 15) (N := some 57) #[true, true, true, true, true, true, true, true, true, true, true, true, true, true, true, true, false] rfl rfl (one_of HT_.out (by kernel_rfl)) (by decide) (fun K hK => ?_)
                  refine goes_ Try.func85 (by kernel_rfl) rfl #[.int .i64 a0, .slice Ao29 t402.length co29, .slice Ao30 t409.length co30] (by rfl) rfl rfl mX ?_
                  with_reducible refine (fp_Add.calls k2 a0 _ _ t402 _ _ t409 t412 _ ?side1 ?side2 ?side3 ?side4 A20.out).mono ?_
                  (case side1 => exact cX (Kd.V_reads' HO404.out).2.2)
                  (case side2 => exact (Kd.V_reads' HO404.out).2.1)
                  (case side3 => exact cX (Kd.V_reads' HO411.out).2.2)
                  (case side4 => exact (Kd.V_reads' HO411.out).2.1)
                  rintro e w31 ⟨v413, rfl, ho0, hb⟩
                  have HS0_ := (hb.cell (World.block_lt_of_cell? _ _ (hHeld))).trans (hHeld)
                  refine ⟨_, rfl, ?_⟩
                  have n0_ := ak (Kd.V_below (vX HO_1.out) hb)
                  have n1_ := ak (Kd.V_below (vX HO_2.out) hb)
                  have n2_ := ak (Kd.V_below (vX HO_9.out) hb)
                  have n3_ := ak (Kd.V_below (vX HO404.out) hb)
                  have n4_ := ak (Kd.R_below (rX HO408.out) hb)
                  have n5_ := ak (Kd.V_below (vX HO411.out) hb)
                  have n6_ := ak (Kd.V_lower (Kd.V_mono (ok' := fun k_ => ((P1_ k_ ∨ P2_ k_) ∨ w.heap.size ≤ k_) ∧ some k_ ≠ (.slice Ao27 y406.length co27 : Value).ownBlock) ho0 (fun k_ hk_ => ⟨(.inr (Nat.le_trans (below_size bX) hk_)), (Kd.fresh' (Kd.R_lt (rX HO408.out)) k_ hk_)⟩)) (below_size bX))
                  have n7_ := ak (below_step bX hb)
                  clear HO_1
                  clear HO_2
                  clear HO_9
                  clear HO404
                  clear HO408
                  clear HO411
                  clear HB
                  have HO_1 := n0_
                  have HO_2 := n1_
                  have HO_9 := n2_
                  have HO404 := n3_
                  have HO408 := n4_
                  have HO411 := n5_
                  have HO414 := n6_
                  have HB := n7_
                  clear n0_ n1_ n2_ n3_ n4_ n5_ n6_ n7_
                  (try clear hb)
                  (try clear hb2)
                  (try clear hk)
                  (try clear hi)
                  (try clear ho0)
                  refine hK.out _ _ (HS0_) (fun hHeld => ?_)
                  clear hK K
                  refine norm_ (a' := ?_) ?_ ?_
                  rotate_left
                  · show Act.put _ (some 57) _ = _
                    simp only [Act.put, sS, s0, s1, i64_w, i32_w]
                    rfl
                  refine pure_ (i := 16) (N := some 9) (v := ?_) (a' := ?_) #[true, true, true, true, true, true, true, true, true, true, true, true, true, true, true, true, true] rfl rfl (any_of HT_.out (by kernel_rfl)) (fun _ _ _ h => h) (Or.inl ⟨by rfl, ?_⟩) ?_ ?_
                  rotate_left
                  · intro w'
                    go_simp
                    with_reducible rfl
                  rotate_left
                  · simp only [Act.put, sS, s0, s1, i64_w, i32_w]
                    rfl
                  refine done_ (done_of HT_.out (by kernel_rfl)) ?_
                  try go_wp2
                  (first | go_roundg k2 | (refine Handed.intro k2 ?measure ?_; rotate_left; go_step; (repeat rw [add_plain]); (repeat apply Exists.intro); refine ⟨?rel, rfl⟩))
                  case measure => have := HJ5.out; have := HK2.out; omega
                  case rel => exact ⟨(t412), (wrap64 (x39_2 + 1)), (by first | rfl | (simp; done) | (simp [*]; done)), H', ⟨by have := HJ5.out; have := HK2.out; omega⟩, ⟨by (with_reducible repeat (first | apply vA | apply vB | apply vC)); exact Kd.V_mono HO_1.out (fun _ hk => hk.1)⟩, ⟨by (with_reducible repeat (first | apply vA | apply vB | apply vC)); exact Kd.V_mono HO_2.out (fun _ hk => hk.1)⟩, ⟨by (with_reducible repeat (first | apply vA | apply vB | apply vC)); exact Kd.V_mono HO414.out (fun _ hk => hk.1)⟩, ⟨by repeat (first | (with_reducible first | exact HB.out | apply bA | apply bB | apply bC) | exact HB.out)⟩⟩
               · rw [if_neg c18] at H
                 exact absurd H (by simp)
             · rw [if_neg c17] at H
               exact absurd H (by simp)
           · rw [if_neg c14] at H
             have c14b0 : decide (x39_2 < (l1.length : Int)) = false := decide_eq_false c14
             clear c14
             as_aux_lemma =>
              simp only [Option.some.injEq, Prod.mk.injEq] at H
              obtain ⟨rfl, rfl⟩ := H
              go_wp2
              go_ret2
              exact ⟨_, by first | rfl | (simp [errW_none, errW_some] <;> rfl) | (simp [*, errW_none, errW_some] <;> rfl), by (with_reducible repeat (first | apply vA | apply vB | apply vC)); exact HO_9.out, by repeat (first | (with_reducible first | exact HB.out | apply bA | apply bB | apply bC) | exact HB.out)⟩
 · rw [if_neg c5] at H
   have c5b0 : (t401 == 0) = false := beq_eq_false_iff_ne.mpr c5
   have c5b1 : (t401 != 0) = true := bne_iff_ne.mpr c5
   as_aux_lemma =>
    simp only [Option.some.injEq, Prod.mk.injEq] at H
    obtain ⟨rfl, rfl⟩ := H
    go_enter Try.func39, Try.ntmps39
    go_wp2_with (first | ((with_reducible refine gate_dst (N := 14) rfl ?_); (try (refine gate_guard (by rfl) ?_; dsimp only)); refine Kd.N_lit (Kd.slice 3 (Kd.int .i64)) _ 23 ?hg (N' := 14) ?hd (xs := ([l1, l2] : List (List Int))) (inner := [.slice A1 l1.length c1, .slice A2 l2.length c2]) (ok := (fun k_ => ((P1_ k_ ∨ P2_ k_) ∨ w.heap.size ≤ k_))) (okp := (fun k_ => ((P1_ k_ ∨ P2_ k_) ∨ w.heap.size ≤ k_))) ?hr ?hp (fun _ hk => hk) ((show ∀ k_, w.heap.size ≤ k_ → (fun k_ => ((P1_ k_ ∨ P2_ k_) ∨ w.heap.size ≤ k_)) k_ from fun k_ hk => (.inr (Nat.le_trans (below_size bX) hk))) _ (Nat.le_refl _)) (Below.refl _ _) (Nat.le_refl _) (by simp) ?_; (case hd => rfl); (case hg => rfl); (case hr => first | (go_simp; done) | (go_simp; rfl)); (case hp => exact (Reps.one (show Kd.FK (Kd.slice 3 (Kd.int .i64)) _ _ l1 [.slice A1 l1.length c1] from (Kd.FK_slice_mk (Kd.V_reads' (Kd.V_mono (ok' := (fun k_ => ((P1_ k_ ∨ P2_ k_) ∨ w.heap.size ≤ k_))) (HO1.out) (fun k_ hk => hk))).2.1 (Kd.V_F (Kd.V_mono (ok' := (fun k_ => ((P1_ k_ ∨ P2_ k_) ∨ w.heap.size ≤ k_))) (HO1.out) (fun k_ hk => hk))))) (Reps.one (show Kd.FK (Kd.slice 3 (Kd.int .i64)) _ _ l2 [.slice A2 l2.length c2] from (Kd.FK_slice_mk (Kd.V_reads' (Kd.V_mono (ok' := (fun k_ => ((P1_ k_ ∨ P2_ k_) ∨ w.heap.size ≤ k_))) (HO2.out) (fun k_ hk => hk))).2.1 (Kd.V_F (Kd.V_mono (ok' := (fun k_ => ((P1_ k_ ∨ P2_ k_) ∨ w.heap.size ≤ k_))) (HO2.out) (fun k_ hk => hk))))) (Reps.none _ _)))); intro v399 w32 ho33 hb hg_ hnew_; clear hg_ hnew_; (first | rw [← Ny398.out] at ho33 | (simp only [Int.reduceToNat] at ho33; rw [← Ny398.out] at ho33)); have n0_ := ak (Kd.V_elder' (vX HO1.out) (Kd.N_base ho33) hb); have n1_ := ak (Kd.V_elder' (vX HO2.out) (Kd.N_base ho33) hb); have n2_ := ak (Kd.N_lower ho33 (below_size bX)); have n3_ := ak (below_step bX hb); clear HO1; clear HO2; clear HB; have HO1 := n0_; have HO2 := n1_; have HO400 := n2_; have HB := n3_; clear n0_ n1_ n2_ n3_; clear hb ho33; obtain ⟨Ao34, co34, eo34⟩ := Kd.N_slice HO400.out; subst eo34) | ((with_reducible refine gate_callee (f := 60) rfl ?_); refine goesL_ (some 15) rfl rfl Try.func60 (by kernel_rfl) rfl #[.int .i64 a0, .slice Ao34 y398.length co34] rfl mX ?_; (with_reducible refine (polymod_first.calls k a0 _ _ y398 t401 _ ?side1 ?side2 A4.out).mono ?_); (case side1 => exact cX (Kd.N_reads' HO400.out).2.2); (case side2 => exact (Kd.N_reads' HO400.out).2.1); rintro e w35 ⟨rfl, hb⟩; refine ⟨_, rfl, ?_⟩; have n0_ := ak (Kd.V_below (vX HO1.out) hb); have n1_ := ak (Kd.V_below (vX HO2.out) hb); have n2_ := ak (Kd.N_below (by (with_reducible repeat (first | apply Kd.N_alloc | apply Kd.N_drewN | apply Kd.N_drew)); exact HO400.out) hb); have n3_ := ak (below_step bX hb); clear HO1; clear HO2; clear HO400; clear HB; have HO1 := n0_; have HO2 := n1_; have HO400 := n2_; have HB := n3_; clear n0_ n1_ n2_ n3_; (try clear hb); (try clear hb2); (try clear hk); (try clear hi)))
    go_ret2
    exact ⟨_, by first | rfl | (simp [errW_none, errW_some] <;> rfl) | (simp [*, errW_none, errW_some] <;> rfl), (Kd.V_nil _ _ _ _ _), by repeat (first | (with_reducible first | exact HB.out | apply bA | apply bB | apply bC) | exact HB.out)⟩

/-! ### galoisref09_Trim: function 40 -/
def galoisref09_Trim.l0 : Nat → List Int → Option (List Int)
 | 0, _ => none
 | k + 1, x0 => if (x0.length : Int) > 0 then (if 0 ≤ (wrap64 ((x0.length : Int) - 1)) then (if (wrap64 ((x0.length : Int) - 1)) < (x0.length : Int) then (if (rd x0 (wrap64 ((x0.length : Int) - 1))) = 0 then (if (wrap64 ((x0.length : Int) - 1)) ≤ (x0.length : Int) then (galoisref09_Trim.l0 k (x0.take ((wrap64 ((x0.length : Int) - 1)) : Int).toNat)) else (none)) else (some x0)) else (none)) else (none)) else (some x0)
def galoisref09_Trim.f (k : Nat) (l0 : List Int) : Option (List Int) := galoisref09_Trim.l0 k l0
theorem galoisref09_Trim.mono_l : ∀ k, (∀ y0, LeO (galoisref09_Trim.l0 k y0) (galoisref09_Trim.l0 (k + 1) y0))
 | 0 => fun _ r h => by simp [galoisref09_Trim.l0] at h
 | k + 1 => by
   have ih0 := galoisref09_Trim.mono_l k
   · intro y0
     unfold galoisref09_Trim.l0
     repeat' first
     | (with_reducible apply ih0)
     | (with_reducible apply LeO.refl)
     | (with_reducible apply LeO.none)
     | (with_reducible refine LeO.ite ?_ ?_)
     | (with_reducible refine LeO.bind ?_ (fun _ => ?_))
theorem galoisref09_Trim.mono : ∀ a0 k, LeO (galoisref09_Trim.f k a0) (galoisref09_Trim.f (k + 1) a0) := by
 intro a0 k
 have ih0 := galoisref09_Trim.mono_l k
 unfold galoisref09_Trim.f
 repeat' first
  | (with_reducible apply ih0)
  | (with_reducible apply LeO.refl)
  | (with_reducible apply LeO.none)
  | (with_reducible refine LeO.ite ?_ ?_)
  | (with_reducible refine LeO.bind ?_ (fun _ => ?_))
set_option maxHeartbeats 8000000 in
set_option maxRecDepth 100000 in
theorem galoisref09_Trim.calls (k : Nat) (P0_ : Nat → Prop) (A0 : Option Addr) (c0 : Nat) (l0 : List Int) (r : List Int) (w : World) (hs0 : Kd.V (Kd.int .i64) 3 w w.heap.size (fun k_ => P0_ k_) (.slice A0 l0.length c0) l0) (h : galoisref09_Trim.f k l0 = some r) :
 Calls Try.prog 40 #[.slice A0 l0.length c0] w fun e w' => ∃ v0_ : Value, e = .returned (v0_) ∧ Kd.V (Kd.int .i64) 3 w' w.heap.size (fun k_ => (P0_ k_ ∨ w.heap.size ≤ k_)) v0_ r ∧ Below w.heap.size w w' := by
 have HO0 := ak (show Kd.V (Kd.int .i64) 3 w w.heap.size (fun k_ => (P0_ k_ ∨ w.heap.size ≤ k_)) (.slice A0 l0.length c0) l0 from Kd.V_mono hs0 (fun k_ hk => .inl hk))
 have HB := ak (Below.refl w.heap.size w)
 have H : (galoisref09_Trim.l0 k l0) = some r := h
 clear h
 have H' := ak H
 clear H
 go_enter Try.func40, Try.ntmps40
 go_wp2
 go_loopg [0] k (fun kq v0 w' => ∃ (x0_1 : List Int), Aside0 (galoisref09_Trim.l0 kq x0_1 = some r) ∧ Aside0 (kq ≤ k) ∧ Aside0 (Kd.V (Kd.int .i64) 3 w' w.heap.size (fun k_ => (P0_ k_ ∨ w.heap.size ≤ k_)) v0 x0_1) ∧ Aside0 (Below w.heap.size w w'))
 case atStart => exact ⟨(l0), H', ⟨Nat.le_refl _⟩, ⟨by (with_reducible repeat (first | apply vA | apply vB | apply vC)); exact HO0.out⟩, ⟨by repeat (first | (with_reducible first | exact HB.out | apply bA | apply bB | apply bC) | exact HB.out)⟩⟩
 case round =>
  clear H'
  obtain ⟨x0_1, HA, HK1, HO_0, HB⟩ := hrel
  cases gk with
  | zero => exact absurd HA.out (by simp [galoisref09_Trim.l0])
  | succ k1 =>
    have H := HA.out
    clear HA
    simp only [galoisref09_Trim.l0] at H
    by_cases c2 : (x0_1.length : Int) > 0
    · rw [if_pos c2] at H
      have c2b0 : decide (0 < (x0_1.length : Int)) = true := decide_eq_true c2
      have c2b1 : decide (0 < x0_1.length) = true := decide_eq_true (by omega)
      clear c2
      obtain ⟨ji3, hji3⟩ : ∃ j_ : Int, (wrap64 ((x0_1.length : Int) - 1)) = j_ := ⟨_, rfl⟩
      replace H : (if 0 ≤ (ji3) then (if (ji3) < (x0_1.length : Int) then (if (rd x0_1 (ji3)) = 0 then (if (ji3) ≤ (x0_1.length : Int) then (galoisref09_Trim.l0 k1 (x0_1.take ((ji3) : Int).toNat)) else (none)) else (some x0_1)) else (none)) else (none)) = some r := by first | (rw [hji3] at H; exact H) | (simp only [hji3] at H ⊢; exact H)
      have hji3w : (IntKind.i64.wrap ((x0_1.length : Int) - 1)) = ji3 := (i64_w _).trans hji3
      by_cases c4 : 0 ≤ (ji3)
      · rw [if_pos c4] at H
        have c4b0 : decide (0 ≤ (ji3)) = true := decide_eq_true c4
        clear c4
        by_cases c5 : (ji3) < (x0_1.length : Int)
        · rw [if_pos c5] at H
          have c5b0 : decide ((ji3) < (x0_1.length : Int)) = true := decide_eq_true c5
          clear c5
          by_cases c6 : (rd x0_1 (ji3)) = 0
          · rw [if_pos c6] at H
            have c6b0 : ((rd x0_1 (ji3)) == 0) = true := beq_iff_eq.mpr c6
            have c6b1 : ((rd x0_1 (ji3)) != 0) = false := bne_eq_false_iff_eq.mpr c6
            clear c6
            have c7b0 := eq_true (of_decide_eq_true aX : 0 ≤ (ji3))
            by_cases c8 : (ji3) ≤ (x0_1.length : Int)
            · rw [if_pos c8] at H
              have c8b0 := eq_true c8
              have c8b1 : decide ((ji3) ≤ (x0_1.length : Int)) = true := decide_eq_true c8
              clear c8
              obtain ⟨y416, hy416⟩ : ∃ y_ : List Int, y_ = (x0_1.take ((ji3) : Int).toNat) := ⟨_, rfl⟩
              replace H : (galoisref09_Trim.l0 k1 y416) = some r := by first | (rw [hy416]; with_reducible exact H) | (have H2_ := (Option.bind_some _ _).symm.trans H; rw [hy416]; with_reducible exact H2_) | (have H2_ := (Option.bind_some _ _).symm.trans H; with_reducible exact H2_) | with_reducible exact H | (rw [hy416]; exact H) | exact H
              have Ny416 := ak hy416
              clear hy416
              as_aux_lemma =>
               have H' := ak H
               clear H
               obtain ⟨Ao9, co9, eo9⟩ := Kd.V_slice HO_0.out
               subst eo9
               have p415 : 0 ≤ ((ji3) : Int) := of_decide_eq_true aX
               have q415 : (ji3) < (x0_1.length : Int) := of_decide_eq_true aX
               obtain ⟨ad415, e415, hx415_0⟩ := Kd.at_int (Kd.V_reads' HO_0.out).2.2 (ji3) p415 q415
               cases e415
               replace p415 := eq_true p415
               replace q415 := eq_true q415
               have q10 : ((ji3) : Int) ≤ ((x0_1.length : Int) : Int) := of_decide_eq_true aX
               obtain ⟨i010, hi010, _, hsz10, _⟩ := info_parts info3
               have hroom10 : x0_1.length ≤ co9 := (Kd.V_reads' HO_0.out).2.1
               have hC10 : Kd.F (Kd.int .i64) _ _ (some ad415) x0_1.length x0_1 := (Kd.V_at (base := w.heap.size) HO_0.out).2.2
               have hcut10 := cut_to (P := Try.prog) 23 3 .i64 Try.underlying23 hi010 (some ad415) x0_1.length co9 (ji3) (of_decide_eq_true aX) q10 hroom10
               have hr10 := Kd.F_take (m := ((ji3) : Int).toNat) hC10 (by omega)
               have hy10 : y416.length = ((ji3) : Int).toNat := (by rw [Ny416.out, List.length_take]; omega)
               rw [← Ny416.out] at hr10
               rw [← hy10] at hcut10
               have HO420 := ak (show Kd.V (Kd.int .i64) 3 _ w.heap.size _ (.slice (some ad415) y416.length co9) y416 from Kd.V_mk (by omega) hr10)
               have HC420 := ak (show y416.length ≤ co9 from by omega)
               clear hr10 hC10 hroom10 hi010 hsz10
               have KY10 := ak hy10
               clear hy10
               replace q10 := eq_true q10
               go_wp2
               (first | go_roundg k1 | (refine Handed.intro k1 ?measure ?_; rotate_left; go_step; (repeat rw [add_plain]); (repeat apply Exists.intro); refine ⟨?rel, rfl⟩))
               case measure => have := HK1.out; omega
               case rel => exact ⟨(y416), H', ⟨by have := HK1.out; omega⟩, ⟨by (with_reducible repeat (first | apply vA | apply vB | apply vC)); exact HO420.out⟩, ⟨by repeat (first | (with_reducible first | exact HB.out | apply bA | apply bB | apply bC) | exact HB.out)⟩⟩
            · rw [if_neg c8] at H
              exact absurd H (by simp)
          · rw [if_neg c6] at H
            have c6b0 : ((rd x0_1 (ji3)) == 0) = false := beq_eq_false_iff_ne.mpr c6
            have c6b1 : ((rd x0_1 (ji3)) != 0) = true := bne_iff_ne.mpr c6
            as_aux_lemma =>
             obtain rfl := Option.some.inj H
             obtain ⟨Ao11, co11, eo11⟩ := Kd.V_slice HO_0.out
             subst eo11
             have p415 : 0 ≤ ((ji3) : Int) := of_decide_eq_true aX
             have q415 : (ji3) < (x0_1.length : Int) := of_decide_eq_true aX
             obtain ⟨ad415, e415, hx415_0⟩ := Kd.at_int (Kd.V_reads' HO_0.out).2.2 (ji3) p415 q415
             cases e415
             replace p415 := eq_true p415
             replace q415 := eq_true q415
             go_wp2
             go_ret
             exact ⟨_, by first | rfl | (simp [errW_none, errW_some] <;> rfl) | (simp only [← hji3]; first | rfl | (simp [errW_none, errW_some] <;> rfl)) | (simp [*, errW_none, errW_some] <;> rfl), by (with_reducible repeat (first | apply vA | apply vB | apply vC)); exact HO_0.out, by repeat (first | (with_reducible first | exact HB.out | apply bA | apply bB | apply bC) | exact HB.out)⟩
        · rw [if_neg c5] at H
          exact absurd H (by simp)
      · rw [if_neg c4] at H
        exact absurd H (by simp)
    · rw [if_neg c2] at H
      have c2b0 : decide (0 < (x0_1.length : Int)) = false := decide_eq_false c2
      have c2b1 : decide (0 < x0_1.length) = false := decide_eq_false (by omega)
      clear c2
      as_aux_lemma =>
       obtain rfl := Option.some.inj H
       obtain ⟨Ao12, co12, eo12⟩ := Kd.V_slice HO_0.out
       subst eo12
       go_wp2
       go_ret
       exact ⟨_, by first | rfl | (simp [errW_none, errW_some] <;> rfl) | (simp [*, errW_none, errW_some] <;> rfl), by (with_reducible repeat (first | apply vA | apply vB | apply vC)); exact HO_0.out, by repeat (first | (with_reducible first | exact HB.out | apply bA | apply bB | apply bC) | exact HB.out)⟩

end Go.Proofs.Ytmknclgamadphaa.PPolymodFrobenius
