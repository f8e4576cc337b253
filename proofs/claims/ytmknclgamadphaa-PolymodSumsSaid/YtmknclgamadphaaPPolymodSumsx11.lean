-- WRITTEN BY sprint.py (a program of this repo, over the kit's print.py): nothing here is trusted, Lean checks it.
import Derived.Test.YtmknclgamadphaaPPolymodSumsx0
import Derived.Test.YtmknclgamadphaaPPolymodSumsx1
import Derived.Test.YtmknclgamadphaaPPolymodSumsx6
import Derived.Test.YtmknclgamadphaaPPolymodSumsx7
import Derived.Test.YtmknclgamadphaaPPolymodSumsx8
import Derived.Test.YtmknclgamadphaaPPolymodSumsx9
import Derived.Test.YtmknclgamadphaaPPolymodSumsx10
namespace Go.Proofs.Ytmknclgamadphaa.PPolymodSums
open Go.RowKit Go.Proofs.YtmknclgamadphaaW.PrintWords Go.Proofs.YtmknclgamadphaaW.PrintLast Go.Proofs.YtmknclgamadphaaW.PrintMore
attribute [local go_sem] max2_int min2_int max_two min_two max_three min_three max_four min_four   -- for this text's walks alone
set_option linter.unusedVariables false
set_option linter.unusedSimpArgs false

/-! ### galoislaw09_PolymodSums: function 11 -/
mutual
def galoislaw09_PolymodSums.j0 : Nat → Int → List Int → List Int → Bool → Option (Bool)
 | 0, _, _, _, _ => none
 | k + 1, x0, x1, x2, x20 => if x20 = true then ((galoislaw09_awake.f k).bind fun t460 => (some t460)) else ((polymod_Add.f k x0 x1 x2).bind fun bt461 => ((polymod_Sub.f k x0 x1 x2).bind fun bt465 => ((polymod_Mul.f k x0 x1 x2).bind fun bt469 => ((polymod_Check.f k x0 x1).bind fun t473 => ((galoisref09_Check.f k x0 x1).bind fun t474 => (if t473 = t474 then ((polymod_Compare.f k x1 x2).bind fun t475 => ((galoisref09_Compare.f k x1 x2).bind fun t476 => (galoislaw09_PolymodSums.j1 k x0 x1 x2 bt461.1 bt461.2 bt465.1 bt465.2 bt469.1 bt469.2 (t475 != t476)))) else (galoislaw09_PolymodSums.j1 k x0 x1 x2 bt461.1 bt461.2 bt465.1 bt465.2 bt469.1 bt469.2 true)))))))
def galoislaw09_PolymodSums.j1 : Nat → Int → List Int → List Int → List Int → Int → List Int → Int → List Int → Int → Bool → Option (Bool)
 | 0, _, _, _, _, _, _, _, _, _, _ => none
 | k + 1, x0, x1, x2, x7, x8, x9, x10, x11, x12, x58 => if x58 = true then (some false) else ((galoislaw09_expected.f k x0 x1 x2).bind fun t477 => (if t477 = 0 then ((galoisref09_Add.f k x0 x1 x2).bind fun t481 => ((galoislaw09_right.f k x7 x8 0 t481).bind fun t484 => (if t484 = true then ((galoisref09_Sub.f k x0 x1 x2).bind fun t485 => ((galoislaw09_right.f k x9 x10 0 t485).bind fun t488 => (if t488 = true then ((galoisref09_Mul.f k x0 x1 x2).bind fun t489 => ((galoislaw09_right.f k x11 x12 0 t489).bind fun t492 => (some t492))) else (some false)))) else (some false)))) else ((galoislaw09_right.f k x7 x8 t477 ([] : List Int)).bind fun t478 => (if t478 = true then ((galoislaw09_right.f k x9 x10 t477 ([] : List Int)).bind fun t479 => (if t479 = true then ((galoislaw09_right.f k x11 x12 t477 ([] : List Int)).bind fun t480 => (some t480)) else (some false))) else (some false)))))
end
def galoislaw09_PolymodSums.f (k : Nat) (a0 : Int) (l1 : List Int) (l2 : List Int) : Option (Bool) := (galoislaw09_awake.f k).bind fun t458 => (if t458 = true then ((galoislaw09_long.f l1 l2 80).bind fun t459 => (galoislaw09_PolymodSums.j0 k a0 l1 l2 t459)) else (galoislaw09_PolymodSums.j0 k a0 l1 l2 true))
theorem galoislaw09_PolymodSums.mono_l : ∀ k, (∀ y0 y1 y2 y3, LeO (galoislaw09_PolymodSums.j0 k y0 y1 y2 y3) (galoislaw09_PolymodSums.j0 (k + 1) y0 y1 y2 y3)) ∧ (∀ y0 y1 y2 y3 y4 y5 y6 y7 y8 y9, LeO (galoislaw09_PolymodSums.j1 k y0 y1 y2 y3 y4 y5 y6 y7 y8 y9) (galoislaw09_PolymodSums.j1 (k + 1) y0 y1 y2 y3 y4 y5 y6 y7 y8 y9))
 | 0 => ⟨fun _ _ _ _ r h => by simp [galoislaw09_PolymodSums.j0] at h, fun _ _ _ _ _ _ _ _ _ _ r h => by simp [galoislaw09_PolymodSums.j1] at h⟩
 | k + 1 => by
   obtain ⟨ih0, ih1⟩ := galoislaw09_PolymodSums.mono_l k
   refine ⟨?_, ?_⟩
   · intro y0 y1 y2 y3
     unfold galoislaw09_PolymodSums.j0
     repeat' first
     | (with_reducible apply ih0)
     | (with_reducible apply ih1)
     | (with_reducible apply galoislaw09_awake.mono)
     | (with_reducible apply galoislaw09_expected.mono)
     | (with_reducible apply galoislaw09_right.mono)
     | (with_reducible apply galoisref09_Add.mono)
     | (with_reducible apply galoisref09_Check.mono)
     | (with_reducible apply galoisref09_Compare.mono)
     | (with_reducible apply galoisref09_Mul.mono)
     | (with_reducible apply galoisref09_Sub.mono)
     | (with_reducible apply polymod_Add.mono)
     | (with_reducible apply polymod_Check.mono)
     | (with_reducible apply polymod_Compare.mono)
     | (with_reducible apply polymod_Mul.mono)
     | (with_reducible apply polymod_Sub.mono)
     | (with_reducible apply LeO.refl)
     | (with_reducible apply LeO.none)
     | (with_reducible refine LeO.ite ?_ ?_)
     | (with_reducible refine LeO.bind ?_ (fun _ => ?_))
   · intro y0 y1 y2 y3 y4 y5 y6 y7 y8 y9
     unfold galoislaw09_PolymodSums.j1
     repeat' first
     | (with_reducible apply ih0)
     | (with_reducible apply ih1)
     | (with_reducible apply galoislaw09_awake.mono)
     | (with_reducible apply galoislaw09_expected.mono)
     | (with_reducible apply galoislaw09_right.mono)
     | (with_reducible apply galoisref09_Add.mono)
     | (with_reducible apply galoisref09_Check.mono)
     | (with_reducible apply galoisref09_Compare.mono)
     | (with_reducible apply galoisref09_Mul.mono)
     | (with_reducible apply galoisref09_Sub.mono)
     | (with_reducible apply polymod_Add.mono)
     | (with_reducible apply polymod_Check.mono)
     | (with_reducible apply polymod_Compare.mono)
     | (with_reducible apply polymod_Mul.mono)
     | (with_reducible apply polymod_Sub.mono)
     | (with_reducible apply LeO.refl)
     | (with_reducible apply LeO.none)
     | (with_reducible refine LeO.ite ?_ ?_)
     | (with_reducible refine LeO.bind ?_ (fun _ => ?_))
theorem galoislaw09_PolymodSums.mono : ∀ a0 a1 a2 k, LeO (galoislaw09_PolymodSums.f k a0 a1 a2) (galoislaw09_PolymodSums.f (k + 1) a0 a1 a2) := by
 intro a0 a1 a2 k
 obtain ⟨ih0, ih1⟩ := galoislaw09_PolymodSums.mono_l k
 unfold galoislaw09_PolymodSums.f
 repeat' first
  | (with_reducible apply ih0)
  | (with_reducible apply ih1)
  | (with_reducible apply galoislaw09_awake.mono)
  | (with_reducible apply galoislaw09_expected.mono)
  | (with_reducible apply galoislaw09_right.mono)
  | (with_reducible apply galoisref09_Add.mono)
  | (with_reducible apply galoisref09_Check.mono)
  | (with_reducible apply galoisref09_Compare.mono)
  | (with_reducible apply galoisref09_Mul.mono)
  | (with_reducible apply galoisref09_Sub.mono)
  | (with_reducible apply polymod_Add.mono)
  | (with_reducible apply polymod_Check.mono)
  | (with_reducible apply polymod_Compare.mono)
  | (with_reducible apply polymod_Mul.mono)
  | (with_reducible apply polymod_Sub.mono)
  | (with_reducible apply LeO.refl)
  | (with_reducible apply LeO.none)
  | (with_reducible refine LeO.ite ?_ ?_)
  | (with_reducible refine LeO.bind ?_ (fun _ => ?_))
set_option maxHeartbeats 8000000 in
set_option maxRecDepth 100000 in
theorem galoislaw09_PolymodSums.calls (k : Nat) (a0 : Int) (A1 : Option Addr) (c1 : Nat) (l1 : List Int) (A2 : Option Addr) (c2 : Nat) (l2 : List Int) (r : Bool) (w : World) (hr1 : Kd.C (Kd.int .i64) w A1 l1.length l1) (hc1 : l1.length ≤ c1) (hr2 : Kd.C (Kd.int .i64) w A2 l2.length l2) (hc2 : l2.length ≤ c2) (h : galoislaw09_PolymodSums.f k a0 l1 l2 = some r) :
 Calls Try.prog 11 #[.int .i64 a0, .slice A1 l1.length c1, .slice A2 l2.length c2] w fun e w' => e = .returned (.bool r) ∧ Below w.heap.size w w' := by
 have HR1 := Aside0.mk hr1
 have HC1 := Aside0.mk hc1
 clear hr1 hc1
 have HR2 := Aside0.mk hr2
 have HC2 := Aside0.mk hc2
 clear hr2 hc2
 have HB := Aside0.mk (Below.refl w.heap.size w)
 have H : ((galoislaw09_awake.f k).bind fun t458 => (if t458 = true then ((galoislaw09_long.f l1 l2 80).bind fun t459 => (galoislaw09_PolymodSums.j0 k a0 l1 l2 t459)) else (galoislaw09_PolymodSums.j0 k a0 l1 l2 true))) = some r := h
 clear h
 have HC4 := Aside0.mk H
 clear H
 go_enter Try.func11, Try.ntmps11
 go_upto_region 1 with (fail)
 go_cut [20] (fun v20 wc => ∃ (kq : Nat) (x20_3 : Bool), v20 = .bool x20_3 ∧ Aside0 (galoislaw09_PolymodSums.j0 kq a0 l1 l2 x20_3 = some r) ∧ Aside0 (kq ≤ k) ∧ Aside0 (Below w.heap.size w wc))
 case first =>
  have H := HC4.out
  clear HC4
  replace H := Option.bind_eq_some_iff.mp H
  obtain ⟨t458, A50, H⟩ := H
  replace H : (if t458 = true then ((galoislaw09_long.f l1 l2 80).bind fun t459 => (galoislaw09_PolymodSums.j0 k a0 l1 l2 t459)) else (galoislaw09_PolymodSums.j0 k a0 l1 l2 true)) = some r := H
  have A5 := Aside0.mk A50
  clear A50
  by_cases c6 : t458 = true
  · subst c6
    have H1 : ((galoislaw09_long.f l1 l2 80).bind fun t459 => (galoislaw09_PolymodSums.j0 k a0 l1 l2 t459)) = some r := by rw [if_pos rfl] at H; exact H
    clear H
    have H := H1
    clear H1
    replace H := Option.bind_eq_some_iff.mp H
    obtain ⟨t459, A70, H⟩ := H
    replace H : (galoislaw09_PolymodSums.j0 k a0 l1 l2 t459) = some r := H
    have A7 := Aside0.mk A70
    clear A70
    have H' := Aside0.mk H
    clear H
    go_wp2_with (first | ((with_reducible refine gate_callee (f := 13) rfl ?_); refine goesL_ (some 14) rfl rfl Try.func13 (by kernel_rfl) rfl #[] rfl (by (try simp only [mA, mB, mC]); first | done | rfl | (simp only [lD, lT]; rfl)) ?_; (with_reducible refine (galoislaw09_awake.calls k  true _ A5.out).mono ?_); rintro e w8 ⟨rfl, hb⟩; refine ⟨_, rfl, ?_⟩; have n0_ := Aside0.mk (below_step (by with_reducible repeat (first | exact HB.out | apply bA | apply bB | apply bC)) hb); clear HB; have HB := n0_; clear n0_; (try clear hb); (try clear hb2); (try clear hk); (try clear hi)) | (go_at_call 23; (with_reducible refine (galoislaw09_long.calls _ _ l1 _ _ l2 80 t459 _ ?side1 ?side2 ?side3 ?side4 A7.out).mono ?_); (case side1 => repeat (first | exact (Kd.C_below HR1.out HB.out) | (with_reducible refine Kd.C_alloc ?_ _) | (with_reducible refine Kd.C_drewN ?_ _) | (with_reducible refine Kd.C_drew ?_))); (case side2 => exact HC1.out); (case side3 => repeat (first | exact (Kd.C_below HR2.out HB.out) | (with_reducible refine Kd.C_alloc ?_ _) | (with_reducible refine Kd.C_drewN ?_ _) | (with_reducible refine Kd.C_drew ?_))); (case side4 => exact HC2.out); rintro e w' ⟨rfl, ⟨nd, rfl⟩⟩))
    go_meet
    case rel => exact ⟨_, (t459), (by first | rfl | (simp; done) | (simp [*]; done)), H', ⟨by first | omega | exact Nat.le_refl _⟩, ⟨by with_reducible repeat (first | exact HB.out | apply bA | apply bB | apply bC)⟩⟩
  · replace c6 := Bool.eq_false_iff.mpr c6
    subst c6
    have H1 : (galoislaw09_PolymodSums.j0 k a0 l1 l2 true) = some r := by rw [if_neg (show ¬ (false = true) by decide)] at H; exact H
    clear H
    have H := H1
    clear H1
    have H' := Aside0.mk H
    clear H
    go_wp2_with (first | ((with_reducible refine gate_callee (f := 13) rfl ?_); refine goesL_ (some 14) rfl rfl Try.func13 (by kernel_rfl) rfl #[] rfl (by (try simp only [mA, mB, mC]); first | done | rfl | (simp only [lD, lT]; rfl)) ?_; (with_reducible refine (galoislaw09_awake.calls k  false _ A5.out).mono ?_); rintro e w9 ⟨rfl, hb⟩; refine ⟨_, rfl, ?_⟩; have n0_ := Aside0.mk (below_step (by with_reducible repeat (first | exact HB.out | apply bA | apply bB | apply bC)) hb); clear HB; have HB := n0_; clear n0_; (try clear hb); (try clear hb2); (try clear hk); (try clear hi)))
    go_meet
    case rel => exact ⟨_, (true), (by first | rfl | (simp; done) | (simp [*]; done)), H', ⟨by first | omega | exact Nat.le_refl _⟩, ⟨by with_reducible repeat (first | exact HB.out | apply bA | apply bB | apply bC)⟩⟩
 case rest =>
  clear HC4
  try clear c1
  try clear c2
  try clear p2
  try clear c6
  obtain ⟨kq, x20_3, rfl, HA, HJ3, HB⟩ := hcut
  cases kq with
  | zero => exact absurd HA.out (by simp [galoislaw09_PolymodSums.j0])
  | succ kj3 =>
    have H := HA.out
    clear HA
    simp only [galoislaw09_PolymodSums.j0] at H
    by_cases c10 : x20_3 = true
    · subst c10
      have H1 : ((galoislaw09_awake.f kj3).bind fun t460 => (some t460)) = some r := by rw [if_pos rfl] at H; exact H
      clear H
      have H := H1
      clear H1
      replace H := Option.bind_eq_some_iff.mp H
      obtain ⟨t460, A110, H⟩ := H
      replace H : (some t460) = some r := H
      have A11 := Aside0.mk A110
      clear A110
      obtain rfl := Option.some.inj H
      go_wp2_with (first | ((with_reducible refine gate_callee (f := 13) rfl ?_); refine goesL_ (some 21) rfl rfl Try.func13 (by kernel_rfl) rfl #[] rfl (by (try simp only [mA, mB, mC]); first | done | rfl | (simp only [lD, lT]; rfl)) ?_; (with_reducible refine (galoislaw09_awake.calls kj3  t460 _ A11.out).mono ?_); rintro e w12 ⟨rfl, hb⟩; refine ⟨_, rfl, ?_⟩; have n0_ := Aside0.mk (below_step (by with_reducible repeat (first | exact HB.out | apply bA | apply bB | apply bC)) hb); clear HB; have HB := n0_; clear n0_; (try clear hb); (try clear hb2); (try clear hk); (try clear hi)))
      go_ret
      exact ⟨by first | rfl | (simp [errW_none, errW_some] <;> rfl) | (simp [*, errW_none, errW_some] <;> rfl), by with_reducible repeat (first | exact HB.out | apply bA | apply bB | apply bC)⟩
    · replace c10 := Bool.eq_false_iff.mpr c10
      subst c10
      have H1 : ((polymod_Add.f kj3 a0 l1 l2).bind fun bt461 => ((polymod_Sub.f kj3 a0 l1 l2).bind fun bt465 => ((polymod_Mul.f kj3 a0 l1 l2).bind fun bt469 => ((polymod_Check.f kj3 a0 l1).bind fun t473 => ((galoisref09_Check.f kj3 a0 l1).bind fun t474 => (if t473 = t474 then ((polymod_Compare.f kj3 l1 l2).bind fun t475 => ((galoisref09_Compare.f kj3 l1 l2).bind fun t476 => (galoislaw09_PolymodSums.j1 kj3 a0 l1 l2 bt461.1 bt461.2 bt465.1 bt465.2 bt469.1 bt469.2 (t475 != t476)))) else (galoislaw09_PolymodSums.j1 kj3 a0 l1 l2 bt461.1 bt461.2 bt465.1 bt465.2 bt469.1 bt469.2 true))))))) = some r := by rw [if_neg (show ¬ (false = true) by decide)] at H; exact H
      clear H
      have H := H1
      clear H1
      replace H := Option.bind_eq_some_iff.mp H
      obtain ⟨⟨t461, t464⟩, A130, H⟩ := H
      replace H : ((polymod_Sub.f kj3 a0 l1 l2).bind fun bt465 => ((polymod_Mul.f kj3 a0 l1 l2).bind fun bt469 => ((polymod_Check.f kj3 a0 l1).bind fun t473 => ((galoisref09_Check.f kj3 a0 l1).bind fun t474 => (if t473 = t474 then ((polymod_Compare.f kj3 l1 l2).bind fun t475 => ((galoisref09_Compare.f kj3 l1 l2).bind fun t476 => (galoislaw09_PolymodSums.j1 kj3 a0 l1 l2 t461 t464 bt465.1 bt465.2 bt469.1 bt469.2 (t475 != t476)))) else (galoislaw09_PolymodSums.j1 kj3 a0 l1 l2 t461 t464 bt465.1 bt465.2 bt469.1 bt469.2 true)))))) = some r := H
      have A13 := Aside0.mk A130
      clear A130
      replace H := Option.bind_eq_some_iff.mp H
      obtain ⟨⟨t465, t468⟩, A140, H⟩ := H
      replace H : ((polymod_Mul.f kj3 a0 l1 l2).bind fun bt469 => ((polymod_Check.f kj3 a0 l1).bind fun t473 => ((galoisref09_Check.f kj3 a0 l1).bind fun t474 => (if t473 = t474 then ((polymod_Compare.f kj3 l1 l2).bind fun t475 => ((galoisref09_Compare.f kj3 l1 l2).bind fun t476 => (galoislaw09_PolymodSums.j1 kj3 a0 l1 l2 t461 t464 t465 t468 bt469.1 bt469.2 (t475 != t476)))) else (galoislaw09_PolymodSums.j1 kj3 a0 l1 l2 t461 t464 t465 t468 bt469.1 bt469.2 true))))) = some r := H
      have A14 := Aside0.mk A140
      clear A140
      replace H := Option.bind_eq_some_iff.mp H
      obtain ⟨⟨t469, t472⟩, A150, H⟩ := H
      replace H : ((polymod_Check.f kj3 a0 l1).bind fun t473 => ((galoisref09_Check.f kj3 a0 l1).bind fun t474 => (if t473 = t474 then ((polymod_Compare.f kj3 l1 l2).bind fun t475 => ((galoisref09_Compare.f kj3 l1 l2).bind fun t476 => (galoislaw09_PolymodSums.j1 kj3 a0 l1 l2 t461 t464 t465 t468 t469 t472 (t475 != t476)))) else (galoislaw09_PolymodSums.j1 kj3 a0 l1 l2 t461 t464 t465 t468 t469 t472 true)))) = some r := H
      have A15 := Aside0.mk A150
      clear A150
      have HC16 := Aside0.mk H
      clear H
      go_upto_region 6 with (first | ((with_reducible refine gate_callee (f := 36) rfl ?_); refine goesL_ (some 26) rfl rfl Try.func36 (by kernel_rfl) rfl #[.int .i64 a0, .slice A1 l1.length c1, .slice A2 l2.length c2] rfl (by (try simp only [mA, mB, mC]); first | done | rfl | (simp only [lD, lT]; rfl)) ?_; (with_reducible refine (polymod_Add.calls kj3 a0 (fun k_ => k_ < w.heap.size) _ _ l1 (fun k_ => k_ < w.heap.size) _ _ l2 t461 t464 _ ?side1 ?side2 A13.out).mono ?_); (case side1 => exact Kd.V_mk HC1.out (Kd.F_below (Kd.C_F (Kd.heap_int .i64) HR1.out) (by with_reducible repeat (first | exact HB.out | apply bA | apply bB | apply bC)))); (case side2 => exact Kd.V_mk HC2.out (Kd.F_below (Kd.C_F (Kd.heap_int .i64) HR2.out) (by with_reducible repeat (first | exact HB.out | apply bA | apply bB | apply bC)))); rintro e w17 ⟨v462, rfl, ho0, hb⟩; refine ⟨_, rfl, ?_⟩; have n0_ := Aside0.mk (Kd.V_lower (Kd.V_mono (ok' := fun k_ => True) ho0 (fun k_ hk_ => trivial)) (below_size (by with_reducible repeat (first | exact HB.out | apply bA | apply bB | apply bC)))); have n1_ := Aside0.mk (below_step (by with_reducible repeat (first | exact HB.out | apply bA | apply bB | apply bC)) hb); clear HB; have HO463 := n0_; have HB := n1_; clear n0_ n1_; (try clear hb); (try clear hb2); (try clear hk); (try clear hi); (try clear ho0)) | ((with_reducible refine gate_callee (f := 21) rfl ?_); refine goesL_ (some 33) rfl rfl Try.func21 (by kernel_rfl) rfl #[.int .i64 a0, .slice A1 l1.length c1, .slice A2 l2.length c2] rfl (by (try simp only [mA, mB, mC]); first | done | rfl | (simp only [lD, lT]; rfl)) ?_; (with_reducible refine (polymod_Sub.calls kj3 a0 (fun k_ => k_ < w.heap.size) _ _ l1 (fun k_ => k_ < w.heap.size) _ _ l2 t465 t468 _ ?side1 ?side2 A14.out).mono ?_); (case side1 => exact Kd.V_mk HC1.out (Kd.F_below (Kd.C_F (Kd.heap_int .i64) HR1.out) (by with_reducible repeat (first | exact HB.out | apply bA | apply bB | apply bC)))); (case side2 => exact Kd.V_mk HC2.out (Kd.F_below (Kd.C_F (Kd.heap_int .i64) HR2.out) (by with_reducible repeat (first | exact HB.out | apply bA | apply bB | apply bC)))); rintro e w18 ⟨v466, rfl, ho0, hb⟩; refine ⟨_, rfl, ?_⟩; have n0_ := Aside0.mk (Kd.V_below (by (with_reducible repeat (first | apply vA | apply vB | apply vC)); exact HO463.out) hb); have n1_ := Aside0.mk (Kd.V_lower (Kd.V_mono (ok' := fun k_ => True) ho0 (fun k_ hk_ => trivial)) (below_size (by with_reducible repeat (first | exact HB.out | apply bA | apply bB | apply bC)))); have n2_ := Aside0.mk (below_step (by with_reducible repeat (first | exact HB.out | apply bA | apply bB | apply bC)) hb); clear HO463; clear HB; have HO463 := n0_; have HO467 := n1_; have HB := n2_; clear n0_ n1_ n2_; (try clear hb); (try clear hb2); (try clear hk); (try clear hi); (try clear ho0)) | ((with_reducible refine gate_callee (f := 18) rfl ?_); refine goesL_ (some 40) rfl rfl Try.func18 (by kernel_rfl) rfl #[.int .i64 a0, .slice A1 l1.length c1, .slice A2 l2.length c2] rfl (by (try simp only [mA, mB, mC]); first | done | rfl | (simp only [lD, lT]; rfl)) ?_; (with_reducible refine (polymod_Mul.calls kj3 a0 (fun k_ => k_ < w.heap.size) _ _ l1 (fun k_ => k_ < w.heap.size) _ _ l2 t469 t472 _ ?side1 ?side2 A15.out).mono ?_); (case side1 => exact Kd.V_mk HC1.out (Kd.F_below (Kd.C_F (Kd.heap_int .i64) HR1.out) (by with_reducible repeat (first | exact HB.out | apply bA | apply bB | apply bC)))); (case side2 => exact Kd.V_mk HC2.out (Kd.F_below (Kd.C_F (Kd.heap_int .i64) HR2.out) (by with_reducible repeat (first | exact HB.out | apply bA | apply bB | apply bC)))); rintro e w19 ⟨v470, rfl, ho0, hb⟩; refine ⟨_, rfl, ?_⟩; have n0_ := Aside0.mk (Kd.V_below (by (with_reducible repeat (first | apply vA | apply vB | apply vC)); exact HO463.out) hb); have n1_ := Aside0.mk (Kd.V_below (by (with_reducible repeat (first | apply vA | apply vB | apply vC)); exact HO467.out) hb); have n2_ := Aside0.mk (Kd.V_lower (Kd.V_mono (ok' := fun k_ => True) ho0 (fun k_ hk_ => trivial)) (below_size (by with_reducible repeat (first | exact HB.out | apply bA | apply bB | apply bC)))); have n3_ := Aside0.mk (below_step (by with_reducible repeat (first | exact HB.out | apply bA | apply bB | apply bC)) hb); clear HO463; clear HO467; clear HB; have HO463 := n0_; have HO467 := n1_; have HO471 := n2_; have HB := n3_; clear n0_ n1_ n2_ n3_; (try clear hb); (try clear hb2); (try clear hk); (try clear hi); (try clear ho0)))
      (try simp only [Act.put, List.setIfInBounds_toArray, List.set_cons_zero, List.set_cons_succ])
      go_cut [58] (fun v58 wc => ∃ (kq : Nat) (x58_15 : Bool), v58 = .bool x58_15 ∧ Aside0 (galoislaw09_PolymodSums.j1 kq a0 l1 l2 t461 t464 t465 t468 t469 t472 x58_15 = some r) ∧ Aside0 (kq ≤ kj3) ∧ Aside0 (Kd.V (Kd.int .i64) 3 wc w.heap.size (fun _ => True) v462 t461) ∧ Aside0 (Kd.V (Kd.int .i64) 3 wc w.heap.size (fun _ => True) v466 t465) ∧ Aside0 (Kd.V (Kd.int .i64) 3 wc w.heap.size (fun _ => True) v470 t469) ∧ Aside0 (Below w.heap.size w wc))
      case first =>
       have H := HC16.out
       clear HC16
       replace H := Option.bind_eq_some_iff.mp H
       obtain ⟨t473, A200, H⟩ := H
       replace H : ((galoisref09_Check.f kj3 a0 l1).bind fun t474 => (if t473 = t474 then ((polymod_Compare.f kj3 l1 l2).bind fun t475 => ((galoisref09_Compare.f kj3 l1 l2).bind fun t476 => (galoislaw09_PolymodSums.j1 kj3 a0 l1 l2 t461 t464 t465 t468 t469 t472 (t475 != t476)))) else (galoislaw09_PolymodSums.j1 kj3 a0 l1 l2 t461 t464 t465 t468 t469 t472 true))) = some r := H
       have A20 := Aside0.mk A200
       clear A200
       replace H := Option.bind_eq_some_iff.mp H
       obtain ⟨t474, A210, H⟩ := H
       replace H : (if t473 = t474 then ((polymod_Compare.f kj3 l1 l2).bind fun t475 => ((galoisref09_Compare.f kj3 l1 l2).bind fun t476 => (galoislaw09_PolymodSums.j1 kj3 a0 l1 l2 t461 t464 t465 t468 t469 t472 (t475 != t476)))) else (galoislaw09_PolymodSums.j1 kj3 a0 l1 l2 t461 t464 t465 t468 t469 t472 true)) = some r := H
       have A21 := Aside0.mk A210
       clear A210
       by_cases c22 : t473 = t474
       · rw [if_pos c22] at H
         have c22b0 : (t473 == t474) = true := beq_iff_eq.mpr c22
         have c22b1 : (t473 != t474) = false := bne_eq_false_iff_eq.mpr c22
         clear c22
         (first | rw [c22b0] | (simp only [i64_w, i32_w]; rw [c22b0]) | skip)
         replace H := Option.bind_eq_some_iff.mp H
         obtain ⟨t475, A230, H⟩ := H
         replace H : ((galoisref09_Compare.f kj3 l1 l2).bind fun t476 => (galoislaw09_PolymodSums.j1 kj3 a0 l1 l2 t461 t464 t465 t468 t469 t472 (t475 != t476))) = some r := H
         have A23 := Aside0.mk A230
         clear A230
         replace H := Option.bind_eq_some_iff.mp H
         obtain ⟨t476, A240, H⟩ := H
         replace H : (galoislaw09_PolymodSums.j1 kj3 a0 l1 l2 t461 t464 t465 t468 t469 t472 (t475 != t476)) = some r := H
         have A24 := Aside0.mk A240
         clear A240
         have H' := Aside0.mk H
         clear H
         go_wp2_with (first | ((with_reducible refine gate_callee (f := 47) rfl ?_); refine goesL_ (some 45) rfl rfl Try.func47 (by kernel_rfl) rfl #[.int .i64 a0, .slice A1 l1.length c1] rfl (by (try simp only [mA, mB, mC]); first | done | rfl | (simp only [lD, lT]; rfl)) ?_; (with_reducible refine (polymod_Check.calls kj3 a0 _ _ l1 t473 _ ?side1 ?side2 A20.out).mono ?_); (case side1 => repeat (first | exact (Kd.C_below HR1.out HB.out) | (with_reducible refine Kd.C_alloc ?_ _) | (with_reducible refine Kd.C_drewN ?_ _) | (with_reducible refine Kd.C_drew ?_))); (case side2 => exact HC1.out); rintro e w25 ⟨rfl, hb⟩; refine ⟨_, rfl, ?_⟩; have n0_ := Aside0.mk (Kd.V_below (by (with_reducible repeat (first | apply vA | apply vB | apply vC)); exact HO463.out) hb); have n1_ := Aside0.mk (Kd.V_below (by (with_reducible repeat (first | apply vA | apply vB | apply vC)); exact HO467.out) hb); have n2_ := Aside0.mk (Kd.V_below (by (with_reducible repeat (first | apply vA | apply vB | apply vC)); exact HO471.out) hb); have n3_ := Aside0.mk (below_step (by with_reducible repeat (first | exact HB.out | apply bA | apply bB | apply bC)) hb); clear HO463; clear HO467; clear HO471; clear HB; have HO463 := n0_; have HO467 := n1_; have HO471 := n2_; have HB := n3_; clear n0_ n1_ n2_ n3_; (try clear hb); (try clear hb2); (try clear hk); (try clear hi)) | ((with_reducible refine gate_callee (f := 15) rfl ?_); refine goesL_ (some 48) rfl rfl Try.func15 (by kernel_rfl) rfl #[.int .i64 a0, .slice A1 l1.length c1] rfl (by (try simp only [mA, mB, mC]); first | done | rfl | (simp only [lD, lT]; rfl)) ?_; (with_reducible refine (galoisref09_Check.calls kj3 a0 _ _ l1 t474 _ ?side1 ?side2 A21.out).mono ?_); (case side1 => repeat (first | exact (Kd.C_below HR1.out HB.out) | (with_reducible refine Kd.C_alloc ?_ _) | (with_reducible refine Kd.C_drewN ?_ _) | (with_reducible refine Kd.C_drew ?_))); (case side2 => exact HC1.out); rintro e w' ⟨rfl, ⟨nd, rfl⟩⟩; refine ⟨_, rfl, ?_⟩) | (go_at_call 48; (with_reducible refine (polymod_Compare.calls kj3 _ _ l1 _ _ l2 t475 _ ?side1 ?side2 ?side3 ?side4 A23.out).mono ?_); (case side1 => repeat (first | exact (Kd.C_below HR1.out (by with_reducible repeat (first | exact HB.out | apply bA | apply bB | apply bC))) | (with_reducible refine Kd.C_alloc ?_ _) | (with_reducible refine Kd.C_drewN ?_ _) | (with_reducible refine Kd.C_drew ?_))); (case side2 => exact HC1.out); (case side3 => repeat (first | exact (Kd.C_below HR2.out (by with_reducible repeat (first | exact HB.out | apply bA | apply bB | apply bC))) | (with_reducible refine Kd.C_alloc ?_ _) | (with_reducible refine Kd.C_drewN ?_ _) | (with_reducible refine Kd.C_drew ?_))); (case side4 => exact HC2.out); rintro e w' ⟨rfl, ⟨nd, rfl⟩⟩) | (go_at_call 49; (with_reducible refine (galoisref09_Compare.calls kj3 _ _ l1 _ _ l2 t476 _ ?side1 ?side2 ?side3 ?side4 A24.out).mono ?_); (case side1 => repeat (first | exact (Kd.C_below HR1.out (by with_reducible repeat (first | exact HB.out | apply bA | apply bB | apply bC))) | (with_reducible refine Kd.C_alloc ?_ _) | (with_reducible refine Kd.C_drewN ?_ _) | (with_reducible refine Kd.C_drew ?_))); (case side2 => exact HC1.out); (case side3 => repeat (first | exact (Kd.C_below HR2.out (by with_reducible repeat (first | exact HB.out | apply bA | apply bB | apply bC))) | (with_reducible refine Kd.C_alloc ?_ _) | (with_reducible refine Kd.C_drewN ?_ _) | (with_reducible refine Kd.C_drew ?_))); (case side4 => exact HC2.out); rintro e w' ⟨rfl, ⟨nd, rfl⟩⟩))
         go_meet
         case rel => exact ⟨_, ((t475 != t476)), (by first | rfl | (simp; done) | (simp [*]; done)), H', ⟨by have := HJ3.out; first | omega | exact Nat.le_refl _⟩, ⟨by (with_reducible repeat (first | apply vA | apply vB | apply vC)); exact HO463.out⟩, ⟨by (with_reducible repeat (first | apply vA | apply vB | apply vC)); exact HO467.out⟩, ⟨by (with_reducible repeat (first | apply vA | apply vB | apply vC)); exact HO471.out⟩, ⟨by with_reducible repeat (first | exact HB.out | apply bA | apply bB | apply bC)⟩⟩
       · rw [if_neg c22] at H
         have c22b0 : (t473 == t474) = false := beq_eq_false_iff_ne.mpr c22
         have c22b1 : (t473 != t474) = true := bne_iff_ne.mpr c22
         (first | rw [c22b0] | (simp only [i64_w, i32_w]; rw [c22b0]) | skip)
         have H' := Aside0.mk H
         clear H
         go_wp2_with (first | ((with_reducible refine gate_callee (f := 47) rfl ?_); refine goesL_ (some 45) rfl rfl Try.func47 (by kernel_rfl) rfl #[.int .i64 a0, .slice A1 l1.length c1] rfl (by (try simp only [mA, mB, mC]); first | done | rfl | (simp only [lD, lT]; rfl)) ?_; (with_reducible refine (polymod_Check.calls kj3 a0 _ _ l1 t473 _ ?side1 ?side2 A20.out).mono ?_); (case side1 => repeat (first | exact (Kd.C_below HR1.out HB.out) | (with_reducible refine Kd.C_alloc ?_ _) | (with_reducible refine Kd.C_drewN ?_ _) | (with_reducible refine Kd.C_drew ?_))); (case side2 => exact HC1.out); rintro e w26 ⟨rfl, hb⟩; refine ⟨_, rfl, ?_⟩; have n0_ := Aside0.mk (Kd.V_below (by (with_reducible repeat (first | apply vA | apply vB | apply vC)); exact HO463.out) hb); have n1_ := Aside0.mk (Kd.V_below (by (with_reducible repeat (first | apply vA | apply vB | apply vC)); exact HO467.out) hb); have n2_ := Aside0.mk (Kd.V_below (by (with_reducible repeat (first | apply vA | apply vB | apply vC)); exact HO471.out) hb); have n3_ := Aside0.mk (below_step (by with_reducible repeat (first | exact HB.out | apply bA | apply bB | apply bC)) hb); clear HO463; clear HO467; clear HO471; clear HB; have HO463 := n0_; have HO467 := n1_; have HO471 := n2_; have HB := n3_; clear n0_ n1_ n2_ n3_; (try clear hb); (try clear hb2); (try clear hk); (try clear hi)) | ((with_reducible refine gate_callee (f := 15) rfl ?_); refine goesL_ (some 48) rfl rfl Try.func15 (by kernel_rfl) rfl #[.int .i64 a0, .slice A1 l1.length c1] rfl (by (try simp only [mA, mB, mC]); first | done | rfl | (simp only [lD, lT]; rfl)) ?_; (with_reducible refine (galoisref09_Check.calls kj3 a0 _ _ l1 t474 _ ?side1 ?side2 A21.out).mono ?_); (case side1 => repeat (first | exact (Kd.C_below HR1.out HB.out) | (with_reducible refine Kd.C_alloc ?_ _) | (with_reducible refine Kd.C_drewN ?_ _) | (with_reducible refine Kd.C_drew ?_))); (case side2 => exact HC1.out); rintro e w' ⟨rfl, ⟨nd, rfl⟩⟩; refine ⟨_, rfl, ?_⟩))
         go_meet
         case rel => exact ⟨_, (true), (by first | rfl | (simp; done) | (simp [*]; done)), H', ⟨by have := HJ3.out; first | omega | exact Nat.le_refl _⟩, ⟨by (with_reducible repeat (first | apply vA | apply vB | apply vC)); exact HO463.out⟩, ⟨by (with_reducible repeat (first | apply vA | apply vB | apply vC)); exact HO467.out⟩, ⟨by (with_reducible repeat (first | apply vA | apply vB | apply vC)); exact HO471.out⟩, ⟨by with_reducible repeat (first | exact HB.out | apply bA | apply bB | apply bC)⟩⟩
      case rest =>
       clear HC16
       try clear c1
       try clear c2
       try clear p2
       try clear c3
       try clear c4
       try clear c6
       try clear c10
       try clear c11
       try clear c13
       try clear c15
       try clear c18
       try clear c21
       try clear c22
       try clear c22b0
       try clear c22b1
       try clear p2
       obtain ⟨kq, x58_15, rfl, HA, HJ15, HO_7, HO_9, HO_11, HB⟩ := hcut
       cases kq with
       | zero => exact absurd HA.out (by simp [galoislaw09_PolymodSums.j1])
       | succ kj15 =>
         have H := HA.out
         clear HA
         simp only [galoislaw09_PolymodSums.j1] at H
         by_cases c27 : x58_15 = true
         · subst c27
           have H1 : (some false) = some r := by rw [if_pos rfl] at H; exact H
           clear H
           have H := H1
           clear H1
           obtain rfl := Option.some.inj H
           go_wp2
           go_ret
           exact ⟨by first | rfl | (simp [errW_none, errW_some] <;> rfl) | (simp [*, errW_none, errW_some] <;> rfl), by with_reducible repeat (first | exact HB.out | apply bA | apply bB | apply bC)⟩
         · replace c27 := Bool.eq_false_iff.mpr c27
           subst c27
           have H1 : ((galoislaw09_expected.f kj15 a0 l1 l2).bind fun t477 => (if t477 = 0 then ((galoisref09_Add.f kj15 a0 l1 l2).bind fun t481 => ((galoislaw09_right.f kj15 t461 t464 0 t481).bind fun t484 => (if t484 = true then ((galoisref09_Sub.f kj15 a0 l1 l2).bind fun t485 => ((galoislaw09_right.f kj15 t465 t468 0 t485).bind fun t488 => (if t488 = true then ((galoisref09_Mul.f kj15 a0 l1 l2).bind fun t489 => ((galoislaw09_right.f kj15 t469 t472 0 t489).bind fun t492 => (some t492))) else (some false)))) else (some false)))) else ((galoislaw09_right.f kj15 t461 t464 t477 ([] : List Int)).bind fun t478 => (if t478 = true then ((galoislaw09_right.f kj15 t465 t468 t477 ([] : List Int)).bind fun t479 => (if t479 = true then ((galoislaw09_right.f kj15 t469 t472 t477 ([] : List Int)).bind fun t480 => (some t480)) else (some false))) else (some false))))) = some r := by rw [if_neg (show ¬ (false = true) by decide)] at H; exact H
           clear H
           have H := H1
           clear H1
           replace H := Option.bind_eq_some_iff.mp H
           obtain ⟨t477, A280, H⟩ := H
           replace H : (if t477 = 0 then ((galoisref09_Add.f kj15 a0 l1 l2).bind fun t481 => ((galoislaw09_right.f kj15 t461 t464 0 t481).bind fun t484 => (if t484 = true then ((galoisref09_Sub.f kj15 a0 l1 l2).bind fun t485 => ((galoislaw09_right.f kj15 t465 t468 0 t485).bind fun t488 => (if t488 = true then ((galoisref09_Mul.f kj15 a0 l1 l2).bind fun t489 => ((galoislaw09_right.f kj15 t469 t472 0 t489).bind fun t492 => (some t492))) else (some false)))) else (some false)))) else ((galoislaw09_right.f kj15 t461 t464 t477 ([] : List Int)).bind fun t478 => (if t478 = true then ((galoislaw09_right.f kj15 t465 t468 t477 ([] : List Int)).bind fun t479 => (if t479 = true then ((galoislaw09_right.f kj15 t469 t472 t477 ([] : List Int)).bind fun t480 => (some t480)) else (some false))) else (some false)))) = some r := H
           have A28 := Aside0.mk A280
           clear A280
           by_cases c29 : t477 = 0
           · rw [if_pos c29] at H
             have c29b0 : (t477 == 0) = true := beq_iff_eq.mpr c29
             have c29b1 : (t477 != 0) = false := bne_eq_false_iff_eq.mpr c29
             clear c29
             replace H := Option.bind_eq_some_iff.mp H
             obtain ⟨t481, A300, H⟩ := H
             replace H : ((galoislaw09_right.f kj15 t461 t464 0 t481).bind fun t484 => (if t484 = true then ((galoisref09_Sub.f kj15 a0 l1 l2).bind fun t485 => ((galoislaw09_right.f kj15 t465 t468 0 t485).bind fun t488 => (if t488 = true then ((galoisref09_Mul.f kj15 a0 l1 l2).bind fun t489 => ((galoislaw09_right.f kj15 t469 t472 0 t489).bind fun t492 => (some t492))) else (some false)))) else (some false))) = some r := H
             have A30 := Aside0.mk A300
             clear A300
             replace H := Option.bind_eq_some_iff.mp H
             obtain ⟨t484, A310, H⟩ := H
             replace H : (if t484 = true then ((galoisref09_Sub.f kj15 a0 l1 l2).bind fun t485 => ((galoislaw09_right.f kj15 t465 t468 0 t485).bind fun t488 => (if t488 = true then ((galoisref09_Mul.f kj15 a0 l1 l2).bind fun t489 => ((galoislaw09_right.f kj15 t469 t472 0 t489).bind fun t492 => (some t492))) else (some false)))) else (some false)) = some r := H
             have A31 := Aside0.mk A310
             clear A310
             by_cases c32 : t484 = true
             · subst c32
               have H1 : ((galoisref09_Sub.f kj15 a0 l1 l2).bind fun t485 => ((galoislaw09_right.f kj15 t465 t468 0 t485).bind fun t488 => (if t488 = true then ((galoisref09_Mul.f kj15 a0 l1 l2).bind fun t489 => ((galoislaw09_right.f kj15 t469 t472 0 t489).bind fun t492 => (some t492))) else (some false)))) = some r := by rw [if_pos rfl] at H; exact H
               clear H
               have H := H1
               clear H1
               replace H := Option.bind_eq_some_iff.mp H
               obtain ⟨t485, A330, H⟩ := H
               replace H : ((galoislaw09_right.f kj15 t465 t468 0 t485).bind fun t488 => (if t488 = true then ((galoisref09_Mul.f kj15 a0 l1 l2).bind fun t489 => ((galoislaw09_right.f kj15 t469 t472 0 t489).bind fun t492 => (some t492))) else (some false))) = some r := H
               have A33 := Aside0.mk A330
               clear A330
               replace H := Option.bind_eq_some_iff.mp H
               obtain ⟨t488, A340, H⟩ := H
               replace H : (if t488 = true then ((galoisref09_Mul.f kj15 a0 l1 l2).bind fun t489 => ((galoislaw09_right.f kj15 t469 t472 0 t489).bind fun t492 => (some t492))) else (some false)) = some r := H
               have A34 := Aside0.mk A340
               clear A340
               by_cases c35 : t488 = true
               · subst c35
                 have H1 : ((galoisref09_Mul.f kj15 a0 l1 l2).bind fun t489 => ((galoislaw09_right.f kj15 t469 t472 0 t489).bind fun t492 => (some t492))) = some r := by rw [if_pos rfl] at H; exact H
                 clear H
                 have H := H1
                 clear H1
                 replace H := Option.bind_eq_some_iff.mp H
                 obtain ⟨t489, A360, H⟩ := H
                 replace H : ((galoislaw09_right.f kj15 t469 t472 0 t489).bind fun t492 => (some t492)) = some r := H
                 have A36 := Aside0.mk A360
                 clear A360
                 replace H := Option.bind_eq_some_iff.mp H
                 obtain ⟨t492, A370, H⟩ := H
                 replace H : (some t492) = some r := H
                 have A37 := Aside0.mk A370
                 clear A370
                 obtain rfl := Option.some.inj H
                 go_wp2_with (first | ((with_reducible refine gate_callee (f := 25) rfl ?_); refine goesL_ (some 62) rfl rfl Try.func25 (by kernel_rfl) rfl #[.int .i64 a0, .slice A1 l1.length c1, .slice A2 l2.length c2] rfl (by (try simp only [mA, mB, mC]); first | done | rfl | (simp only [lD, lT]; rfl)) ?_; (with_reducible refine (galoislaw09_expected.calls kj15 a0 _ _ l1 _ _ l2 t477 _ ?side1 ?side2 ?side3 ?side4 A28.out).mono ?_); (case side1 => repeat (first | exact (Kd.C_below HR1.out HB.out) | (with_reducible refine Kd.C_alloc ?_ _) | (with_reducible refine Kd.C_drewN ?_ _) | (with_reducible refine Kd.C_drew ?_))); (case side2 => exact HC1.out); (case side3 => repeat (first | exact (Kd.C_below HR2.out HB.out) | (with_reducible refine Kd.C_alloc ?_ _) | (with_reducible refine Kd.C_drewN ?_ _) | (with_reducible refine Kd.C_drew ?_))); (case side4 => exact HC2.out); rintro e w' ⟨rfl, ⟨nd, rfl⟩⟩; refine ⟨_, rfl, ?_⟩) | ((with_reducible refine gate_callee (f := 50) rfl ?_); refine goesL_ (some 86) rfl rfl Try.func50 (by kernel_rfl) rfl #[.int .i64 a0, .slice A1 l1.length c1, .slice A2 l2.length c2] rfl (by (try simp only [mA, mB, mC]); first | done | rfl | (simp only [lD, lT]; rfl)) ?_; (with_reducible refine (galoisref09_Add.calls kj15 a0 _ _ l1 _ _ l2 t481 _ ?side1 ?side2 ?side3 ?side4 A30.out).mono ?_); (case side1 => repeat (first | exact (Kd.C_below HR1.out (by with_reducible repeat (first | exact HB.out | apply bA | apply bB | apply bC))) | (with_reducible refine Kd.C_alloc ?_ _) | (with_reducible refine Kd.C_drewN ?_ _) | (with_reducible refine Kd.C_drew ?_))); (case side2 => exact HC1.out); (case side3 => repeat (first | exact (Kd.C_below HR2.out (by with_reducible repeat (first | exact HB.out | apply bA | apply bB | apply bC))) | (with_reducible refine Kd.C_alloc ?_ _) | (with_reducible refine Kd.C_drewN ?_ _) | (with_reducible refine Kd.C_drew ?_))); (case side4 => exact HC2.out); rintro e w38 ⟨v482, rfl, ho0, hb⟩; refine ⟨_, rfl, ?_⟩; have n0_ := Aside0.mk (Kd.V_below (by (with_reducible repeat (first | apply vA | apply vB | apply vC)); exact HO_7.out) hb); have n1_ := Aside0.mk (Kd.V_below (by (with_reducible repeat (first | apply vA | apply vB | apply vC)); exact HO_9.out) hb); have n2_ := Aside0.mk (Kd.V_below (by (with_reducible repeat (first | apply vA | apply vB | apply vC)); exact HO_11.out) hb); have n3_ := Aside0.mk (Kd.V_lower (Kd.V_mono (ok' := fun k_ => True) ho0 (fun k_ hk_ => trivial)) (below_size (by with_reducible repeat (first | exact HB.out | apply bA | apply bB | apply bC)))); have n4_ := Aside0.mk (below_step (by with_reducible repeat (first | exact HB.out | apply bA | apply bB | apply bC)) hb); clear HO_7; clear HO_9; clear HO_11; clear HB; have HO_7 := n0_; have HO_9 := n1_; have HO_11 := n2_; have HO483 := n3_; have HB := n4_; clear n0_ n1_ n2_ n3_ n4_; (try clear hb); (try clear hb2); (try clear hk); (try clear hi); (try clear ho0); obtain ⟨Ao39, co39, eo39⟩ := Kd.V_slice HO_7.out; subst eo39; obtain ⟨Ao40, co40, eo40⟩ := Kd.V_slice HO483.out; subst eo40) | ((with_reducible refine gate_callee (f := 26) rfl ?_); refine goesL_ (some 87) rfl rfl Try.func26 (by kernel_rfl) rfl #[.slice Ao39 t461.length co39, .int .i64 t464, .int .i64 0, .slice Ao40 t481.length co40] rfl (by (try simp only [mA, mB, mC]); first | done | rfl | (simp only [lD, lT]; rfl)) ?_; (with_reducible refine (galoislaw09_right.calls kj15 _ _ t461 t464 0 _ _ t481 true _ ?side1 ?side2 ?side3 ?side4 A31.out).mono ?_); (case side1 => repeat (first | exact (Kd.V_reads' HO_7.out).2.2 | (with_reducible refine Kd.C_alloc ?_ _) | (with_reducible refine Kd.C_drewN ?_ _) | (with_reducible refine Kd.C_drew ?_))); (case side2 => exact (Kd.V_reads' HO_7.out).2.1); (case side3 => repeat (first | exact (Kd.V_reads' HO483.out).2.2 | (with_reducible refine Kd.C_alloc ?_ _) | (with_reducible refine Kd.C_drewN ?_ _) | (with_reducible refine Kd.C_drew ?_))); (case side4 => exact (Kd.V_reads' HO483.out).2.1); rintro e w' ⟨rfl, ⟨nd, rfl⟩⟩; refine ⟨_, rfl, ?_⟩) | (go_at_call 51; (with_reducible refine (galoisref09_Sub.calls kj15 a0 _ _ l1 _ _ l2 t485 _ ?side1 ?side2 ?side3 ?side4 A33.out).mono ?_); (case side1 => repeat (first | exact (Kd.C_below HR1.out (by with_reducible repeat (first | exact HB.out | apply bA | apply bB | apply bC))) | (with_reducible refine Kd.C_alloc ?_ _) | (with_reducible refine Kd.C_drewN ?_ _) | (with_reducible refine Kd.C_drew ?_))); (case side2 => exact HC1.out); (case side3 => repeat (first | exact (Kd.C_below HR2.out (by with_reducible repeat (first | exact HB.out | apply bA | apply bB | apply bC))) | (with_reducible refine Kd.C_alloc ?_ _) | (with_reducible refine Kd.C_drewN ?_ _) | (with_reducible refine Kd.C_drew ?_))); (case side4 => exact HC2.out); rintro e w41 ⟨v486, rfl, ho0, hb⟩; have n0_ := Aside0.mk (Kd.V_below (by (with_reducible repeat (first | apply vA | apply vB | apply vC)); exact HO_7.out) hb); have n1_ := Aside0.mk (Kd.V_below (by (with_reducible repeat (first | apply vA | apply vB | apply vC)); exact HO_9.out) hb); have n2_ := Aside0.mk (Kd.V_below (by (with_reducible repeat (first | apply vA | apply vB | apply vC)); exact HO_11.out) hb); have n3_ := Aside0.mk (Kd.V_below (by (with_reducible repeat (first | apply vA | apply vB | apply vC)); exact HO483.out) hb); have n4_ := Aside0.mk (Kd.V_lower (Kd.V_mono (ok' := fun k_ => True) ho0 (fun k_ hk_ => trivial)) (below_size (by with_reducible repeat (first | exact HB.out | apply bA | apply bB | apply bC)))); have n5_ := Aside0.mk (below_step (by with_reducible repeat (first | exact HB.out | apply bA | apply bB | apply bC)) hb); clear HO_7; clear HO_9; clear HO_11; clear HO483; clear HB; have HO_7 := n0_; have HO_9 := n1_; have HO_11 := n2_; have HO483 := n3_; have HO487 := n4_; have HB := n5_; clear n0_ n1_ n2_ n3_ n4_ n5_; (try clear hb); (try clear hb2); (try clear hk); (try clear hi); (try clear ho0); obtain ⟨Ao42, co42, eo42⟩ := Kd.V_slice HO_9.out; subst eo42; obtain ⟨Ao43, co43, eo43⟩ := Kd.V_slice HO487.out; subst eo43) | (go_at_call 26; (with_reducible refine (galoislaw09_right.calls kj15 _ _ t465 t468 0 _ _ t485 true _ ?side1 ?side2 ?side3 ?side4 A34.out).mono ?_); (case side1 => repeat (first | exact (Kd.V_reads' HO_9.out).2.2 | (with_reducible refine Kd.C_alloc ?_ _) | (with_reducible refine Kd.C_drewN ?_ _) | (with_reducible refine Kd.C_drew ?_))); (case side2 => exact (Kd.V_reads' HO_9.out).2.1); (case side3 => repeat (first | exact (Kd.V_reads' HO487.out).2.2 | (with_reducible refine Kd.C_alloc ?_ _) | (with_reducible refine Kd.C_drewN ?_ _) | (with_reducible refine Kd.C_drew ?_))); (case side4 => exact (Kd.V_reads' HO487.out).2.1); rintro e w' ⟨rfl, ⟨nd, rfl⟩⟩) | (go_at_call 52; (with_reducible refine (galoisref09_Mul.calls kj15 a0 _ _ l1 _ _ l2 t489 _ ?side1 ?side2 ?side3 ?side4 A36.out).mono ?_); (case side1 => repeat (first | exact (Kd.C_below HR1.out (by with_reducible repeat (first | exact HB.out | apply bA | apply bB | apply bC))) | (with_reducible refine Kd.C_alloc ?_ _) | (with_reducible refine Kd.C_drewN ?_ _) | (with_reducible refine Kd.C_drew ?_))); (case side2 => exact HC1.out); (case side3 => repeat (first | exact (Kd.C_below HR2.out (by with_reducible repeat (first | exact HB.out | apply bA | apply bB | apply bC))) | (with_reducible refine Kd.C_alloc ?_ _) | (with_reducible refine Kd.C_drewN ?_ _) | (with_reducible refine Kd.C_drew ?_))); (case side4 => exact HC2.out); rintro e w44 ⟨v490, rfl, ho0, hb⟩; have n0_ := Aside0.mk (Kd.V_below (by (with_reducible repeat (first | apply vA | apply vB | apply vC)); exact HO_7.out) hb); have n1_ := Aside0.mk (Kd.V_below (by (with_reducible repeat (first | apply vA | apply vB | apply vC)); exact HO_9.out) hb); have n2_ := Aside0.mk (Kd.V_below (by (with_reducible repeat (first | apply vA | apply vB | apply vC)); exact HO_11.out) hb); have n3_ := Aside0.mk (Kd.V_below (by (with_reducible repeat (first | apply vA | apply vB | apply vC)); exact HO483.out) hb); have n4_ := Aside0.mk (Kd.V_below (by (with_reducible repeat (first | apply vA | apply vB | apply vC)); exact HO487.out) hb); have n5_ := Aside0.mk (Kd.V_lower (Kd.V_mono (ok' := fun k_ => True) ho0 (fun k_ hk_ => trivial)) (below_size (by with_reducible repeat (first | exact HB.out | apply bA | apply bB | apply bC)))); have n6_ := Aside0.mk (below_step (by with_reducible repeat (first | exact HB.out | apply bA | apply bB | apply bC)) hb); clear HO_7; clear HO_9; clear HO_11; clear HO483; clear HO487; clear HB; have HO_7 := n0_; have HO_9 := n1_; have HO_11 := n2_; have HO483 := n3_; have HO487 := n4_; have HO491 := n5_; have HB := n6_; clear n0_ n1_ n2_ n3_ n4_ n5_ n6_; (try clear hb); (try clear hb2); (try clear hk); (try clear hi); (try clear ho0); obtain ⟨Ao45, co45, eo45⟩ := Kd.V_slice HO_11.out; subst eo45; obtain ⟨Ao46, co46, eo46⟩ := Kd.V_slice HO491.out; subst eo46) | (go_at_call 26; (with_reducible refine (galoislaw09_right.calls kj15 _ _ t469 t472 0 _ _ t489 t492 _ ?side1 ?side2 ?side3 ?side4 A37.out).mono ?_); (case side1 => repeat (first | exact (Kd.V_reads' HO_11.out).2.2 | (with_reducible refine Kd.C_alloc ?_ _) | (with_reducible refine Kd.C_drewN ?_ _) | (with_reducible refine Kd.C_drew ?_))); (case side2 => exact (Kd.V_reads' HO_11.out).2.1); (case side3 => repeat (first | exact (Kd.V_reads' HO491.out).2.2 | (with_reducible refine Kd.C_alloc ?_ _) | (with_reducible refine Kd.C_drewN ?_ _) | (with_reducible refine Kd.C_drew ?_))); (case side4 => exact (Kd.V_reads' HO491.out).2.1); rintro e w' ⟨rfl, ⟨nd, rfl⟩⟩))
                 go_ret
                 exact ⟨by first | rfl | (simp [errW_none, errW_some] <;> rfl) | (simp [*, errW_none, errW_some] <;> rfl), by with_reducible repeat (first | exact HB.out | apply bA | apply bB | apply bC)⟩
               · replace c35 := Bool.eq_false_iff.mpr c35
                 subst c35
                 have H1 : (some false) = some r := by rw [if_neg (show ¬ (false = true) by decide)] at H; exact H
                 clear H
                 have H := H1
                 clear H1
                 obtain rfl := Option.some.inj H
                 go_wp2_with (first | ((with_reducible refine gate_callee (f := 25) rfl ?_); refine goesL_ (some 62) rfl rfl Try.func25 (by kernel_rfl) rfl #[.int .i64 a0, .slice A1 l1.length c1, .slice A2 l2.length c2] rfl (by (try simp only [mA, mB, mC]); first | done | rfl | (simp only [lD, lT]; rfl)) ?_; (with_reducible refine (galoislaw09_expected.calls kj15 a0 _ _ l1 _ _ l2 t477 _ ?side1 ?side2 ?side3 ?side4 A28.out).mono ?_); (case side1 => repeat (first | exact (Kd.C_below HR1.out HB.out) | (with_reducible refine Kd.C_alloc ?_ _) | (with_reducible refine Kd.C_drewN ?_ _) | (with_reducible refine Kd.C_drew ?_))); (case side2 => exact HC1.out); (case side3 => repeat (first | exact (Kd.C_below HR2.out HB.out) | (with_reducible refine Kd.C_alloc ?_ _) | (with_reducible refine Kd.C_drewN ?_ _) | (with_reducible refine Kd.C_drew ?_))); (case side4 => exact HC2.out); rintro e w' ⟨rfl, ⟨nd, rfl⟩⟩; refine ⟨_, rfl, ?_⟩) | ((with_reducible refine gate_callee (f := 50) rfl ?_); refine goesL_ (some 86) rfl rfl Try.func50 (by kernel_rfl) rfl #[.int .i64 a0, .slice A1 l1.length c1, .slice A2 l2.length c2] rfl (by (try simp only [mA, mB, mC]); first | done | rfl | (simp only [lD, lT]; rfl)) ?_; (with_reducible refine (galoisref09_Add.calls kj15 a0 _ _ l1 _ _ l2 t481 _ ?side1 ?side2 ?side3 ?side4 A30.out).mono ?_); (case side1 => repeat (first | exact (Kd.C_below HR1.out (by with_reducible repeat (first | exact HB.out | apply bA | apply bB | apply bC))) | (with_reducible refine Kd.C_alloc ?_ _) | (with_reducible refine Kd.C_drewN ?_ _) | (with_reducible refine Kd.C_drew ?_))); (case side2 => exact HC1.out); (case side3 => repeat (first | exact (Kd.C_below HR2.out (by with_reducible repeat (first | exact HB.out | apply bA | apply bB | apply bC))) | (with_reducible refine Kd.C_alloc ?_ _) | (with_reducible refine Kd.C_drewN ?_ _) | (with_reducible refine Kd.C_drew ?_))); (case side4 => exact HC2.out); rintro e w47 ⟨v482, rfl, ho0, hb⟩; refine ⟨_, rfl, ?_⟩; have n0_ := Aside0.mk (Kd.V_below (by (with_reducible repeat (first | apply vA | apply vB | apply vC)); exact HO_7.out) hb); have n1_ := Aside0.mk (Kd.V_below (by (with_reducible repeat (first | apply vA | apply vB | apply vC)); exact HO_9.out) hb); have n2_ := Aside0.mk (Kd.V_below (by (with_reducible repeat (first | apply vA | apply vB | apply vC)); exact HO_11.out) hb); have n3_ := Aside0.mk (Kd.V_lower (Kd.V_mono (ok' := fun k_ => True) ho0 (fun k_ hk_ => trivial)) (below_size (by with_reducible repeat (first | exact HB.out | apply bA | apply bB | apply bC)))); have n4_ := Aside0.mk (below_step (by with_reducible repeat (first | exact HB.out | apply bA | apply bB | apply bC)) hb); clear HO_7; clear HO_9; clear HO_11; clear HB; have HO_7 := n0_; have HO_9 := n1_; have HO_11 := n2_; have HO483 := n3_; have HB := n4_; clear n0_ n1_ n2_ n3_ n4_; (try clear hb); (try clear hb2); (try clear hk); (try clear hi); (try clear ho0); obtain ⟨Ao48, co48, eo48⟩ := Kd.V_slice HO_7.out; subst eo48; obtain ⟨Ao49, co49, eo49⟩ := Kd.V_slice HO483.out; subst eo49) | ((with_reducible refine gate_callee (f := 26) rfl ?_); refine goesL_ (some 87) rfl rfl Try.func26 (by kernel_rfl) rfl #[.slice Ao48 t461.length co48, .int .i64 t464, .int .i64 0, .slice Ao49 t481.length co49] rfl (by (try simp only [mA, mB, mC]); first | done | rfl | (simp only [lD, lT]; rfl)) ?_; (with_reducible refine (galoislaw09_right.calls kj15 _ _ t461 t464 0 _ _ t481 true _ ?side1 ?side2 ?side3 ?side4 A31.out).mono ?_); (case side1 => repeat (first | exact (Kd.V_reads' HO_7.out).2.2 | (with_reducible refine Kd.C_alloc ?_ _) | (with_reducible refine Kd.C_drewN ?_ _) | (with_reducible refine Kd.C_drew ?_))); (case side2 => exact (Kd.V_reads' HO_7.out).2.1); (case side3 => repeat (first | exact (Kd.V_reads' HO483.out).2.2 | (with_reducible refine Kd.C_alloc ?_ _) | (with_reducible refine Kd.C_drewN ?_ _) | (with_reducible refine Kd.C_drew ?_))); (case side4 => exact (Kd.V_reads' HO483.out).2.1); rintro e w' ⟨rfl, ⟨nd, rfl⟩⟩; refine ⟨_, rfl, ?_⟩) | (go_at_call 51; (with_reducible refine (galoisref09_Sub.calls kj15 a0 _ _ l1 _ _ l2 t485 _ ?side1 ?side2 ?side3 ?side4 A33.out).mono ?_); (case side1 => repeat (first | exact (Kd.C_below HR1.out (by with_reducible repeat (first | exact HB.out | apply bA | apply bB | apply bC))) | (with_reducible refine Kd.C_alloc ?_ _) | (with_reducible refine Kd.C_drewN ?_ _) | (with_reducible refine Kd.C_drew ?_))); (case side2 => exact HC1.out); (case side3 => repeat (first | exact (Kd.C_below HR2.out (by with_reducible repeat (first | exact HB.out | apply bA | apply bB | apply bC))) | (with_reducible refine Kd.C_alloc ?_ _) | (with_reducible refine Kd.C_drewN ?_ _) | (with_reducible refine Kd.C_drew ?_))); (case side4 => exact HC2.out); rintro e w50 ⟨v486, rfl, ho0, hb⟩; have n0_ := Aside0.mk (Kd.V_below (by (with_reducible repeat (first | apply vA | apply vB | apply vC)); exact HO_7.out) hb); have n1_ := Aside0.mk (Kd.V_below (by (with_reducible repeat (first | apply vA | apply vB | apply vC)); exact HO_9.out) hb); have n2_ := Aside0.mk (Kd.V_below (by (with_reducible repeat (first | apply vA | apply vB | apply vC)); exact HO_11.out) hb); have n3_ := Aside0.mk (Kd.V_below (by (with_reducible repeat (first | apply vA | apply vB | apply vC)); exact HO483.out) hb); have n4_ := Aside0.mk (Kd.V_lower (Kd.V_mono (ok' := fun k_ => True) ho0 (fun k_ hk_ => trivial)) (below_size (by with_reducible repeat (first | exact HB.out | apply bA | apply bB | apply bC)))); have n5_ := Aside0.mk (below_step (by with_reducible repeat (first | exact HB.out | apply bA | apply bB | apply bC)) hb); clear HO_7; clear HO_9; clear HO_11; clear HO483; clear HB; have HO_7 := n0_; have HO_9 := n1_; have HO_11 := n2_; have HO483 := n3_; have HO487 := n4_; have HB := n5_; clear n0_ n1_ n2_ n3_ n4_ n5_; (try clear hb); (try clear hb2); (try clear hk); (try clear hi); (try clear ho0); obtain ⟨Ao51, co51, eo51⟩ := Kd.V_slice HO_9.out; subst eo51; obtain ⟨Ao52, co52, eo52⟩ := Kd.V_slice HO487.out; subst eo52) | (go_at_call 26; (with_reducible refine (galoislaw09_right.calls kj15 _ _ t465 t468 0 _ _ t485 false _ ?side1 ?side2 ?side3 ?side4 A34.out).mono ?_); (case side1 => repeat (first | exact (Kd.V_reads' HO_9.out).2.2 | (with_reducible refine Kd.C_alloc ?_ _) | (with_reducible refine Kd.C_drewN ?_ _) | (with_reducible refine Kd.C_drew ?_))); (case side2 => exact (Kd.V_reads' HO_9.out).2.1); (case side3 => repeat (first | exact (Kd.V_reads' HO487.out).2.2 | (with_reducible refine Kd.C_alloc ?_ _) | (with_reducible refine Kd.C_drewN ?_ _) | (with_reducible refine Kd.C_drew ?_))); (case side4 => exact (Kd.V_reads' HO487.out).2.1); rintro e w' ⟨rfl, ⟨nd, rfl⟩⟩))
                 go_ret
                 exact ⟨by first | rfl | (simp [errW_none, errW_some] <;> rfl) | (simp [*, errW_none, errW_some] <;> rfl), by with_reducible repeat (first | exact HB.out | apply bA | apply bB | apply bC)⟩
             · replace c32 := Bool.eq_false_iff.mpr c32
               subst c32
               have H1 : (some false) = some r := by rw [if_neg (show ¬ (false = true) by decide)] at H; exact H
               clear H
               have H := H1
               clear H1
               obtain rfl := Option.some.inj H
               go_wp2_with (first | ((with_reducible refine gate_callee (f := 25) rfl ?_); refine goesL_ (some 62) rfl rfl Try.func25 (by kernel_rfl) rfl #[.int .i64 a0, .slice A1 l1.length c1, .slice A2 l2.length c2] rfl (by (try simp only [mA, mB, mC]); first | done | rfl | (simp only [lD, lT]; rfl)) ?_; (with_reducible refine (galoislaw09_expected.calls kj15 a0 _ _ l1 _ _ l2 t477 _ ?side1 ?side2 ?side3 ?side4 A28.out).mono ?_); (case side1 => repeat (first | exact (Kd.C_below HR1.out HB.out) | (with_reducible refine Kd.C_alloc ?_ _) | (with_reducible refine Kd.C_drewN ?_ _) | (with_reducible refine Kd.C_drew ?_))); (case side2 => exact HC1.out); (case side3 => repeat (first | exact (Kd.C_below HR2.out HB.out) | (with_reducible refine Kd.C_alloc ?_ _) | (with_reducible refine Kd.C_drewN ?_ _) | (with_reducible refine Kd.C_drew ?_))); (case side4 => exact HC2.out); rintro e w' ⟨rfl, ⟨nd, rfl⟩⟩; refine ⟨_, rfl, ?_⟩) | ((with_reducible refine gate_callee (f := 50) rfl ?_); refine goesL_ (some 86) rfl rfl Try.func50 (by kernel_rfl) rfl #[.int .i64 a0, .slice A1 l1.length c1, .slice A2 l2.length c2] rfl (by (try simp only [mA, mB, mC]); first | done | rfl | (simp only [lD, lT]; rfl)) ?_; (with_reducible refine (galoisref09_Add.calls kj15 a0 _ _ l1 _ _ l2 t481 _ ?side1 ?side2 ?side3 ?side4 A30.out).mono ?_); (case side1 => repeat (first | exact (Kd.C_below HR1.out (by with_reducible repeat (first | exact HB.out | apply bA | apply bB | apply bC))) | (with_reducible refine Kd.C_alloc ?_ _) | (with_reducible refine Kd.C_drewN ?_ _) | (with_reducible refine Kd.C_drew ?_))); (case side2 => exact HC1.out); (case side3 => repeat (first | exact (Kd.C_below HR2.out (by with_reducible repeat (first | exact HB.out | apply bA | apply bB | apply bC))) | (with_reducible refine Kd.C_alloc ?_ _) | (with_reducible refine Kd.C_drewN ?_ _) | (with_reducible refine Kd.C_drew ?_))); (case side4 => exact HC2.out); rintro e w53 ⟨v482, rfl, ho0, hb⟩; refine ⟨_, rfl, ?_⟩; have n0_ := Aside0.mk (Kd.V_below (by (with_reducible repeat (first | apply vA | apply vB | apply vC)); exact HO_7.out) hb); have n1_ := Aside0.mk (Kd.V_below (by (with_reducible repeat (first | apply vA | apply vB | apply vC)); exact HO_9.out) hb); have n2_ := Aside0.mk (Kd.V_below (by (with_reducible repeat (first | apply vA | apply vB | apply vC)); exact HO_11.out) hb); have n3_ := Aside0.mk (Kd.V_lower (Kd.V_mono (ok' := fun k_ => True) ho0 (fun k_ hk_ => trivial)) (below_size (by with_reducible repeat (first | exact HB.out | apply bA | apply bB | apply bC)))); have n4_ := Aside0.mk (below_step (by with_reducible repeat (first | exact HB.out | apply bA | apply bB | apply bC)) hb); clear HO_7; clear HO_9; clear HO_11; clear HB; have HO_7 := n0_; have HO_9 := n1_; have HO_11 := n2_; have HO483 := n3_; have HB := n4_; clear n0_ n1_ n2_ n3_ n4_; (try clear hb); (try clear hb2); (try clear hk); (try clear hi); (try clear ho0); obtain ⟨Ao54, co54, eo54⟩ := Kd.V_slice HO_7.out; subst eo54; obtain ⟨Ao55, co55, eo55⟩ := Kd.V_slice HO483.out; subst eo55) | ((with_reducible refine gate_callee (f := 26) rfl ?_); refine goesL_ (some 87) rfl rfl Try.func26 (by kernel_rfl) rfl #[.slice Ao54 t461.length co54, .int .i64 t464, .int .i64 0, .slice Ao55 t481.length co55] rfl (by (try simp only [mA, mB, mC]); first | done | rfl | (simp only [lD, lT]; rfl)) ?_; (with_reducible refine (galoislaw09_right.calls kj15 _ _ t461 t464 0 _ _ t481 false _ ?side1 ?side2 ?side3 ?side4 A31.out).mono ?_); (case side1 => repeat (first | exact (Kd.V_reads' HO_7.out).2.2 | (with_reducible refine Kd.C_alloc ?_ _) | (with_reducible refine Kd.C_drewN ?_ _) | (with_reducible refine Kd.C_drew ?_))); (case side2 => exact (Kd.V_reads' HO_7.out).2.1); (case side3 => repeat (first | exact (Kd.V_reads' HO483.out).2.2 | (with_reducible refine Kd.C_alloc ?_ _) | (with_reducible refine Kd.C_drewN ?_ _) | (with_reducible refine Kd.C_drew ?_))); (case side4 => exact (Kd.V_reads' HO483.out).2.1); rintro e w' ⟨rfl, ⟨nd, rfl⟩⟩; refine ⟨_, rfl, ?_⟩))
               go_ret
               exact ⟨by first | rfl | (simp [errW_none, errW_some] <;> rfl) | (simp [*, errW_none, errW_some] <;> rfl), by with_reducible repeat (first | exact HB.out | apply bA | apply bB | apply bC)⟩
           · rw [if_neg c29] at H
             have c29b0 : (t477 == 0) = false := beq_eq_false_iff_ne.mpr c29
             have c29b1 : (t477 != 0) = true := bne_iff_ne.mpr c29
             replace H := Option.bind_eq_some_iff.mp H
             obtain ⟨t478, A560, H⟩ := H
             replace H : (if t478 = true then ((galoislaw09_right.f kj15 t465 t468 t477 ([] : List Int)).bind fun t479 => (if t479 = true then ((galoislaw09_right.f kj15 t469 t472 t477 ([] : List Int)).bind fun t480 => (some t480)) else (some false))) else (some false)) = some r := H
             have A56 := Aside0.mk A560
             clear A560
             by_cases c57 : t478 = true
             · subst c57
               have H1 : ((galoislaw09_right.f kj15 t465 t468 t477 ([] : List Int)).bind fun t479 => (if t479 = true then ((galoislaw09_right.f kj15 t469 t472 t477 ([] : List Int)).bind fun t480 => (some t480)) else (some false))) = some r := by rw [if_pos rfl] at H; exact H
               clear H
               have H := H1
               clear H1
               replace H := Option.bind_eq_some_iff.mp H
               obtain ⟨t479, A580, H⟩ := H
               replace H : (if t479 = true then ((galoislaw09_right.f kj15 t469 t472 t477 ([] : List Int)).bind fun t480 => (some t480)) else (some false)) = some r := H
               have A58 := Aside0.mk A580
               clear A580
               by_cases c59 : t479 = true
               · subst c59
                 have H1 : ((galoislaw09_right.f kj15 t469 t472 t477 ([] : List Int)).bind fun t480 => (some t480)) = some r := by rw [if_pos rfl] at H; exact H
                 clear H
                 have H := H1
                 clear H1
                 replace H := Option.bind_eq_some_iff.mp H
                 obtain ⟨t480, A600, H⟩ := H
                 replace H : (some t480) = some r := H
                 have A60 := Aside0.mk A600
                 clear A600
                 obtain rfl := Option.some.inj H
                 go_wp2_with (first | ((with_reducible refine gate_callee (f := 25) rfl ?_); refine goesL_ (some 62) rfl rfl Try.func25 (by kernel_rfl) rfl #[.int .i64 a0, .slice A1 l1.length c1, .slice A2 l2.length c2] rfl (by (try simp only [mA, mB, mC]); first | done | rfl | (simp only [lD, lT]; rfl)) ?_; (with_reducible refine (galoislaw09_expected.calls kj15 a0 _ _ l1 _ _ l2 t477 _ ?side1 ?side2 ?side3 ?side4 A28.out).mono ?_); (case side1 => repeat (first | exact (Kd.C_below HR1.out HB.out) | (with_reducible refine Kd.C_alloc ?_ _) | (with_reducible refine Kd.C_drewN ?_ _) | (with_reducible refine Kd.C_drew ?_))); (case side2 => exact HC1.out); (case side3 => repeat (first | exact (Kd.C_below HR2.out HB.out) | (with_reducible refine Kd.C_alloc ?_ _) | (with_reducible refine Kd.C_drewN ?_ _) | (with_reducible refine Kd.C_drew ?_))); (case side4 => exact HC2.out); rintro e w' ⟨rfl, ⟨nd, rfl⟩⟩; refine ⟨_, rfl, ?_⟩; obtain ⟨Ao61, co61, eo61⟩ := Kd.V_slice HO_7.out; subst eo61) | ((with_reducible refine gate_callee (f := 26) rfl ?_); refine goesL_ (some 68) rfl rfl Try.func26 (by kernel_rfl) rfl #[.slice Ao61 t461.length co61, .int .i64 t464, .int .i64 t477, .slice none 0 0] rfl (by (try simp only [mA, mB, mC]); first | done | rfl | (simp only [lD, lT]; rfl)) ?_; (refine (galoislaw09_right.calls kj15 _ _ t461 t464 t477 _ _ ([] : List Int) true _ ?side1 ?side2 ?side3 ?side4 A56.out).mono ?_); (case side1 => repeat (first | exact (Kd.V_reads' HO_7.out).2.2 | (with_reducible refine Kd.C_alloc ?_ _) | (with_reducible refine Kd.C_drewN ?_ _) | (with_reducible refine Kd.C_drew ?_))); (case side2 => exact (Kd.V_reads' HO_7.out).2.1); (case side3 => exact Kd.C_nil _ _); (case side4 => exact Nat.le_refl _); rintro e w' ⟨rfl, ⟨nd, rfl⟩⟩; refine ⟨_, rfl, ?_⟩; obtain ⟨Ao62, co62, eo62⟩ := Kd.V_slice HO_9.out; subst eo62) | (go_at_call 26; (refine calls_of_args ?harg_ (Calls.mono (galoislaw09_right.calls kj15 ?_ ?_ t465 t468 t477 ?_ ?_ ([] : List Int) true _ ?side1 ?side2 ?side3 ?side4 A58.out) ?_)); (case harg_ => rfl); (case side1 => repeat (first | exact (Kd.V_reads' HO_9.out).2.2 | (with_reducible refine Kd.C_alloc ?_ _) | (with_reducible refine Kd.C_drewN ?_ _) | (with_reducible refine Kd.C_drew ?_))); (case side2 => exact (Kd.V_reads' HO_9.out).2.1); (case side3 => exact Kd.C_nil _ _); (case side4 => exact Nat.le_refl _); rintro e w' ⟨rfl, ⟨nd, rfl⟩⟩; obtain ⟨Ao63, co63, eo63⟩ := Kd.V_slice HO_11.out; subst eo63) | (go_at_call 26; (refine calls_of_args ?harg_ (Calls.mono (galoislaw09_right.calls kj15 ?_ ?_ t469 t472 t477 ?_ ?_ ([] : List Int) t480 _ ?side1 ?side2 ?side3 ?side4 A60.out) ?_)); (case harg_ => rfl); (case side1 => repeat (first | exact (Kd.V_reads' HO_11.out).2.2 | (with_reducible refine Kd.C_alloc ?_ _) | (with_reducible refine Kd.C_drewN ?_ _) | (with_reducible refine Kd.C_drew ?_))); (case side2 => exact (Kd.V_reads' HO_11.out).2.1); (case side3 => exact Kd.C_nil _ _); (case side4 => exact Nat.le_refl _); rintro e w' ⟨rfl, ⟨nd, rfl⟩⟩))
                 go_ret
                 exact ⟨by first | rfl | (simp [errW_none, errW_some] <;> rfl) | (simp [*, errW_none, errW_some] <;> rfl), by with_reducible repeat (first | exact HB.out | apply bA | apply bB | apply bC)⟩
               · replace c59 := Bool.eq_false_iff.mpr c59
                 subst c59
                 have H1 : (some false) = some r := by rw [if_neg (show ¬ (false = true) by decide)] at H; exact H
                 clear H
                 have H := H1
                 clear H1
                 obtain rfl := Option.some.inj H
                 go_wp2_with (first | ((with_reducible refine gate_callee (f := 25) rfl ?_); refine goesL_ (some 62) rfl rfl Try.func25 (by kernel_rfl) rfl #[.int .i64 a0, .slice A1 l1.length c1, .slice A2 l2.length c2] rfl (by (try simp only [mA, mB, mC]); first | done | rfl | (simp only [lD, lT]; rfl)) ?_; (with_reducible refine (galoislaw09_expected.calls kj15 a0 _ _ l1 _ _ l2 t477 _ ?side1 ?side2 ?side3 ?side4 A28.out).mono ?_); (case side1 => repeat (first | exact (Kd.C_below HR1.out HB.out) | (with_reducible refine Kd.C_alloc ?_ _) | (with_reducible refine Kd.C_drewN ?_ _) | (with_reducible refine Kd.C_drew ?_))); (case side2 => exact HC1.out); (case side3 => repeat (first | exact (Kd.C_below HR2.out HB.out) | (with_reducible refine Kd.C_alloc ?_ _) | (with_reducible refine Kd.C_drewN ?_ _) | (with_reducible refine Kd.C_drew ?_))); (case side4 => exact HC2.out); rintro e w' ⟨rfl, ⟨nd, rfl⟩⟩; refine ⟨_, rfl, ?_⟩; obtain ⟨Ao64, co64, eo64⟩ := Kd.V_slice HO_7.out; subst eo64) | ((with_reducible refine gate_callee (f := 26) rfl ?_); refine goesL_ (some 68) rfl rfl Try.func26 (by kernel_rfl) rfl #[.slice Ao64 t461.length co64, .int .i64 t464, .int .i64 t477, .slice none 0 0] rfl (by (try simp only [mA, mB, mC]); first | done | rfl | (simp only [lD, lT]; rfl)) ?_; (refine (galoislaw09_right.calls kj15 _ _ t461 t464 t477 _ _ ([] : List Int) true _ ?side1 ?side2 ?side3 ?side4 A56.out).mono ?_); (case side1 => repeat (first | exact (Kd.V_reads' HO_7.out).2.2 | (with_reducible refine Kd.C_alloc ?_ _) | (with_reducible refine Kd.C_drewN ?_ _) | (with_reducible refine Kd.C_drew ?_))); (case side2 => exact (Kd.V_reads' HO_7.out).2.1); (case side3 => exact Kd.C_nil _ _); (case side4 => exact Nat.le_refl _); rintro e w' ⟨rfl, ⟨nd, rfl⟩⟩; refine ⟨_, rfl, ?_⟩; obtain ⟨Ao65, co65, eo65⟩ := Kd.V_slice HO_9.out; subst eo65) | (go_at_call 26; (refine calls_of_args ?harg_ (Calls.mono (galoislaw09_right.calls kj15 ?_ ?_ t465 t468 t477 ?_ ?_ ([] : List Int) false _ ?side1 ?side2 ?side3 ?side4 A58.out) ?_)); (case harg_ => rfl); (case side1 => repeat (first | exact (Kd.V_reads' HO_9.out).2.2 | (with_reducible refine Kd.C_alloc ?_ _) | (with_reducible refine Kd.C_drewN ?_ _) | (with_reducible refine Kd.C_drew ?_))); (case side2 => exact (Kd.V_reads' HO_9.out).2.1); (case side3 => exact Kd.C_nil _ _); (case side4 => exact Nat.le_refl _); rintro e w' ⟨rfl, ⟨nd, rfl⟩⟩))
                 go_ret
                 exact ⟨by first | rfl | (simp [errW_none, errW_some] <;> rfl) | (simp [*, errW_none, errW_some] <;> rfl), by with_reducible repeat (first | exact HB.out | apply bA | apply bB | apply bC)⟩
             · replace c57 := Bool.eq_false_iff.mpr c57
               subst c57
               have H1 : (some false) = some r := by rw [if_neg (show ¬ (false = true) by decide)] at H; exact H
               clear H
               have H := H1
               clear H1
               obtain rfl := Option.some.inj H
               go_wp2_with (first | ((with_reducible refine gate_callee (f := 25) rfl ?_); refine goesL_ (some 62) rfl rfl Try.func25 (by kernel_rfl) rfl #[.int .i64 a0, .slice A1 l1.length c1, .slice A2 l2.length c2] rfl (by (try simp only [mA, mB, mC]); first | done | rfl | (simp only [lD, lT]; rfl)) ?_; (with_reducible refine (galoislaw09_expected.calls kj15 a0 _ _ l1 _ _ l2 t477 _ ?side1 ?side2 ?side3 ?side4 A28.out).mono ?_); (case side1 => repeat (first | exact (Kd.C_below HR1.out HB.out) | (with_reducible refine Kd.C_alloc ?_ _) | (with_reducible refine Kd.C_drewN ?_ _) | (with_reducible refine Kd.C_drew ?_))); (case side2 => exact HC1.out); (case side3 => repeat (first | exact (Kd.C_below HR2.out HB.out) | (with_reducible refine Kd.C_alloc ?_ _) | (with_reducible refine Kd.C_drewN ?_ _) | (with_reducible refine Kd.C_drew ?_))); (case side4 => exact HC2.out); rintro e w' ⟨rfl, ⟨nd, rfl⟩⟩; refine ⟨_, rfl, ?_⟩; obtain ⟨Ao66, co66, eo66⟩ := Kd.V_slice HO_7.out; subst eo66) | ((with_reducible refine gate_callee (f := 26) rfl ?_); refine goesL_ (some 68) rfl rfl Try.func26 (by kernel_rfl) rfl #[.slice Ao66 t461.length co66, .int .i64 t464, .int .i64 t477, .slice none 0 0] rfl (by (try simp only [mA, mB, mC]); first | done | rfl | (simp only [lD, lT]; rfl)) ?_; (refine (galoislaw09_right.calls kj15 _ _ t461 t464 t477 _ _ ([] : List Int) false _ ?side1 ?side2 ?side3 ?side4 A56.out).mono ?_); (case side1 => repeat (first | exact (Kd.V_reads' HO_7.out).2.2 | (with_reducible refine Kd.C_alloc ?_ _) | (with_reducible refine Kd.C_drewN ?_ _) | (with_reducible refine Kd.C_drew ?_))); (case side2 => exact (Kd.V_reads' HO_7.out).2.1); (case side3 => exact Kd.C_nil _ _); (case side4 => exact Nat.le_refl _); rintro e w' ⟨rfl, ⟨nd, rfl⟩⟩; refine ⟨_, rfl, ?_⟩))
               go_ret
               exact ⟨by first | rfl | (simp [errW_none, errW_some] <;> rfl) | (simp [*, errW_none, errW_some] <;> rfl), by with_reducible repeat (first | exact HB.out | apply bA | apply bB | apply bC)⟩

/-- THE ONE PURE STATEMENT of galoislaw09_PolymodSums: yours. -/
def galoislaw09_PolymodSums.Pure : Prop := ∀ (a0 : Int) (l1 : List Int) (l2 : List Int), (Lit.int .i64 a0).wf = true → l1.length ≤ maxLen → l1.length * 8 ≤ 140737488351232 → (∀ x ∈ l1, (Lit.int .i64 x).wf = true) → l2.length ≤ maxLen → l2.length * 8 ≤ 140737488351232 → (∀ x ∈ l2, (Lit.int .i64 x).wf = true) → ∃ k, galoislaw09_PolymodSums.f k a0 l1 l2 = some true
theorem galoislaw09_PolymodSums.walk (P : galoislaw09_PolymodSums.Pure) (a0 : Int) (a1 : Option Addr) (len1 cap1 : Nat) (z1 : List Int) (a2 : Option Addr) (len2 cap2 : Nat) (z2 : List Int) (w : World) (w0 : (Lit.int .i64 a0).wf = true) (w1 : (a1 = none ∧ len1 = 0 ∧ cap1 = 0 ∧ z1 = []) ∨ ∃ x, a1 = some x ∧ len1 ≤ cap1 ∧ cap1 ≤ maxLen ∧ z1.length = cap1 ∧ (∀ i, i < z1.length → w.cell? (x.add i) = some (.int .i64 (z1.getD i 0))) ∧ ∀ n ∈ z1, (Lit.int .i64 n).wf = true) (y1 : len1 * 8 ≤ 140737488351232) (w2 : (a2 = none ∧ len2 = 0 ∧ cap2 = 0 ∧ z2 = []) ∨ ∃ x, a2 = some x ∧ len2 ≤ cap2 ∧ cap2 ≤ maxLen ∧ z2.length = cap2 ∧ (∀ i, i < z2.length → w.cell? (x.add i) = some (.int .i64 (z2.getD i 0))) ∧ ∀ n ∈ z2, (Lit.int .i64 n).wf = true) (y2 : len2 * 8 ≤ 140737488351232) :
 Calls Try.prog 11 #[.int .i64 a0, .slice a1 len1 cap1, .slice a2 len2 cap2] w fun e w' => e = .returned (.bool true) ∧ Below w.heap.size w w' := by
 obtain ⟨l1, rfl, hr1, hm1, hw1, hc1⟩ := ReadsInt.ofRowC w1
 obtain ⟨l2, rfl, hr2, hm2, hw2, hc2⟩ := ReadsInt.ofRowC w2
 obtain ⟨k, h⟩ := P a0 l1 l2 w0 hm1 y1 hw1 hm2 y2 hw2
 refine (galoislaw09_PolymodSums.calls k a0 _ _ l1 _ _ l2 true w (Kd.C_of_reads (d := (0 : Int)) (h1 := fun _ => rfl) hr1) hc1 (Kd.C_of_reads (d := (0 : Int)) (h1 := fun _ => rfl) hr2) hc2 h).mono ?_
 rintro e w' ⟨rfl, hd⟩
 exact ⟨rfl, hd⟩

end Go.Proofs.Ytmknclgamadphaa.PPolymodSums
