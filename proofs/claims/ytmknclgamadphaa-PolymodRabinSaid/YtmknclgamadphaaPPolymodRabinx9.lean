-- WRITTEN BY sprint.py (a program of this repo, over the kit's print.py): nothing here is trusted, Lean checks it.
import Derived.Test.YtmknclgamadphaaPPolymodRabinx0
import Derived.Test.YtmknclgamadphaaPPolymodRabinx5
import Derived.Test.YtmknclgamadphaaPPolymodRabinx6
import Derived.Test.YtmknclgamadphaaPPolymodRabinx7
import Derived.Test.YtmknclgamadphaaPPolymodRabinx8
namespace Go.Proofs.Ytmknclgamadphaa.PPolymodRabin
open Go.RowKit Go.Proofs.YtmknclgamadphaaW.PrintWords Go.Proofs.YtmknclgamadphaaW.PrintLast Go.Proofs.YtmknclgamadphaaW.PrintMore
attribute [local go_sem] max2_int min2_int max_two min_two max_three min_three max_four min_four   -- for this text's walks alone
set_option linter.unusedVariables false
set_option linter.unusedSimpArgs false

/-! ### galoislaw09_PolymodRabin: function 4 -/
mutual
def galoislaw09_PolymodRabin.j0 : Nat → Int → List Int → List Int → Bool → Option (Bool)
 | 0, _, _, _, _ => none
 | k + 1, x0, x1, x2, x32 => if x32 = true then ((galoislaw09_awake.f k).bind fun t384 => (some t384)) else ((polymod_Mul.f k x0 x1 x2).bind fun bt385 => ((polymod_IsIrreducible.f k x0 bt385.1).bind fun bt389 => ((polymod_IsIrreducible.f k x0 x1).bind fun bt391 => (if bt385.2 = 0 then (if bt389.2 = 0 then (if bt391.2 = 0 then (if (x1.length : Int) > 1 then (if (x2.length : Int) > 1 then (if bt389.1 = true then (galoislaw09_PolymodRabin.j1 k x0 x1 bt391.1 true) else (if (x1.length : Int) = 2 then (if bt391.1 = true then (if (x1.length : Int) < 2 then (galoislaw09_PolymodRabin.j1 k x0 x1 bt391.1 bt391.1) else (galoislaw09_PolymodRabin.j1 k x0 x1 bt391.1 false)) else (galoislaw09_PolymodRabin.j1 k x0 x1 bt391.1 true)) else (if (x1.length : Int) < 2 then (galoislaw09_PolymodRabin.j1 k x0 x1 bt391.1 bt391.1) else (galoislaw09_PolymodRabin.j1 k x0 x1 bt391.1 false)))) else (if (x1.length : Int) = 2 then (if bt391.1 = true then (if (x1.length : Int) < 2 then (galoislaw09_PolymodRabin.j1 k x0 x1 bt391.1 bt391.1) else (galoislaw09_PolymodRabin.j1 k x0 x1 bt391.1 false)) else (galoislaw09_PolymodRabin.j1 k x0 x1 bt391.1 true)) else (if (x1.length : Int) < 2 then (galoislaw09_PolymodRabin.j1 k x0 x1 bt391.1 bt391.1) else (galoislaw09_PolymodRabin.j1 k x0 x1 bt391.1 false)))) else (if (x1.length : Int) = 2 then (if bt391.1 = true then (if (x1.length : Int) < 2 then (galoislaw09_PolymodRabin.j1 k x0 x1 bt391.1 bt391.1) else (galoislaw09_PolymodRabin.j1 k x0 x1 bt391.1 false)) else (galoislaw09_PolymodRabin.j1 k x0 x1 bt391.1 true)) else (if (x1.length : Int) < 2 then (galoislaw09_PolymodRabin.j1 k x0 x1 bt391.1 bt391.1) else (galoislaw09_PolymodRabin.j1 k x0 x1 bt391.1 false)))) else (galoislaw09_PolymodRabin.j1 k x0 x1 bt391.1 true)) else (galoislaw09_PolymodRabin.j1 k x0 x1 bt391.1 true)) else (galoislaw09_PolymodRabin.j1 k x0 x1 bt391.1 true)))))
def galoislaw09_PolymodRabin.j1 : Nat → Int → List Int → Bool → Bool → Option (Bool)
 | 0, _, _, _, _ => none
 | k + 1, x0, x1, x11, x92 => if x92 = true then (some false) else (if x11 = true then (galoislaw09_PolymodRabin.l0 k x0 x1 (([0, 1] : List Int)) 1) else (some true))
def galoislaw09_PolymodRabin.l0 : Nat → Int → List Int → List Int → Int → Option (Bool)
 | 0, _, _, _, _ => none
 | k + 1, x0, x1, x13, x14 => if x14 < (x1.length : Int) then ((galoisref01_FromInt.f k x0).bind fun t410 => ((polymod_PowMod.f k x0 x13 t410 x1).bind fun bt411 => (if bt411.2 = 0 then (if (bt411.1.length : Int) ≥ (x1.length : Int) then (some false) else (galoislaw09_PolymodRabin.l0 k x0 x1 bt411.1 (wrap64 (x14 + 1)))) else (some false)))) else ((polymod_Sub.f k x0 x13 (([0, 1] : List Int))).bind fun bt399 => ((polymod_DivMod.f k x0 bt399.1 x1).bind fun bt403 => (if bt399.2 = 0 then (if bt403.2.2 = 0 then (some ((bt403.2.1.length : Int) == 0)) else (some false)) else (some false))))
end
def galoislaw09_PolymodRabin.f (k : Nat) (a0 : Int) (l1 : List Int) (l2 : List Int) : Option (Bool) := (galoislaw09_awake.f k).bind fun t382 => (if t382 = true then ((galoislaw09_few.f k a0 l1 l2 8).bind fun t383 => (if t383 = true then (galoislaw09_PolymodRabin.j0 k a0 l1 l2 (decide (a0 > 1000))) else (galoislaw09_PolymodRabin.j0 k a0 l1 l2 true))) else (galoislaw09_PolymodRabin.j0 k a0 l1 l2 true))
theorem galoislaw09_PolymodRabin.mono_l : ∀ k, (∀ y0 y1 y2 y3, LeO (galoislaw09_PolymodRabin.j0 k y0 y1 y2 y3) (galoislaw09_PolymodRabin.j0 (k + 1) y0 y1 y2 y3)) ∧ (∀ y0 y1 y2 y3, LeO (galoislaw09_PolymodRabin.j1 k y0 y1 y2 y3) (galoislaw09_PolymodRabin.j1 (k + 1) y0 y1 y2 y3)) ∧ (∀ y0 y1 y2 y3, LeO (galoislaw09_PolymodRabin.l0 k y0 y1 y2 y3) (galoislaw09_PolymodRabin.l0 (k + 1) y0 y1 y2 y3))
 | 0 => ⟨fun _ _ _ _ r h => by simp [galoislaw09_PolymodRabin.j0] at h, fun _ _ _ _ r h => by simp [galoislaw09_PolymodRabin.j1] at h, fun _ _ _ _ r h => by simp [galoislaw09_PolymodRabin.l0] at h⟩
 | k + 1 => by
   obtain ⟨ih0, ih1, ih2⟩ := galoislaw09_PolymodRabin.mono_l k
   refine ⟨?_, ?_, ?_⟩
   · intro y0 y1 y2 y3
     unfold galoislaw09_PolymodRabin.j0
     repeat' first
     | (with_reducible apply ih0)
     | (with_reducible apply ih1)
     | (with_reducible apply ih2)
     | (with_reducible apply galoislaw09_awake.mono)
     | (with_reducible apply galoislaw09_few.mono)
     | (with_reducible apply galoisref01_FromInt.mono)
     | (with_reducible apply polymod_DivMod.mono)
     | (with_reducible apply polymod_IsIrreducible.mono)
     | (with_reducible apply polymod_Mul.mono)
     | (with_reducible apply polymod_PowMod.mono)
     | (with_reducible apply polymod_Sub.mono)
     | (with_reducible apply LeO.refl)
     | (with_reducible apply LeO.none)
     | (with_reducible refine LeO.ite ?_ ?_)
     | (with_reducible refine LeO.bind ?_ (fun _ => ?_))
   · intro y0 y1 y2 y3
     unfold galoislaw09_PolymodRabin.j1
     repeat' first
     | (with_reducible apply ih0)
     | (with_reducible apply ih1)
     | (with_reducible apply ih2)
     | (with_reducible apply galoislaw09_awake.mono)
     | (with_reducible apply galoislaw09_few.mono)
     | (with_reducible apply galoisref01_FromInt.mono)
     | (with_reducible apply polymod_DivMod.mono)
     | (with_reducible apply polymod_IsIrreducible.mono)
     | (with_reducible apply polymod_Mul.mono)
     | (with_reducible apply polymod_PowMod.mono)
     | (with_reducible apply polymod_Sub.mono)
     | (with_reducible apply LeO.refl)
     | (with_reducible apply LeO.none)
     | (with_reducible refine LeO.ite ?_ ?_)
     | (with_reducible refine LeO.bind ?_ (fun _ => ?_))
   · intro y0 y1 y2 y3
     unfold galoislaw09_PolymodRabin.l0
     repeat' first
     | (with_reducible apply ih0)
     | (with_reducible apply ih1)
     | (with_reducible apply ih2)
     | (with_reducible apply galoislaw09_awake.mono)
     | (with_reducible apply galoislaw09_few.mono)
     | (with_reducible apply galoisref01_FromInt.mono)
     | (with_reducible apply polymod_DivMod.mono)
     | (with_reducible apply polymod_IsIrreducible.mono)
     | (with_reducible apply polymod_Mul.mono)
     | (with_reducible apply polymod_PowMod.mono)
     | (with_reducible apply polymod_Sub.mono)
     | (with_reducible apply LeO.refl)
     | (with_reducible apply LeO.none)
     | (with_reducible refine LeO.ite ?_ ?_)
     | (with_reducible refine LeO.bind ?_ (fun _ => ?_))
theorem galoislaw09_PolymodRabin.mono : ∀ a0 a1 a2 k, LeO (galoislaw09_PolymodRabin.f k a0 a1 a2) (galoislaw09_PolymodRabin.f (k + 1) a0 a1 a2) := by
 intro a0 a1 a2 k
 obtain ⟨ih0, ih1, ih2⟩ := galoislaw09_PolymodRabin.mono_l k
 unfold galoislaw09_PolymodRabin.f
 repeat' first
  | (with_reducible apply ih0)
  | (with_reducible apply ih1)
  | (with_reducible apply ih2)
  | (with_reducible apply galoislaw09_awake.mono)
  | (with_reducible apply galoislaw09_few.mono)
  | (with_reducible apply galoisref01_FromInt.mono)
  | (with_reducible apply polymod_DivMod.mono)
  | (with_reducible apply polymod_IsIrreducible.mono)
  | (with_reducible apply polymod_Mul.mono)
  | (with_reducible apply polymod_PowMod.mono)
  | (with_reducible apply polymod_Sub.mono)
  | (with_reducible apply LeO.refl)
  | (with_reducible apply LeO.none)
  | (with_reducible refine LeO.ite ?_ ?_)
  | (with_reducible refine LeO.bind ?_ (fun _ => ?_))
set_option maxHeartbeats 8000000 in
set_option maxRecDepth 100000 in
theorem galoislaw09_PolymodRabin.calls (k : Nat) (a0 : Int) (A1 : Option Addr) (c1 : Nat) (l1 : List Int) (A2 : Option Addr) (c2 : Nat) (l2 : List Int) (r : Bool) (w : World) (hr1 : Kd.C (Kd.int .i64) w A1 l1.length l1) (hc1 : l1.length ≤ c1) (hr2 : Kd.C (Kd.int .i64) w A2 l2.length l2) (hc2 : l2.length ≤ c2) (h : galoislaw09_PolymodRabin.f k a0 l1 l2 = some r) :
 Calls Try.prog 4 #[.int .i64 a0, .slice A1 l1.length c1, .slice A2 l2.length c2] w fun e w' => e = .returned (.bool r) ∧ Below w.heap.size w w' := by
 have HR1 := ak hr1
 have HC1 := ak hc1
 clear hr1 hc1
 have HR2 := ak hr2
 have HC2 := ak hc2
 clear hr2 hc2
 have HB := ak (Below.refl w.heap.size w)
 have H : ((galoislaw09_awake.f k).bind fun t382 => (if t382 = true then ((galoislaw09_few.f k a0 l1 l2 8).bind fun t383 => (if t383 = true then (galoislaw09_PolymodRabin.j0 k a0 l1 l2 (decide (a0 > 1000))) else (galoislaw09_PolymodRabin.j0 k a0 l1 l2 true))) else (galoislaw09_PolymodRabin.j0 k a0 l1 l2 true))) = some r := h
 clear h
 have HC4 := ak H
 clear H
 go_enter Try.func4, Try.ntmps4
 go_upto_region 1 with (fail)
 go_cut [32] (fun v32 wc => ∃ (kq : Nat) (x32_3 : Bool), v32 = .bool x32_3 ∧ Aside0 (galoislaw09_PolymodRabin.j0 kq a0 l1 l2 x32_3 = some r) ∧ Aside0 (kq ≤ k) ∧ Aside0 (Below w.heap.size w wc))
 case first =>
  have H := HC4.out
  clear HC4
  replace H := Option.bind_eq_some_iff.mp H
  obtain ⟨t382, A50, H⟩ := H
  replace H : (if t382 = true then ((galoislaw09_few.f k a0 l1 l2 8).bind fun t383 => (if t383 = true then (galoislaw09_PolymodRabin.j0 k a0 l1 l2 (decide (a0 > 1000))) else (galoislaw09_PolymodRabin.j0 k a0 l1 l2 true))) else (galoislaw09_PolymodRabin.j0 k a0 l1 l2 true)) = some r := H
  have A5 := ak A50
  clear A50
  by_cases c6 : t382 = true
  · subst c6
    have H1 : ((galoislaw09_few.f k a0 l1 l2 8).bind fun t383 => (if t383 = true then (galoislaw09_PolymodRabin.j0 k a0 l1 l2 (decide (a0 > 1000))) else (galoislaw09_PolymodRabin.j0 k a0 l1 l2 true))) = some r := by rw [if_pos rfl] at H; exact H
    clear H
    have H := H1
    clear H1
    replace H := Option.bind_eq_some_iff.mp H
    obtain ⟨t383, A70, H⟩ := H
    replace H : (if t383 = true then (galoislaw09_PolymodRabin.j0 k a0 l1 l2 (decide (a0 > 1000))) else (galoislaw09_PolymodRabin.j0 k a0 l1 l2 true)) = some r := H
    have A7 := ak A70
    clear A70
    by_cases c8 : t383 = true
    · subst c8
      have H1 : (galoislaw09_PolymodRabin.j0 k a0 l1 l2 (decide (a0 > 1000))) = some r := by rw [if_pos rfl] at H; exact H
      clear H
      have H := H1
      clear H1
      as_aux_lemma =>
       have H' := ak H
       clear H
       go_wp2_with (first | ((with_reducible refine gate_callee (f := 13) rfl ?_); refine goesL_ (some 20) rfl rfl Try.func13 (by kernel_rfl) rfl #[] rfl mX ?_; (with_reducible refine (galoislaw09_awake.calls k  true _ A5.out).mono ?_); rintro e w9 ⟨rfl, hb⟩; refine ⟨_, rfl, ?_⟩; have n0_ := ak (below_step bX hb); clear HB; have HB := n0_; clear n0_; (try clear hb); (try clear hb2); (try clear hk); (try clear hi)) | (go_at_call 17; (with_reducible refine (galoislaw09_few.calls k a0 _ _ l1 _ _ l2 8 true _ ?side1 ?side2 ?side3 ?side4 A7.out).mono ?_); (case side1 => exact cX (Kd.C_below HR1.out HB.out)); (case side2 => exact HC1.out); (case side3 => exact cX (Kd.C_below HR2.out HB.out)); (case side4 => exact HC2.out); rintro e w' ⟨rfl, ⟨nd, rfl⟩⟩))
       go_meet
       case rel => exact ⟨_, (decide (a0 > 1000)), (by first | rfl | (simp; done) | (simp [*]; done)), H', ⟨by first | omega | exact Nat.le_refl _⟩, ⟨by repeat (first | (with_reducible first | exact HB.out | apply bA | apply bB | apply bC) | exact HB.out)⟩⟩
    · replace c8 := Bool.eq_false_iff.mpr c8
      subst c8
      have H1 : (galoislaw09_PolymodRabin.j0 k a0 l1 l2 true) = some r := by rw [if_neg (show ¬ (false = true) by decide)] at H; exact H
      clear H
      have H := H1
      clear H1
      as_aux_lemma =>
       have H' := ak H
       clear H
       go_wp2_with (first | ((with_reducible refine gate_callee (f := 13) rfl ?_); refine goesL_ (some 20) rfl rfl Try.func13 (by kernel_rfl) rfl #[] rfl mX ?_; (with_reducible refine (galoislaw09_awake.calls k  true _ A5.out).mono ?_); rintro e w10 ⟨rfl, hb⟩; refine ⟨_, rfl, ?_⟩; have n0_ := ak (below_step bX hb); clear HB; have HB := n0_; clear n0_; (try clear hb); (try clear hb2); (try clear hk); (try clear hi)) | (go_at_call 17; (with_reducible refine (galoislaw09_few.calls k a0 _ _ l1 _ _ l2 8 false _ ?side1 ?side2 ?side3 ?side4 A7.out).mono ?_); (case side1 => exact cX (Kd.C_below HR1.out HB.out)); (case side2 => exact HC1.out); (case side3 => exact cX (Kd.C_below HR2.out HB.out)); (case side4 => exact HC2.out); rintro e w' ⟨rfl, ⟨nd, rfl⟩⟩))
       go_meet
       case rel => exact ⟨_, (true), (by first | rfl | (simp; done) | (simp [*]; done)), H', ⟨by first | omega | exact Nat.le_refl _⟩, ⟨by repeat (first | (with_reducible first | exact HB.out | apply bA | apply bB | apply bC) | exact HB.out)⟩⟩
  · replace c6 := Bool.eq_false_iff.mpr c6
    subst c6
    have H1 : (galoislaw09_PolymodRabin.j0 k a0 l1 l2 true) = some r := by rw [if_neg (show ¬ (false = true) by decide)] at H; exact H
    clear H
    have H := H1
    clear H1
    as_aux_lemma =>
     have H' := ak H
     clear H
     go_wp2_with (first | ((with_reducible refine gate_callee (f := 13) rfl ?_); refine goesL_ (some 20) rfl rfl Try.func13 (by kernel_rfl) rfl #[] rfl mX ?_; (with_reducible refine (galoislaw09_awake.calls k  false _ A5.out).mono ?_); rintro e w11 ⟨rfl, hb⟩; refine ⟨_, rfl, ?_⟩; have n0_ := ak (below_step bX hb); clear HB; have HB := n0_; clear n0_; (try clear hb); (try clear hb2); (try clear hk); (try clear hi)))
     go_meet
     case rel => exact ⟨_, (true), (by first | rfl | (simp; done) | (simp [*]; done)), H', ⟨by first | omega | exact Nat.le_refl _⟩, ⟨by repeat (first | (with_reducible first | exact HB.out | apply bA | apply bB | apply bC) | exact HB.out)⟩⟩
 case rest =>
  clear HC4
  try clear c1
  try clear c2
  try clear p2
  try clear c4
  try clear c6
  try clear c8
  obtain ⟨kq, x32_3, rfl, HA, HJ3, HB⟩ := hcut
  cases kq with
  | zero => exact absurd HA.out (by simp [galoislaw09_PolymodRabin.j0])
  | succ kj3 =>
    have H := HA.out
    clear HA
    simp only [galoislaw09_PolymodRabin.j0] at H
    by_cases c12 : x32_3 = true
    · subst c12
      have H1 : ((galoislaw09_awake.f kj3).bind fun t384 => (some t384)) = some r := by rw [if_pos rfl] at H; exact H
      clear H
      have H := H1
      clear H1
      replace H := Option.bind_eq_some_iff.mp H
      obtain ⟨t384, A130, H⟩ := H
      replace H : (some t384) = some r := H
      have A13 := ak A130
      clear A130
      as_aux_lemma =>
       obtain rfl := Option.some.inj H
       go_wp2_with (first | ((with_reducible refine gate_callee (f := 13) rfl ?_); refine goesL_ (some 33) rfl rfl Try.func13 (by kernel_rfl) rfl #[] rfl mX ?_; (with_reducible refine (galoislaw09_awake.calls kj3  t384 _ A13.out).mono ?_); rintro e w14 ⟨rfl, hb⟩; refine ⟨_, rfl, ?_⟩; have n0_ := ak (below_step bX hb); clear HB; have HB := n0_; clear n0_; (try clear hb); (try clear hb2); (try clear hk); (try clear hi)))
       go_ret
       exact ⟨by first | rfl | (simp [errW_none, errW_some] <;> rfl) | (simp [*, errW_none, errW_some] <;> rfl), by repeat (first | (with_reducible first | exact HB.out | apply bA | apply bB | apply bC) | exact HB.out)⟩
    · replace c12 := Bool.eq_false_iff.mpr c12
      subst c12
      have H1 : ((polymod_Mul.f kj3 a0 l1 l2).bind fun bt385 => ((polymod_IsIrreducible.f kj3 a0 bt385.1).bind fun bt389 => ((polymod_IsIrreducible.f kj3 a0 l1).bind fun bt391 => (if bt385.2 = 0 then (if bt389.2 = 0 then (if bt391.2 = 0 then (if (l1.length : Int) > 1 then (if (l2.length : Int) > 1 then (if bt389.1 = true then (galoislaw09_PolymodRabin.j1 kj3 a0 l1 bt391.1 true) else (if (l1.length : Int) = 2 then (if bt391.1 = true then (if (l1.length : Int) < 2 then (galoislaw09_PolymodRabin.j1 kj3 a0 l1 bt391.1 bt391.1) else (galoislaw09_PolymodRabin.j1 kj3 a0 l1 bt391.1 false)) else (galoislaw09_PolymodRabin.j1 kj3 a0 l1 bt391.1 true)) else (if (l1.length : Int) < 2 then (galoislaw09_PolymodRabin.j1 kj3 a0 l1 bt391.1 bt391.1) else (galoislaw09_PolymodRabin.j1 kj3 a0 l1 bt391.1 false)))) else (if (l1.length : Int) = 2 then (if bt391.1 = true then (if (l1.length : Int) < 2 then (galoislaw09_PolymodRabin.j1 kj3 a0 l1 bt391.1 bt391.1) else (galoislaw09_PolymodRabin.j1 kj3 a0 l1 bt391.1 false)) else (galoislaw09_PolymodRabin.j1 kj3 a0 l1 bt391.1 true)) else (if (l1.length : Int) < 2 then (galoislaw09_PolymodRabin.j1 kj3 a0 l1 bt391.1 bt391.1) else (galoislaw09_PolymodRabin.j1 kj3 a0 l1 bt391.1 false)))) else (if (l1.length : Int) = 2 then (if bt391.1 = true then (if (l1.length : Int) < 2 then (galoislaw09_PolymodRabin.j1 kj3 a0 l1 bt391.1 bt391.1) else (galoislaw09_PolymodRabin.j1 kj3 a0 l1 bt391.1 false)) else (galoislaw09_PolymodRabin.j1 kj3 a0 l1 bt391.1 true)) else (if (l1.length : Int) < 2 then (galoislaw09_PolymodRabin.j1 kj3 a0 l1 bt391.1 bt391.1) else (galoislaw09_PolymodRabin.j1 kj3 a0 l1 bt391.1 false)))) else (galoislaw09_PolymodRabin.j1 kj3 a0 l1 bt391.1 true)) else (galoislaw09_PolymodRabin.j1 kj3 a0 l1 bt391.1 true)) else (galoislaw09_PolymodRabin.j1 kj3 a0 l1 bt391.1 true))))) = some r := by rw [if_neg (show ¬ (false = true) by decide)] at H; exact H
      clear H
      have H := H1
      clear H1
      replace H := Option.bind_eq_some_iff.mp H
      obtain ⟨⟨t385, t388⟩, A150, H⟩ := H
      replace H : ((polymod_IsIrreducible.f kj3 a0 t385).bind fun bt389 => ((polymod_IsIrreducible.f kj3 a0 l1).bind fun bt391 => (if t388 = 0 then (if bt389.2 = 0 then (if bt391.2 = 0 then (if (l1.length : Int) > 1 then (if (l2.length : Int) > 1 then (if bt389.1 = true then (galoislaw09_PolymodRabin.j1 kj3 a0 l1 bt391.1 true) else (if (l1.length : Int) = 2 then (if bt391.1 = true then (if (l1.length : Int) < 2 then (galoislaw09_PolymodRabin.j1 kj3 a0 l1 bt391.1 bt391.1) else (galoislaw09_PolymodRabin.j1 kj3 a0 l1 bt391.1 false)) else (galoislaw09_PolymodRabin.j1 kj3 a0 l1 bt391.1 true)) else (if (l1.length : Int) < 2 then (galoislaw09_PolymodRabin.j1 kj3 a0 l1 bt391.1 bt391.1) else (galoislaw09_PolymodRabin.j1 kj3 a0 l1 bt391.1 false)))) else (if (l1.length : Int) = 2 then (if bt391.1 = true then (if (l1.length : Int) < 2 then (galoislaw09_PolymodRabin.j1 kj3 a0 l1 bt391.1 bt391.1) else (galoislaw09_PolymodRabin.j1 kj3 a0 l1 bt391.1 false)) else (galoislaw09_PolymodRabin.j1 kj3 a0 l1 bt391.1 true)) else (if (l1.length : Int) < 2 then (galoislaw09_PolymodRabin.j1 kj3 a0 l1 bt391.1 bt391.1) else (galoislaw09_PolymodRabin.j1 kj3 a0 l1 bt391.1 false)))) else (if (l1.length : Int) = 2 then (if bt391.1 = true then (if (l1.length : Int) < 2 then (galoislaw09_PolymodRabin.j1 kj3 a0 l1 bt391.1 bt391.1) else (galoislaw09_PolymodRabin.j1 kj3 a0 l1 bt391.1 false)) else (galoislaw09_PolymodRabin.j1 kj3 a0 l1 bt391.1 true)) else (if (l1.length : Int) < 2 then (galoislaw09_PolymodRabin.j1 kj3 a0 l1 bt391.1 bt391.1) else (galoislaw09_PolymodRabin.j1 kj3 a0 l1 bt391.1 false)))) else (galoislaw09_PolymodRabin.j1 kj3 a0 l1 bt391.1 true)) else (galoislaw09_PolymodRabin.j1 kj3 a0 l1 bt391.1 true)) else (galoislaw09_PolymodRabin.j1 kj3 a0 l1 bt391.1 true)))) = some r := H
      have A15 := ak A150
      clear A150
      replace H := Option.bind_eq_some_iff.mp H
      obtain ⟨⟨t389, t390⟩, A160, H⟩ := H
      replace H : ((polymod_IsIrreducible.f kj3 a0 l1).bind fun bt391 => (if t388 = 0 then (if t390 = 0 then (if bt391.2 = 0 then (if (l1.length : Int) > 1 then (if (l2.length : Int) > 1 then (if t389 = true then (galoislaw09_PolymodRabin.j1 kj3 a0 l1 bt391.1 true) else (if (l1.length : Int) = 2 then (if bt391.1 = true then (if (l1.length : Int) < 2 then (galoislaw09_PolymodRabin.j1 kj3 a0 l1 bt391.1 bt391.1) else (galoislaw09_PolymodRabin.j1 kj3 a0 l1 bt391.1 false)) else (galoislaw09_PolymodRabin.j1 kj3 a0 l1 bt391.1 true)) else (if (l1.length : Int) < 2 then (galoislaw09_PolymodRabin.j1 kj3 a0 l1 bt391.1 bt391.1) else (galoislaw09_PolymodRabin.j1 kj3 a0 l1 bt391.1 false)))) else (if (l1.length : Int) = 2 then (if bt391.1 = true then (if (l1.length : Int) < 2 then (galoislaw09_PolymodRabin.j1 kj3 a0 l1 bt391.1 bt391.1) else (galoislaw09_PolymodRabin.j1 kj3 a0 l1 bt391.1 false)) else (galoislaw09_PolymodRabin.j1 kj3 a0 l1 bt391.1 true)) else (if (l1.length : Int) < 2 then (galoislaw09_PolymodRabin.j1 kj3 a0 l1 bt391.1 bt391.1) else (galoislaw09_PolymodRabin.j1 kj3 a0 l1 bt391.1 false)))) else (if (l1.length : Int) = 2 then (if bt391.1 = true then (if (l1.length : Int) < 2 then (galoislaw09_PolymodRabin.j1 kj3 a0 l1 bt391.1 bt391.1) else (galoislaw09_PolymodRabin.j1 kj3 a0 l1 bt391.1 false)) else (galoislaw09_PolymodRabin.j1 kj3 a0 l1 bt391.1 true)) else (if (l1.length : Int) < 2 then (galoislaw09_PolymodRabin.j1 kj3 a0 l1 bt391.1 bt391.1) else (galoislaw09_PolymodRabin.j1 kj3 a0 l1 bt391.1 false)))) else (galoislaw09_PolymodRabin.j1 kj3 a0 l1 bt391.1 true)) else (galoislaw09_PolymodRabin.j1 kj3 a0 l1 bt391.1 true)) else (galoislaw09_PolymodRabin.j1 kj3 a0 l1 bt391.1 true))) = some r := H
      have A16 := ak A160
      clear A160
      replace H := Option.bind_eq_some_iff.mp H
      obtain ⟨⟨t391, t392⟩, A170, H⟩ := H
      replace H : (if t388 = 0 then (if t390 = 0 then (if t392 = 0 then (if (l1.length : Int) > 1 then (if (l2.length : Int) > 1 then (if t389 = true then (galoislaw09_PolymodRabin.j1 kj3 a0 l1 t391 true) else (if (l1.length : Int) = 2 then (if t391 = true then (if (l1.length : Int) < 2 then (galoislaw09_PolymodRabin.j1 kj3 a0 l1 t391 t391) else (galoislaw09_PolymodRabin.j1 kj3 a0 l1 t391 false)) else (galoislaw09_PolymodRabin.j1 kj3 a0 l1 t391 true)) else (if (l1.length : Int) < 2 then (galoislaw09_PolymodRabin.j1 kj3 a0 l1 t391 t391) else (galoislaw09_PolymodRabin.j1 kj3 a0 l1 t391 false)))) else (if (l1.length : Int) = 2 then (if t391 = true then (if (l1.length : Int) < 2 then (galoislaw09_PolymodRabin.j1 kj3 a0 l1 t391 t391) else (galoislaw09_PolymodRabin.j1 kj3 a0 l1 t391 false)) else (galoislaw09_PolymodRabin.j1 kj3 a0 l1 t391 true)) else (if (l1.length : Int) < 2 then (galoislaw09_PolymodRabin.j1 kj3 a0 l1 t391 t391) else (galoislaw09_PolymodRabin.j1 kj3 a0 l1 t391 false)))) else (if (l1.length : Int) = 2 then (if t391 = true then (if (l1.length : Int) < 2 then (galoislaw09_PolymodRabin.j1 kj3 a0 l1 t391 t391) else (galoislaw09_PolymodRabin.j1 kj3 a0 l1 t391 false)) else (galoislaw09_PolymodRabin.j1 kj3 a0 l1 t391 true)) else (if (l1.length : Int) < 2 then (galoislaw09_PolymodRabin.j1 kj3 a0 l1 t391 t391) else (galoislaw09_PolymodRabin.j1 kj3 a0 l1 t391 false)))) else (galoislaw09_PolymodRabin.j1 kj3 a0 l1 t391 true)) else (galoislaw09_PolymodRabin.j1 kj3 a0 l1 t391 true)) else (galoislaw09_PolymodRabin.j1 kj3 a0 l1 t391 true)) = some r := H
      have A17 := ak A170
      clear A170
      have HC18 := ak H
      clear H
      go_upto_region 6 with (first | ((with_reducible refine gate_callee (f := 18) rfl ?_); refine goesL_ (some 38) rfl rfl Try.func18 (by kernel_rfl) rfl #[.int .i64 a0, .slice A1 l1.length c1, .slice A2 l2.length c2] rfl mX ?_; (with_reducible refine (polymod_Mul.calls kj3 a0 (fun k_ => k_ < w.heap.size) _ _ l1 (fun k_ => k_ < w.heap.size) _ _ l2 t385 t388 _ ?side1 ?side2 A15.out).mono ?_); (case side1 => exact Kd.V_mk HC1.out (Kd.F_below (Kd.C_F (Kd.heap_int .i64) HR1.out) bX)); (case side2 => exact Kd.V_mk HC2.out (Kd.F_below (Kd.C_F (Kd.heap_int .i64) HR2.out) bX)); rintro e w19 ⟨v386, rfl, ho0, hb⟩; refine ⟨_, rfl, ?_⟩; have n0_ := ak (Kd.V_lower (Kd.V_mono (ok' := fun k_ => True) ho0 (fun k_ hk_ => trivial)) (below_size bX)); have n1_ := ak (below_step bX hb); clear HB; have HO387 := n0_; have HB := n1_; clear n0_ n1_; (try clear hb); (try clear hb2); (try clear hk); (try clear hi); (try clear ho0); obtain ⟨Ao20, co20, eo20⟩ := Kd.V_slice HO387.out; subst eo20) | ((with_reducible refine gate_callee (f := 14) rfl ?_); refine goesL_ (some 44) rfl rfl Try.func14 (by kernel_rfl) rfl #[.int .i64 a0, .slice Ao20 t385.length co20] rfl mX ?_; (with_reducible refine (polymod_IsIrreducible.calls kj3 a0 (fun k_ => True) _ _ t385 t389 t390 _ ?side1 A16.out).mono ?_); (case side1 => exact HO387.out); rintro e w21 ⟨rfl, hb⟩; refine ⟨_, rfl, ?_⟩; have n0_ := ak (Kd.V_below (vX HO387.out) hb); have n1_ := ak (below_step bX hb); clear HO387; clear HB; have HO387 := n0_; have HB := n1_; clear n0_ n1_; (try clear hb); (try clear hb2); (try clear hk); (try clear hi)) | ((with_reducible refine gate_callee (f := 14) rfl ?_); refine goesL_ (some 50) rfl rfl Try.func14 (by kernel_rfl) rfl #[.int .i64 a0, .slice A1 l1.length c1] rfl mX ?_; (with_reducible refine (polymod_IsIrreducible.calls kj3 a0 (fun k_ => k_ < w.heap.size) _ _ l1 t391 t392 _ ?side1 A17.out).mono ?_); (case side1 => exact Kd.V_mk HC1.out (Kd.F_below (Kd.C_F (Kd.heap_int .i64) HR1.out) bX)); rintro e w22 ⟨rfl, hb⟩; refine ⟨_, rfl, ?_⟩; have n0_ := ak (Kd.V_below (vX HO387.out) hb); have n1_ := ak (below_step bX hb); clear HO387; clear HB; have HO387 := n0_; have HB := n1_; clear n0_ n1_; (try clear hb); (try clear hb2); (try clear hk); (try clear hi)))
      (try simp only [Act.put, sS, s0, s1])
      go_cut [92] (fun v92 wc => ∃ (kq : Nat) (x92_17 : Bool), v92 = .bool x92_17 ∧ Aside0 (galoislaw09_PolymodRabin.j1 kq a0 l1 t391 x92_17 = some r) ∧ Aside0 (kq ≤ kj3) ∧ Aside0 (Below w.heap.size w wc))
      case first =>
       have H := HC18.out
       clear HC18
       by_cases c23 : t388 = 0
       · rw [if_pos c23] at H
         have c23b0 : (t388 == 0) = true := beq_iff_eq.mpr c23
         have c23b1 : (t388 != 0) = false := bne_eq_false_iff_eq.mpr c23
         clear c23
         (first | rw [c23b0] | (simp only [i64_w, i32_w]; rw [c23b0]) | skip)
         by_cases c24 : t390 = 0
         · rw [if_pos c24] at H
           have c24b0 : (t390 == 0) = true := beq_iff_eq.mpr c24
           have c24b1 : (t390 != 0) = false := bne_eq_false_iff_eq.mpr c24
           clear c24
           by_cases c25 : t392 = 0
           · rw [if_pos c25] at H
             have c25b0 : (t392 == 0) = true := beq_iff_eq.mpr c25
             have c25b1 : (t392 != 0) = false := bne_eq_false_iff_eq.mpr c25
             clear c25
             by_cases c26 : (l1.length : Int) > 1
             · rw [if_pos c26] at H
               have c26b0 : decide (1 < (l1.length : Int)) = true := decide_eq_true c26
               have c26b1 : decide (1 < l1.length) = true := decide_eq_true (by omega)
               clear c26
               by_cases c27 : (l2.length : Int) > 1
               · rw [if_pos c27] at H
                 have c27b0 : decide (1 < (l2.length : Int)) = true := decide_eq_true c27
                 have c27b1 : decide (1 < l2.length) = true := decide_eq_true (by omega)
                 clear c27
                 by_cases c28 : t389 = true
                 · subst c28
                   have H1 : (galoislaw09_PolymodRabin.j1 kj3 a0 l1 t391 true) = some r := by rw [if_pos rfl] at H; exact H
                   clear H
                   have H := H1
                   clear H1
                   as_aux_lemma =>
                    have H' := ak H
                    clear H
                    go_wp2
                    go_meet
                    case rel => exact ⟨_, (true), (by first | rfl | (simp; done) | (simp [*]; done)), H', ⟨by have := HJ3.out; first | omega | exact Nat.le_refl _⟩, ⟨by repeat (first | (with_reducible first | exact HB.out | apply bA | apply bB | apply bC) | exact HB.out)⟩⟩
                 · replace c28 := Bool.eq_false_iff.mpr c28
                   subst c28
                   have H1 : (if (l1.length : Int) = 2 then (if t391 = true then (if (l1.length : Int) < 2 then (galoislaw09_PolymodRabin.j1 kj3 a0 l1 t391 t391) else (galoislaw09_PolymodRabin.j1 kj3 a0 l1 t391 false)) else (galoislaw09_PolymodRabin.j1 kj3 a0 l1 t391 true)) else (if (l1.length : Int) < 2 then (galoislaw09_PolymodRabin.j1 kj3 a0 l1 t391 t391) else (galoislaw09_PolymodRabin.j1 kj3 a0 l1 t391 false))) = some r := by rw [if_neg (show ¬ (false = true) by decide)] at H; exact H
                   clear H
                   have H := H1
                   clear H1
                   by_cases c29 : (l1.length : Int) = 2
                   · rw [if_pos c29] at H
                     have c29b0 : ((l1.length : Int) == 2) = true := beq_iff_eq.mpr c29
                     have c29b1 : ((l1.length : Int) != 2) = false := bne_eq_false_iff_eq.mpr c29
                     clear c29
                     by_cases c30 : t391 = true
                     · subst c30
                       have H1 : (if (l1.length : Int) < 2 then (galoislaw09_PolymodRabin.j1 kj3 a0 l1 true true) else (galoislaw09_PolymodRabin.j1 kj3 a0 l1 true false)) = some r := by rw [if_pos rfl] at H; exact H
                       clear H
                       have H := H1
                       clear H1
                       by_cases c31 : (l1.length : Int) < 2
                       · rw [if_pos c31] at H
                         have c31b0 : decide ((l1.length : Int) < 2) = true := decide_eq_true c31
                         have c31b1 : decide (l1.length < 2) = true := decide_eq_true (by omega)
                         clear c31
                         as_aux_lemma =>
                          have H' := ak H
                          clear H
                          go_wp2
                          go_meet
                          case rel => exact ⟨_, (true), (by first | rfl | (simp; done) | (simp [*]; done)), H', ⟨by have := HJ3.out; first | omega | exact Nat.le_refl _⟩, ⟨by repeat (first | (with_reducible first | exact HB.out | apply bA | apply bB | apply bC) | exact HB.out)⟩⟩
                       · rw [if_neg c31] at H
                         have c31b0 : decide ((l1.length : Int) < 2) = false := decide_eq_false c31
                         have c31b1 : decide (l1.length < 2) = false := decide_eq_false (by omega)
                         clear c31
                         as_aux_lemma =>
                          have H' := ak H
                          clear H
                          go_wp2
                          go_meet
                          case rel => exact ⟨_, (false), (by first | rfl | (simp; done) | (simp [*]; done)), H', ⟨by have := HJ3.out; first | omega | exact Nat.le_refl _⟩, ⟨by repeat (first | (with_reducible first | exact HB.out | apply bA | apply bB | apply bC) | exact HB.out)⟩⟩
                     · replace c30 := Bool.eq_false_iff.mpr c30
                       subst c30
                       have H1 : (galoislaw09_PolymodRabin.j1 kj3 a0 l1 false true) = some r := by rw [if_neg (show ¬ (false = true) by decide)] at H; exact H
                       clear H
                       have H := H1
                       clear H1
                       as_aux_lemma =>
                        have H' := ak H
                        clear H
                        go_wp2
                        go_meet
                        case rel => exact ⟨_, (true), (by first | rfl | (simp; done) | (simp [*]; done)), H', ⟨by have := HJ3.out; first | omega | exact Nat.le_refl _⟩, ⟨by repeat (first | (with_reducible first | exact HB.out | apply bA | apply bB | apply bC) | exact HB.out)⟩⟩
                   · rw [if_neg c29] at H
                     have c29b0 : ((l1.length : Int) == 2) = false := beq_eq_false_iff_ne.mpr c29
                     have c29b1 : ((l1.length : Int) != 2) = true := bne_iff_ne.mpr c29
                     by_cases c32 : (l1.length : Int) < 2
                     · rw [if_pos c32] at H
                       have c32b0 : decide ((l1.length : Int) < 2) = true := decide_eq_true c32
                       have c32b1 : decide (l1.length < 2) = true := decide_eq_true (by omega)
                       clear c32
                       as_aux_lemma =>
                        have H' := ak H
                        clear H
                        go_wp2
                        go_meet
                        case rel => exact ⟨_, (t391), (by first | rfl | (simp; done) | (simp [*]; done)), H', ⟨by have := HJ3.out; first | omega | exact Nat.le_refl _⟩, ⟨by repeat (first | (with_reducible first | exact HB.out | apply bA | apply bB | apply bC) | exact HB.out)⟩⟩
                     · rw [if_neg c32] at H
                       have c32b0 : decide ((l1.length : Int) < 2) = false := decide_eq_false c32
                       have c32b1 : decide (l1.length < 2) = false := decide_eq_false (by omega)
                       clear c32
                       as_aux_lemma =>
                        have H' := ak H
                        clear H
                        go_wp2
                        go_meet
                        case rel => exact ⟨_, (false), (by first | rfl | (simp; done) | (simp [*]; done)), H', ⟨by have := HJ3.out; first | omega | exact Nat.le_refl _⟩, ⟨by repeat (first | (with_reducible first | exact HB.out | apply bA | apply bB | apply bC) | exact HB.out)⟩⟩
               · rw [if_neg c27] at H
                 have c27b0 : decide (1 < (l2.length : Int)) = false := decide_eq_false c27
                 have c27b1 : decide (1 < l2.length) = false := decide_eq_false (by omega)
                 clear c27
                 by_cases c33 : (l1.length : Int) = 2
                 · rw [if_pos c33] at H
                   have c33b0 : ((l1.length : Int) == 2) = true := beq_iff_eq.mpr c33
                   have c33b1 : ((l1.length : Int) != 2) = false := bne_eq_false_iff_eq.mpr c33
                   clear c33
                   by_cases c34 : t391 = true
                   · subst c34
                     have H1 : (if (l1.length : Int) < 2 then (galoislaw09_PolymodRabin.j1 kj3 a0 l1 true true) else (galoislaw09_PolymodRabin.j1 kj3 a0 l1 true false)) = some r := by rw [if_pos rfl] at H; exact H
                     clear H
                     have H := H1
                     clear H1
                     by_cases c35 : (l1.length : Int) < 2
                     · rw [if_pos c35] at H
                       have c35b0 : decide ((l1.length : Int) < 2) = true := decide_eq_true c35
                       have c35b1 : decide (l1.length < 2) = true := decide_eq_true (by omega)
                       clear c35
                       as_aux_lemma =>
                        have H' := ak H
                        clear H
                        go_wp2
                        go_meet
                        case rel => exact ⟨_, (true), (by first | rfl | (simp; done) | (simp [*]; done)), H', ⟨by have := HJ3.out; first | omega | exact Nat.le_refl _⟩, ⟨by repeat (first | (with_reducible first | exact HB.out | apply bA | apply bB | apply bC) | exact HB.out)⟩⟩
                     · rw [if_neg c35] at H
                       have c35b0 : decide ((l1.length : Int) < 2) = false := decide_eq_false c35
                       have c35b1 : decide (l1.length < 2) = false := decide_eq_false (by omega)
                       clear c35
                       as_aux_lemma =>
                        have H' := ak H
                        clear H
                        go_wp2
                        go_meet
                        case rel => exact ⟨_, (false), (by first | rfl | (simp; done) | (simp [*]; done)), H', ⟨by have := HJ3.out; first | omega | exact Nat.le_refl _⟩, ⟨by repeat (first | (with_reducible first | exact HB.out | apply bA | apply bB | apply bC) | exact HB.out)⟩⟩
                   · replace c34 := Bool.eq_false_iff.mpr c34
                     subst c34
                     have H1 : (galoislaw09_PolymodRabin.j1 kj3 a0 l1 false true) = some r := by rw [if_neg (show ¬ (false = true) by decide)] at H; exact H
                     clear H
                     have H := H1
                     clear H1
                     as_aux_lemma =>
                      have H' := ak H
                      clear H
                      go_wp2
                      go_meet
                      case rel => exact ⟨_, (true), (by first | rfl | (simp; done) | (simp [*]; done)), H', ⟨by have := HJ3.out; first | omega | exact Nat.le_refl _⟩, ⟨by repeat (first | (with_reducible first | exact HB.out | apply bA | apply bB | apply bC) | exact HB.out)⟩⟩
                 · rw [if_neg c33] at H
                   have c33b0 : ((l1.length : Int) == 2) = false := beq_eq_false_iff_ne.mpr c33
                   have c33b1 : ((l1.length : Int) != 2) = true := bne_iff_ne.mpr c33
                   by_cases c36 : (l1.length : Int) < 2
                   · rw [if_pos c36] at H
                     have c36b0 : decide ((l1.length : Int) < 2) = true := decide_eq_true c36
                     have c36b1 : decide (l1.length < 2) = true := decide_eq_true (by omega)
                     clear c36
                     as_aux_lemma =>
                      have H' := ak H
                      clear H
                      go_wp2
                      go_meet
                      case rel => exact ⟨_, (t391), (by first | rfl | (simp; done) | (simp [*]; done)), H', ⟨by have := HJ3.out; first | omega | exact Nat.le_refl _⟩, ⟨by repeat (first | (with_reducible first | exact HB.out | apply bA | apply bB | apply bC) | exact HB.out)⟩⟩
                   · rw [if_neg c36] at H
                     have c36b0 : decide ((l1.length : Int) < 2) = false := decide_eq_false c36
                     have c36b1 : decide (l1.length < 2) = false := decide_eq_false (by omega)
                     clear c36
                     as_aux_lemma =>
                      have H' := ak H
                      clear H
                      go_wp2
                      go_meet
                      case rel => exact ⟨_, (false), (by first | rfl | (simp; done) | (simp [*]; done)), H', ⟨by have := HJ3.out; first | omega | exact Nat.le_refl _⟩, ⟨by repeat (first | (with_reducible first | exact HB.out | apply bA | apply bB | apply bC) | exact HB.out)⟩⟩
             · rw [if_neg c26] at H
               have c26b0 : decide (1 < (l1.length : Int)) = false := decide_eq_false c26
               have c26b1 : decide (1 < l1.length) = false := decide_eq_false (by omega)
               clear c26
               by_cases c37 : (l1.length : Int) = 2
               · rw [if_pos c37] at H
                 have c37b0 : ((l1.length : Int) == 2) = true := beq_iff_eq.mpr c37
                 have c37b1 : ((l1.length : Int) != 2) = false := bne_eq_false_iff_eq.mpr c37
                 clear c37
                 by_cases c38 : t391 = true
                 · subst c38
                   have H1 : (if (l1.length : Int) < 2 then (galoislaw09_PolymodRabin.j1 kj3 a0 l1 true true) else (galoislaw09_PolymodRabin.j1 kj3 a0 l1 true false)) = some r := by rw [if_pos rfl] at H; exact H
                   clear H
                   have H := H1
                   clear H1
                   by_cases c39 : (l1.length : Int) < 2
                   · rw [if_pos c39] at H
                     have c39b0 : decide ((l1.length : Int) < 2) = true := decide_eq_true c39
                     have c39b1 : decide (l1.length < 2) = true := decide_eq_true (by omega)
                     clear c39
                     as_aux_lemma =>
                      have H' := ak H
                      clear H
                      go_wp2
                      go_meet
                      case rel => exact ⟨_, (true), (by first | rfl | (simp; done) | (simp [*]; done)), H', ⟨by have := HJ3.out; first | omega | exact Nat.le_refl _⟩, ⟨by repeat (first | (with_reducible first | exact HB.out | apply bA | apply bB | apply bC) | exact HB.out)⟩⟩
                   · rw [if_neg c39] at H
                     have c39b0 : decide ((l1.length : Int) < 2) = false := decide_eq_false c39
                     have c39b1 : decide (l1.length < 2) = false := decide_eq_false (by omega)
                     clear c39
                     as_aux_lemma =>
                      have H' := ak H
                      clear H
                      go_wp2
                      go_meet
                      case rel => exact ⟨_, (false), (by first | rfl | (simp; done) | (simp [*]; done)), H', ⟨by have := HJ3.out; first | omega | exact Nat.le_refl _⟩, ⟨by repeat (first | (with_reducible first | exact HB.out | apply bA | apply bB | apply bC) | exact HB.out)⟩⟩
                 · replace c38 := Bool.eq_false_iff.mpr c38
                   subst c38
                   have H1 : (galoislaw09_PolymodRabin.j1 kj3 a0 l1 false true) = some r := by rw [if_neg (show ¬ (false = true) by decide)] at H; exact H
                   clear H
                   have H := H1
                   clear H1
                   as_aux_lemma =>
                    have H' := ak H
                    clear H
                    go_wp2
                    go_meet
                    case rel => exact ⟨_, (true), (by first | rfl | (simp; done) | (simp [*]; done)), H', ⟨by have := HJ3.out; first | omega | exact Nat.le_refl _⟩, ⟨by repeat (first | (with_reducible first | exact HB.out | apply bA | apply bB | apply bC) | exact HB.out)⟩⟩
               · rw [if_neg c37] at H
                 have c37b0 : ((l1.length : Int) == 2) = false := beq_eq_false_iff_ne.mpr c37
                 have c37b1 : ((l1.length : Int) != 2) = true := bne_iff_ne.mpr c37
                 by_cases c40 : (l1.length : Int) < 2
                 · rw [if_pos c40] at H
                   have c40b0 : decide ((l1.length : Int) < 2) = true := decide_eq_true c40
                   have c40b1 : decide (l1.length < 2) = true := decide_eq_true (by omega)
                   clear c40
                   as_aux_lemma =>
                    have H' := ak H
                    clear H
                    go_wp2
                    go_meet
                    case rel => exact ⟨_, (t391), (by first | rfl | (simp; done) | (simp [*]; done)), H', ⟨by have := HJ3.out; first | omega | exact Nat.le_refl _⟩, ⟨by repeat (first | (with_reducible first | exact HB.out | apply bA | apply bB | apply bC) | exact HB.out)⟩⟩
                 · rw [if_neg c40] at H
                   have c40b0 : decide ((l1.length : Int) < 2) = false := decide_eq_false c40
                   have c40b1 : decide (l1.length < 2) = false := decide_eq_false (by omega)
                   clear c40
                   as_aux_lemma =>
                    have H' := ak H
                    clear H
                    go_wp2
                    go_meet
                    case rel => exact ⟨_, (false), (by first | rfl | (simp; done) | (simp [*]; done)), H', ⟨by have := HJ3.out; first | omega | exact Nat.le_refl _⟩, ⟨by repeat (first | (with_reducible first | exact HB.out | apply bA | apply bB | apply bC) | exact HB.out)⟩⟩
           · rw [if_neg c25] at H
             have c25b0 : (t392 == 0) = false := beq_eq_false_iff_ne.mpr c25
             have c25b1 : (t392 != 0) = true := bne_iff_ne.mpr c25
             as_aux_lemma =>
              have H' := ak H
              clear H
              go_wp2
              go_meet
              case rel => exact ⟨_, (true), (by first | rfl | (simp; done) | (simp [*]; done)), H', ⟨by have := HJ3.out; first | omega | exact Nat.le_refl _⟩, ⟨by repeat (first | (with_reducible first | exact HB.out | apply bA | apply bB | apply bC) | exact HB.out)⟩⟩
         · rw [if_neg c24] at H
           have c24b0 : (t390 == 0) = false := beq_eq_false_iff_ne.mpr c24
           have c24b1 : (t390 != 0) = true := bne_iff_ne.mpr c24
           as_aux_lemma =>
            have H' := ak H
            clear H
            go_wp2
            go_meet
            case rel => exact ⟨_, (true), (by first | rfl | (simp; done) | (simp [*]; done)), H', ⟨by have := HJ3.out; first | omega | exact Nat.le_refl _⟩, ⟨by repeat (first | (with_reducible first | exact HB.out | apply bA | apply bB | apply bC) | exact HB.out)⟩⟩
       · rw [if_neg c23] at H
         have c23b0 : (t388 == 0) = false := beq_eq_false_iff_ne.mpr c23
         have c23b1 : (t388 != 0) = true := bne_iff_ne.mpr c23
         (first | rw [c23b0] | (simp only [i64_w, i32_w]; rw [c23b0]) | skip)
         as_aux_lemma =>
          have H' := ak H
          clear H
          go_wp2
          go_meet
          case rel => exact ⟨_, (true), (by first | rfl | (simp; done) | (simp [*]; done)), H', ⟨by have := HJ3.out; first | omega | exact Nat.le_refl _⟩, ⟨by repeat (first | (with_reducible first | exact HB.out | apply bA | apply bB | apply bC) | exact HB.out)⟩⟩
      case rest =>
       clear HC18
       try clear c1
       try clear c2
       try clear p2
       try clear c3
       try clear c4
       try clear c6
       try clear c8
       try clear c12
       try clear c13
       try clear c14
       try clear c18
       try clear c23
       try clear c23b0
       try clear c23b1
       try clear c24
       try clear c24b0
       try clear c24b1
       try clear c25
       try clear c25b0
       try clear c25b1
       try clear c26
       try clear c26b0
       try clear c26b1
       try clear c27
       try clear c27b0
       try clear c27b1
       try clear c28
       try clear c29
       try clear c29b0
       try clear c29b1
       try clear c30
       try clear c31
       try clear c31b0
       try clear c31b1
       try clear c32
       try clear c32b0
       try clear c32b1
       try clear c33
       try clear c33b0
       try clear c33b1
       try clear c34
       try clear c35
       try clear c35b0
       try clear c35b1
       try clear c36
       try clear c36b0
       try clear c36b1
       try clear c37
       try clear c37b0
       try clear c37b1
       try clear c38
       try clear c39
       try clear c39b0
       try clear c39b1
       try clear c40
       try clear c40b0
       try clear c40b1
       try clear p2
       obtain ⟨kq, x92_17, rfl, HA, HJ17, HB⟩ := hcut
       cases kq with
       | zero => exact absurd HA.out (by simp [galoislaw09_PolymodRabin.j1])
       | succ kj17 =>
         have H := HA.out
         clear HA
         simp only [galoislaw09_PolymodRabin.j1] at H
         by_cases c41 : x92_17 = true
         · subst c41
           have H1 : (some false) = some r := by rw [if_pos rfl] at H; exact H
           clear H
           have H := H1
           clear H1
           as_aux_lemma =>
            obtain rfl := Option.some.inj H
            go_wp2
            go_ret
            exact ⟨by first | rfl | (simp [errW_none, errW_some] <;> rfl) | (simp [*, errW_none, errW_some] <;> rfl), by repeat (first | (with_reducible first | exact HB.out | apply bA | apply bB | apply bC) | exact HB.out)⟩
         · replace c41 := Bool.eq_false_iff.mpr c41
           subst c41
           have H1 : (if t391 = true then (galoislaw09_PolymodRabin.l0 kj17 a0 l1 (([0, 1] : List Int)) 1) else (some true)) = some r := by rw [if_neg (show ¬ (false = true) by decide)] at H; exact H
           clear H
           have H := H1
           clear H1
           by_cases c42 : t391 = true
           · subst c42
             have H1 : (galoislaw09_PolymodRabin.l0 kj17 a0 l1 (([0, 1] : List Int)) 1) = some r := by rw [if_pos rfl] at H; exact H
             clear H
             have H := H1
             clear H1
             obtain ⟨y393, hy393⟩ : ∃ y_ : List Int, y_ = (([0, 1] : List Int)) := ⟨_, rfl⟩
             replace H : (galoislaw09_PolymodRabin.l0 kj17 a0 l1 y393 1) = some r := by first | (rw [hy393]; with_reducible exact H) | (have H2_ := (Option.bind_some _ _).symm.trans H; rw [hy393]; with_reducible exact H2_) | (have H2_ := (Option.bind_some _ _).symm.trans H; with_reducible exact H2_) | with_reducible exact H | (rw [hy393]; exact H) | exact H
             have Ny393 := ak hy393
             clear hy393
             have H' := ak H
             clear H
             go_wp2_with (first | ((with_reducible refine gate_dst (N := 95) rfl ?_); (try (refine gate_guard (by rfl) ?_; dsimp only)); refine Kd.R_lit (Kd.int .i64) _ 3 ?hg (N := 95) ?hd (xs := ([0, 1] : List Int)) (inner := [.int .i64 0, .int .i64 1]) (ok := fun _ => True) (okp := fun _ => True) ?hr ?hp (fun _ hk => hk) trivial (Below.refl _ _) (Nat.le_refl _) (by simp) ?_; (case hd => rfl); (case hg => rfl); (case hr => first | (go_simp; done) | (go_simp; rfl)); (case hp => exact (Reps.one (show Kd.M (Kd.int .i64) _ _ _ 0 [.int .i64 0] from rfl) (Reps.one (show Kd.M (Kd.int .i64) _ _ _ 1 [.int .i64 1] from rfl) (Reps.none _ _)))); intro v394 w43 ho44 hb hg_ hnew_; clear hg_ hnew_; (first | rw [← Ny393.out] at ho44 | (simp only [Int.reduceToNat] at ho44; rw [← Ny393.out] at ho44)); have n0_ := ak (Kd.R_lower ho44 (below_size bX)); have n1_ := ak (below_step bX hb); clear HB; have HO395 := n0_; have HB := n1_; clear n0_ n1_; clear hb ho44))
             go_loopg [13, 14] kj17 (fun kq v13 v14 w' => ∃ (x13_3 : List Int) (x14_3 : Int), v14 = .int .i64 x14_3 ∧ Aside0 (galoislaw09_PolymodRabin.l0 kq a0 l1 x13_3 x14_3 = some r) ∧ Aside0 (kq ≤ kj17) ∧ Aside0 (Kd.V (Kd.int .i64) 3 w' w.heap.size (fun _ => True) v13 x13_3) ∧ Aside0 (Below w.heap.size w w'))
             case atStart => exact ⟨(y393), (1), (by first | rfl | (simp; done) | (simp [*]; done)), H', ⟨Nat.le_refl _⟩, ⟨Kd.R_V (rX HO395.out)⟩, ⟨by repeat (first | (with_reducible first | exact HB.out | apply bA | apply bB | apply bC) | exact HB.out)⟩⟩
             case round =>
              clear H'
              try clear c1
              try clear c2
              try clear p2
              try clear c3
              try clear c4
              try clear c6
              try clear c8
              try clear c12
              try clear c13
              try clear c14
              try clear c18
              try clear c23
              try clear c23b0
              try clear c23b1
              try clear c24
              try clear c24b0
              try clear c24b1
              try clear c25
              try clear c25b0
              try clear c25b1
              try clear c26
              try clear c26b0
              try clear c26b1
              try clear c27
              try clear c27b0
              try clear c27b1
              try clear c28
              try clear c29
              try clear c29b0
              try clear c29b1
              try clear c30
              try clear c31
              try clear c31b0
              try clear c31b1
              try clear c32
              try clear c32b0
              try clear c32b1
              try clear c33
              try clear c33b0
              try clear c33b1
              try clear c34
              try clear c35
              try clear c35b0
              try clear c35b1
              try clear c36
              try clear c36b0
              try clear c36b1
              try clear c37
              try clear c37b0
              try clear c37b1
              try clear c38
              try clear c39
              try clear c39b0
              try clear c39b1
              try clear c40
              try clear c40b0
              try clear c40b1
              try clear c41
              try clear c42
              try clear p2
              obtain ⟨x13_3, x14_3, rfl, HA, HK3, HO_13, HB⟩ := hrel
              cases gk with
              | zero => exact absurd HA.out (by simp [galoislaw09_PolymodRabin.l0])
              | succ k3 =>
                have H := HA.out
                clear HA
                simp only [galoislaw09_PolymodRabin.l0] at H
                by_cases c45 : x14_3 < (l1.length : Int)
                · rw [if_pos c45] at H
                  have c45b0 : decide (x14_3 < (l1.length : Int)) = true := decide_eq_true c45
                  clear c45
                  replace H := Option.bind_eq_some_iff.mp H
                  obtain ⟨t410, A460, H⟩ := H
                  replace H : ((polymod_PowMod.f k3 a0 x13_3 t410 l1).bind fun bt411 => (if bt411.2 = 0 then (if (bt411.1.length : Int) ≥ (l1.length : Int) then (some false) else (galoislaw09_PolymodRabin.l0 k3 a0 l1 bt411.1 (wrap64 (x14_3 + 1)))) else (some false))) = some r := H
                  have A46 := ak A460
                  clear A460
                  replace H := Option.bind_eq_some_iff.mp H
                  obtain ⟨⟨t411, t414⟩, A470, H⟩ := H
                  replace H : (if t414 = 0 then (if (t411.length : Int) ≥ (l1.length : Int) then (some false) else (galoislaw09_PolymodRabin.l0 k3 a0 l1 t411 (wrap64 (x14_3 + 1)))) else (some false)) = some r := H
                  have A47 := ak A470
                  clear A470
                  by_cases c48 : t414 = 0
                  · rw [if_pos c48] at H
                    have c48b0 : (t414 == 0) = true := beq_iff_eq.mpr c48
                    have c48b1 : (t414 != 0) = false := bne_eq_false_iff_eq.mpr c48
                    clear c48
                    by_cases c49 : (t411.length : Int) ≥ (l1.length : Int)
                    · rw [if_pos c49] at H
                      have c49b0 : decide ((l1.length : Int) ≤ (t411.length : Int)) = true := decide_eq_true c49
                      have c49b1 : decide (l1.length ≤ t411.length) = true := decide_eq_true (Int.ofNat_le.mp c49)
                      clear c49
                      as_aux_lemma =>
                       obtain rfl := Option.some.inj H
                       go_wp2_with (first | ((with_reducible refine gate_callee (f := 20) rfl ?_); refine goesL_ (some 106) rfl rfl Try.func20 (by kernel_rfl) rfl #[.int .i64 a0] rfl mX ?_; (with_reducible refine (galoisref01_FromInt.calls k3 a0 t410 _ A46.out).mono ?_); rintro e w50 ⟨rfl, hb⟩; refine ⟨_, rfl, ?_⟩; have n0_ := ak (Kd.V_below (vX HO_13.out) hb); have n1_ := ak (below_step bX hb); clear HO_13; clear HB; have HO_13 := n0_; have HB := n1_; clear n0_ n1_; (try clear hb); (try clear hb2); (try clear hk); (try clear hi); obtain ⟨Ao51, co51, eo51⟩ := Kd.V_slice HO_13.out; subst eo51) | ((with_reducible refine gate_callee (f := 19) rfl ?_); refine goesL_ (some 108) rfl rfl Try.func19 (by kernel_rfl) rfl #[.int .i64 a0, .slice Ao51 x13_3.length co51, .string t410, .slice A1 l1.length c1] rfl mX ?_; (with_reducible refine (polymod_PowMod.calls k3 a0 (fun k_ => True) _ _ x13_3 t410 (fun k_ => k_ < w.heap.size) _ _ l1 t411 t414 _ ?side1 ?side2 A47.out).mono ?_); (case side1 => exact HO_13.out); (case side2 => exact Kd.V_mk HC1.out (Kd.F_below (Kd.C_F (Kd.heap_int .i64) HR1.out) bX)); rintro e w52 ⟨v412, rfl, ho0, hb⟩; refine ⟨_, rfl, ?_⟩; have n0_ := ak (Kd.V_below (vX HO_13.out) hb); have n1_ := ak (Kd.V_lower (Kd.V_mono (ok' := fun k_ => True) ho0 (fun k_ hk_ => trivial)) (below_size bX)); have n2_ := ak (below_step bX hb); clear HO_13; clear HB; have HO_13 := n0_; have HO413 := n1_; have HB := n2_; clear n0_ n1_ n2_; (try clear hb); (try clear hb2); (try clear hk); (try clear hi); (try clear ho0); obtain ⟨Ao53, co53, eo53⟩ := Kd.V_slice HO413.out; subst eo53))
                       go_ret
                       exact ⟨by first | rfl | (simp [errW_none, errW_some] <;> rfl) | (simp [*, errW_none, errW_some] <;> rfl), by repeat (first | (with_reducible first | exact HB.out | apply bA | apply bB | apply bC) | exact HB.out)⟩
                    · rw [if_neg c49] at H
                      have c49b0 : decide ((l1.length : Int) ≤ (t411.length : Int)) = false := decide_eq_false c49
                      have c49b1 : decide (l1.length ≤ t411.length) = false := decide_eq_false (fun h => c49 (Int.ofNat_le.mpr h))
                      clear c49
                      as_aux_lemma =>
                       have H' := ak H
                       clear H
                       go_wp2_with (first | ((with_reducible refine gate_callee (f := 20) rfl ?_); refine goesL_ (some 106) rfl rfl Try.func20 (by kernel_rfl) rfl #[.int .i64 a0] rfl mX ?_; (with_reducible refine (galoisref01_FromInt.calls k3 a0 t410 _ A46.out).mono ?_); rintro e w54 ⟨rfl, hb⟩; refine ⟨_, rfl, ?_⟩; have n0_ := ak (Kd.V_below (vX HO_13.out) hb); have n1_ := ak (below_step bX hb); clear HO_13; clear HB; have HO_13 := n0_; have HB := n1_; clear n0_ n1_; (try clear hb); (try clear hb2); (try clear hk); (try clear hi); obtain ⟨Ao55, co55, eo55⟩ := Kd.V_slice HO_13.out; subst eo55) | ((with_reducible refine gate_callee (f := 19) rfl ?_); refine goesL_ (some 108) rfl rfl Try.func19 (by kernel_rfl) rfl #[.int .i64 a0, .slice Ao55 x13_3.length co55, .string t410, .slice A1 l1.length c1] rfl mX ?_; (with_reducible refine (polymod_PowMod.calls k3 a0 (fun k_ => True) _ _ x13_3 t410 (fun k_ => k_ < w.heap.size) _ _ l1 t411 t414 _ ?side1 ?side2 A47.out).mono ?_); (case side1 => exact HO_13.out); (case side2 => exact Kd.V_mk HC1.out (Kd.F_below (Kd.C_F (Kd.heap_int .i64) HR1.out) bX)); rintro e w56 ⟨v412, rfl, ho0, hb⟩; refine ⟨_, rfl, ?_⟩; have n0_ := ak (Kd.V_below (vX HO_13.out) hb); have n1_ := ak (Kd.V_lower (Kd.V_mono (ok' := fun k_ => True) ho0 (fun k_ hk_ => trivial)) (below_size bX)); have n2_ := ak (below_step bX hb); clear HO_13; clear HB; have HO_13 := n0_; have HO413 := n1_; have HB := n2_; clear n0_ n1_ n2_; (try clear hb); (try clear hb2); (try clear hk); (try clear hi); (try clear ho0); obtain ⟨Ao57, co57, eo57⟩ := Kd.V_slice HO413.out; subst eo57))
                       (first | go_roundg k3 | (refine Handed.intro k3 ?measure ?_; rotate_left; go_step; (repeat rw [add_plain]); (repeat apply Exists.intro); refine ⟨?rel, rfl⟩))
                       case measure => have := HJ3.out; have := HJ17.out; have := HK3.out; omega
                       case rel => exact ⟨(t411), (wrap64 (x14_3 + 1)), (by first | rfl | (simp; done) | (simp [*]; done)), H', ⟨by have := HJ3.out; have := HJ17.out; have := HK3.out; omega⟩, ⟨by (with_reducible repeat (first | apply vA | apply vB | apply vC)); exact HO413.out⟩, ⟨by repeat (first | (with_reducible first | exact HB.out | apply bA | apply bB | apply bC) | exact HB.out)⟩⟩
                  · rw [if_neg c48] at H
                    have c48b0 : (t414 == 0) = false := beq_eq_false_iff_ne.mpr c48
                    have c48b1 : (t414 != 0) = true := bne_iff_ne.mpr c48
                    as_aux_lemma =>
                     obtain rfl := Option.some.inj H
                     go_wp2_with (first | ((with_reducible refine gate_callee (f := 20) rfl ?_); refine goesL_ (some 106) rfl rfl Try.func20 (by kernel_rfl) rfl #[.int .i64 a0] rfl mX ?_; (with_reducible refine (galoisref01_FromInt.calls k3 a0 t410 _ A46.out).mono ?_); rintro e w58 ⟨rfl, hb⟩; refine ⟨_, rfl, ?_⟩; have n0_ := ak (Kd.V_below (vX HO_13.out) hb); have n1_ := ak (below_step bX hb); clear HO_13; clear HB; have HO_13 := n0_; have HB := n1_; clear n0_ n1_; (try clear hb); (try clear hb2); (try clear hk); (try clear hi); obtain ⟨Ao59, co59, eo59⟩ := Kd.V_slice HO_13.out; subst eo59) | ((with_reducible refine gate_callee (f := 19) rfl ?_); refine goesL_ (some 108) rfl rfl Try.func19 (by kernel_rfl) rfl #[.int .i64 a0, .slice Ao59 x13_3.length co59, .string t410, .slice A1 l1.length c1] rfl mX ?_; (with_reducible refine (polymod_PowMod.calls k3 a0 (fun k_ => True) _ _ x13_3 t410 (fun k_ => k_ < w.heap.size) _ _ l1 t411 t414 _ ?side1 ?side2 A47.out).mono ?_); (case side1 => exact HO_13.out); (case side2 => exact Kd.V_mk HC1.out (Kd.F_below (Kd.C_F (Kd.heap_int .i64) HR1.out) bX)); rintro e w60 ⟨v412, rfl, ho0, hb⟩; refine ⟨_, rfl, ?_⟩; have n0_ := ak (Kd.V_below (vX HO_13.out) hb); have n1_ := ak (Kd.V_lower (Kd.V_mono (ok' := fun k_ => True) ho0 (fun k_ hk_ => trivial)) (below_size bX)); have n2_ := ak (below_step bX hb); clear HO_13; clear HB; have HO_13 := n0_; have HO413 := n1_; have HB := n2_; clear n0_ n1_ n2_; (try clear hb); (try clear hb2); (try clear hk); (try clear hi); (try clear ho0)))
                     go_ret
                     exact ⟨by first | rfl | (simp [errW_none, errW_some] <;> rfl) | (simp [*, errW_none, errW_some] <;> rfl), by repeat (first | (with_reducible first | exact HB.out | apply bA | apply bB | apply bC) | exact HB.out)⟩
                · rw [if_neg c45] at H
                  have c45b0 : decide (x14_3 < (l1.length : Int)) = false := decide_eq_false c45
                  clear c45
                  obtain ⟨y396, hy396⟩ : ∃ y_ : List Int, y_ = (([0, 1] : List Int)) := ⟨_, rfl⟩
                  replace H : ((polymod_Sub.f k3 a0 x13_3 y396).bind fun bt399 => ((polymod_DivMod.f k3 a0 bt399.1 l1).bind fun bt403 => (if bt399.2 = 0 then (if bt403.2.2 = 0 then (some ((bt403.2.1.length : Int) == 0)) else (some false)) else (some false)))) = some r := by first | (rw [hy396]; with_reducible exact H) | (have H2_ := (Option.bind_some _ _).symm.trans H; rw [hy396]; with_reducible exact H2_) | (have H2_ := (Option.bind_some _ _).symm.trans H; with_reducible exact H2_) | with_reducible exact H | (rw [hy396]; exact H) | exact H
                  have Ny396 := ak hy396
                  clear hy396
                  replace H := Option.bind_eq_some_iff.mp H
                  obtain ⟨⟨t399, t402⟩, A610, H⟩ := H
                  replace H : ((polymod_DivMod.f k3 a0 t399 l1).bind fun bt403 => (if t402 = 0 then (if bt403.2.2 = 0 then (some ((bt403.2.1.length : Int) == 0)) else (some false)) else (some false))) = some r := H
                  have A61 := ak A610
                  clear A610
                  replace H := Option.bind_eq_some_iff.mp H
                  obtain ⟨⟨t403, t406, t409⟩, A620, H⟩ := H
                  replace H : (if t402 = 0 then (if t409 = 0 then (some ((t406.length : Int) == 0)) else (some false)) else (some false)) = some r := H
                  have A62 := ak A620
                  clear A620
                  by_cases c63 : t402 = 0
                  · rw [if_pos c63] at H
                    have c63b0 : (t402 == 0) = true := beq_iff_eq.mpr c63
                    have c63b1 : (t402 != 0) = false := bne_eq_false_iff_eq.mpr c63
                    clear c63
                    by_cases c64 : t409 = 0
                    · rw [if_pos c64] at H
                      have c64b0 : (t409 == 0) = true := beq_iff_eq.mpr c64
                      have c64b1 : (t409 != 0) = false := bne_eq_false_iff_eq.mpr c64
                      clear c64
                      as_aux_lemma =>
                       obtain rfl := Option.some.inj H
                       go_wp2_with (first | ((with_reducible refine gate_dst (N := 124) rfl ?_); (try (refine gate_guard (by rfl) ?_; dsimp only)); refine Kd.R_lit (Kd.int .i64) _ 3 ?hg (N := 124) ?hd (xs := ([0, 1] : List Int)) (inner := [.int .i64 0, .int .i64 1]) (ok := fun _ => True) (okp := fun _ => True) ?hr ?hp (fun _ hk => hk) trivial (Below.refl _ _) (Nat.le_refl _) (by simp) ?_; (case hd => rfl); (case hg => rfl); (case hr => first | (go_simp; done) | (go_simp; rfl)); (case hp => exact (Reps.one (show Kd.M (Kd.int .i64) _ _ _ 0 [.int .i64 0] from rfl) (Reps.one (show Kd.M (Kd.int .i64) _ _ _ 1 [.int .i64 1] from rfl) (Reps.none _ _)))); intro v397 w65 ho66 hb hg_ hnew_; clear hg_ hnew_; (first | rw [← Ny396.out] at ho66 | (simp only [Int.reduceToNat] at ho66; rw [← Ny396.out] at ho66)); have n0_ := ak (Kd.V_elder' (vX HO_13.out) (Kd.R_base ho66) hb); have n1_ := ak (Kd.R_lower ho66 (below_size bX)); have n2_ := ak (below_step bX hb); clear HO_13; clear HB; have HO_13 := n0_; have HO398 := n1_; have HB := n2_; clear n0_ n1_ n2_; clear hb ho66; obtain ⟨Ao67, co67, eo67⟩ := Kd.V_slice HO_13.out; subst eo67; obtain ⟨Ao68, co68, eo68⟩ := Kd.R_slice HO398.out; subst eo68) | ((with_reducible refine gate_callee (f := 21) rfl ?_); refine goesL_ (some 125) rfl rfl Try.func21 (by kernel_rfl) rfl #[.int .i64 a0, .slice Ao67 x13_3.length co67, .slice Ao68 y396.length co68] rfl mX ?_; (with_reducible refine (polymod_Sub.calls k3 a0 (fun k_ => (True ∧ some k_ ≠ (.slice Ao68 y396.length co68 : Value).ownBlock)) _ _ x13_3 (fun k_ => some k_ = (.slice Ao68 y396.length co68 : Value).ownBlock) _ _ y396 t399 t402 _ ?side1 ?side2 A61.out).mono ?_); (case side1 => exact HO_13.out); (case side2 => exact Kd.R_V (Kd.R_tight rfl (HO398.out))); rintro e w69 ⟨v400, rfl, ho0, hb⟩; refine ⟨_, rfl, ?_⟩; have n0_ := ak (Kd.V_below (vX HO_13.out) hb); have n1_ := ak (Kd.R_below (rX HO398.out) hb); have n2_ := ak (Kd.V_lower (Kd.V_mono (ok' := fun k_ => True) ho0 (fun k_ hk_ => trivial)) (below_size bX)); have n3_ := ak (below_step bX hb); clear HO_13; clear HO398; clear HB; have HO_13 := n0_; have HO398 := n1_; have HO401 := n2_; have HB := n3_; clear n0_ n1_ n2_ n3_; (try clear hb); (try clear hb2); (try clear hk); (try clear hi); (try clear ho0); obtain ⟨Ao70, co70, eo70⟩ := Kd.V_slice HO401.out; subst eo70) | ((with_reducible refine gate_callee (f := 22) rfl ?_); refine goesL_ (some 132) rfl rfl Try.func22 (by kernel_rfl) rfl #[.int .i64 a0, .slice Ao70 t399.length co70, .slice A1 l1.length c1] rfl mX ?_; (with_reducible refine (polymod_DivMod.calls k3 a0 (fun k_ => True) _ _ t399 (fun k_ => k_ < w.heap.size) _ _ l1 t403 t406 t409 _ ?side1 ?side2 A62.out).mono ?_); (case side1 => exact HO401.out); (case side2 => exact Kd.V_mk HC1.out (Kd.F_below (Kd.C_F (Kd.heap_int .i64) HR1.out) bX)); rintro e w71 ⟨v404, v407, rfl, ho0, ho1, hb⟩; refine ⟨_, rfl, ?_⟩; have n0_ := ak (Kd.V_below (vX HO_13.out) hb); have n1_ := ak (Kd.R_below (rX HO398.out) hb); have n2_ := ak (Kd.V_below (vX HO401.out) hb); have n3_ := ak (Kd.V_lower (Kd.V_mono (ok' := fun k_ => True) ho0 (fun k_ hk_ => trivial)) (below_size bX)); have n4_ := ak (Kd.V_lower (Kd.V_mono (ok' := fun k_ => True) ho1 (fun k_ hk_ => trivial)) (below_size bX)); have n5_ := ak (below_step bX hb); clear HO_13; clear HO398; clear HO401; clear HB; have HO_13 := n0_; have HO398 := n1_; have HO401 := n2_; have HO405 := n3_; have HO408 := n4_; have HB := n5_; clear n0_ n1_ n2_ n3_ n4_ n5_; (try clear hb); (try clear hb2); (try clear hk); (try clear hi); (try clear ho0); (try clear ho1); obtain ⟨Ao72, co72, eo72⟩ := Kd.V_slice HO408.out; subst eo72))
                       go_ret
                       exact ⟨by first | rfl | (simp [errW_none, errW_some] <;> rfl) | (simp [*, errW_none, errW_some] <;> rfl), by repeat (first | (with_reducible first | exact HB.out | apply bA | apply bB | apply bC) | exact HB.out)⟩
                    · rw [if_neg c64] at H
                      have c64b0 : (t409 == 0) = false := beq_eq_false_iff_ne.mpr c64
                      have c64b1 : (t409 != 0) = true := bne_iff_ne.mpr c64
                      as_aux_lemma =>
                       obtain rfl := Option.some.inj H
                       go_wp2_with (first | ((with_reducible refine gate_dst (N := 124) rfl ?_); (try (refine gate_guard (by rfl) ?_; dsimp only)); refine Kd.R_lit (Kd.int .i64) _ 3 ?hg (N := 124) ?hd (xs := ([0, 1] : List Int)) (inner := [.int .i64 0, .int .i64 1]) (ok := fun _ => True) (okp := fun _ => True) ?hr ?hp (fun _ hk => hk) trivial (Below.refl _ _) (Nat.le_refl _) (by simp) ?_; (case hd => rfl); (case hg => rfl); (case hr => first | (go_simp; done) | (go_simp; rfl)); (case hp => exact (Reps.one (show Kd.M (Kd.int .i64) _ _ _ 0 [.int .i64 0] from rfl) (Reps.one (show Kd.M (Kd.int .i64) _ _ _ 1 [.int .i64 1] from rfl) (Reps.none _ _)))); intro v397 w73 ho74 hb hg_ hnew_; clear hg_ hnew_; (first | rw [← Ny396.out] at ho74 | (simp only [Int.reduceToNat] at ho74; rw [← Ny396.out] at ho74)); have n0_ := ak (Kd.V_elder' (vX HO_13.out) (Kd.R_base ho74) hb); have n1_ := ak (Kd.R_lower ho74 (below_size bX)); have n2_ := ak (below_step bX hb); clear HO_13; clear HB; have HO_13 := n0_; have HO398 := n1_; have HB := n2_; clear n0_ n1_ n2_; clear hb ho74; obtain ⟨Ao75, co75, eo75⟩ := Kd.V_slice HO_13.out; subst eo75; obtain ⟨Ao76, co76, eo76⟩ := Kd.R_slice HO398.out; subst eo76) | ((with_reducible refine gate_callee (f := 21) rfl ?_); refine goesL_ (some 125) rfl rfl Try.func21 (by kernel_rfl) rfl #[.int .i64 a0, .slice Ao75 x13_3.length co75, .slice Ao76 y396.length co76] rfl mX ?_; (with_reducible refine (polymod_Sub.calls k3 a0 (fun k_ => (True ∧ some k_ ≠ (.slice Ao76 y396.length co76 : Value).ownBlock)) _ _ x13_3 (fun k_ => some k_ = (.slice Ao76 y396.length co76 : Value).ownBlock) _ _ y396 t399 t402 _ ?side1 ?side2 A61.out).mono ?_); (case side1 => exact HO_13.out); (case side2 => exact Kd.R_V (Kd.R_tight rfl (HO398.out))); rintro e w77 ⟨v400, rfl, ho0, hb⟩; refine ⟨_, rfl, ?_⟩; have n0_ := ak (Kd.V_below (vX HO_13.out) hb); have n1_ := ak (Kd.R_below (rX HO398.out) hb); have n2_ := ak (Kd.V_lower (Kd.V_mono (ok' := fun k_ => True) ho0 (fun k_ hk_ => trivial)) (below_size bX)); have n3_ := ak (below_step bX hb); clear HO_13; clear HO398; clear HB; have HO_13 := n0_; have HO398 := n1_; have HO401 := n2_; have HB := n3_; clear n0_ n1_ n2_ n3_; (try clear hb); (try clear hb2); (try clear hk); (try clear hi); (try clear ho0); obtain ⟨Ao78, co78, eo78⟩ := Kd.V_slice HO401.out; subst eo78) | ((with_reducible refine gate_callee (f := 22) rfl ?_); refine goesL_ (some 132) rfl rfl Try.func22 (by kernel_rfl) rfl #[.int .i64 a0, .slice Ao78 t399.length co78, .slice A1 l1.length c1] rfl mX ?_; (with_reducible refine (polymod_DivMod.calls k3 a0 (fun k_ => True) _ _ t399 (fun k_ => k_ < w.heap.size) _ _ l1 t403 t406 t409 _ ?side1 ?side2 A62.out).mono ?_); (case side1 => exact HO401.out); (case side2 => exact Kd.V_mk HC1.out (Kd.F_below (Kd.C_F (Kd.heap_int .i64) HR1.out) bX)); rintro e w79 ⟨v404, v407, rfl, ho0, ho1, hb⟩; refine ⟨_, rfl, ?_⟩; have n0_ := ak (Kd.V_below (vX HO_13.out) hb); have n1_ := ak (Kd.R_below (rX HO398.out) hb); have n2_ := ak (Kd.V_below (vX HO401.out) hb); have n3_ := ak (Kd.V_lower (Kd.V_mono (ok' := fun k_ => True) ho0 (fun k_ hk_ => trivial)) (below_size bX)); have n4_ := ak (Kd.V_lower (Kd.V_mono (ok' := fun k_ => True) ho1 (fun k_ hk_ => trivial)) (below_size bX)); have n5_ := ak (below_step bX hb); clear HO_13; clear HO398; clear HO401; clear HB; have HO_13 := n0_; have HO398 := n1_; have HO401 := n2_; have HO405 := n3_; have HO408 := n4_; have HB := n5_; clear n0_ n1_ n2_ n3_ n4_ n5_; (try clear hb); (try clear hb2); (try clear hk); (try clear hi); (try clear ho0); (try clear ho1)))
                       go_ret
                       exact ⟨by first | rfl | (simp [errW_none, errW_some] <;> rfl) | (simp [*, errW_none, errW_some] <;> rfl), by repeat (first | (with_reducible first | exact HB.out | apply bA | apply bB | apply bC) | exact HB.out)⟩
                  · rw [if_neg c63] at H
                    have c63b0 : (t402 == 0) = false := beq_eq_false_iff_ne.mpr c63
                    have c63b1 : (t402 != 0) = true := bne_iff_ne.mpr c63
                    as_aux_lemma =>
                     obtain rfl := Option.some.inj H
                     go_wp2_with (first | ((with_reducible refine gate_dst (N := 124) rfl ?_); (try (refine gate_guard (by rfl) ?_; dsimp only)); refine Kd.R_lit (Kd.int .i64) _ 3 ?hg (N := 124) ?hd (xs := ([0, 1] : List Int)) (inner := [.int .i64 0, .int .i64 1]) (ok := fun _ => True) (okp := fun _ => True) ?hr ?hp (fun _ hk => hk) trivial (Below.refl _ _) (Nat.le_refl _) (by simp) ?_; (case hd => rfl); (case hg => rfl); (case hr => first | (go_simp; done) | (go_simp; rfl)); (case hp => exact (Reps.one (show Kd.M (Kd.int .i64) _ _ _ 0 [.int .i64 0] from rfl) (Reps.one (show Kd.M (Kd.int .i64) _ _ _ 1 [.int .i64 1] from rfl) (Reps.none _ _)))); intro v397 w80 ho81 hb hg_ hnew_; clear hg_ hnew_; (first | rw [← Ny396.out] at ho81 | (simp only [Int.reduceToNat] at ho81; rw [← Ny396.out] at ho81)); have n0_ := ak (Kd.V_elder' (vX HO_13.out) (Kd.R_base ho81) hb); have n1_ := ak (Kd.R_lower ho81 (below_size bX)); have n2_ := ak (below_step bX hb); clear HO_13; clear HB; have HO_13 := n0_; have HO398 := n1_; have HB := n2_; clear n0_ n1_ n2_; clear hb ho81; obtain ⟨Ao82, co82, eo82⟩ := Kd.V_slice HO_13.out; subst eo82; obtain ⟨Ao83, co83, eo83⟩ := Kd.R_slice HO398.out; subst eo83) | ((with_reducible refine gate_callee (f := 21) rfl ?_); refine goesL_ (some 125) rfl rfl Try.func21 (by kernel_rfl) rfl #[.int .i64 a0, .slice Ao82 x13_3.length co82, .slice Ao83 y396.length co83] rfl mX ?_; (with_reducible refine (polymod_Sub.calls k3 a0 (fun k_ => (True ∧ some k_ ≠ (.slice Ao83 y396.length co83 : Value).ownBlock)) _ _ x13_3 (fun k_ => some k_ = (.slice Ao83 y396.length co83 : Value).ownBlock) _ _ y396 t399 t402 _ ?side1 ?side2 A61.out).mono ?_); (case side1 => exact HO_13.out); (case side2 => exact Kd.R_V (Kd.R_tight rfl (HO398.out))); rintro e w84 ⟨v400, rfl, ho0, hb⟩; refine ⟨_, rfl, ?_⟩; have n0_ := ak (Kd.V_below (vX HO_13.out) hb); have n1_ := ak (Kd.R_below (rX HO398.out) hb); have n2_ := ak (Kd.V_lower (Kd.V_mono (ok' := fun k_ => True) ho0 (fun k_ hk_ => trivial)) (below_size bX)); have n3_ := ak (below_step bX hb); clear HO_13; clear HO398; clear HB; have HO_13 := n0_; have HO398 := n1_; have HO401 := n2_; have HB := n3_; clear n0_ n1_ n2_ n3_; (try clear hb); (try clear hb2); (try clear hk); (try clear hi); (try clear ho0); obtain ⟨Ao85, co85, eo85⟩ := Kd.V_slice HO401.out; subst eo85) | ((with_reducible refine gate_callee (f := 22) rfl ?_); refine goesL_ (some 132) rfl rfl Try.func22 (by kernel_rfl) rfl #[.int .i64 a0, .slice Ao85 t399.length co85, .slice A1 l1.length c1] rfl mX ?_; (with_reducible refine (polymod_DivMod.calls k3 a0 (fun k_ => True) _ _ t399 (fun k_ => k_ < w.heap.size) _ _ l1 t403 t406 t409 _ ?side1 ?side2 A62.out).mono ?_); (case side1 => exact HO401.out); (case side2 => exact Kd.V_mk HC1.out (Kd.F_below (Kd.C_F (Kd.heap_int .i64) HR1.out) bX)); rintro e w86 ⟨v404, v407, rfl, ho0, ho1, hb⟩; refine ⟨_, rfl, ?_⟩; have n0_ := ak (Kd.V_below (vX HO_13.out) hb); have n1_ := ak (Kd.R_below (rX HO398.out) hb); have n2_ := ak (Kd.V_below (vX HO401.out) hb); have n3_ := ak (Kd.V_lower (Kd.V_mono (ok' := fun k_ => True) ho0 (fun k_ hk_ => trivial)) (below_size bX)); have n4_ := ak (Kd.V_lower (Kd.V_mono (ok' := fun k_ => True) ho1 (fun k_ hk_ => trivial)) (below_size bX)); have n5_ := ak (below_step bX hb); clear HO_13; clear HO398; clear HO401; clear HB; have HO_13 := n0_; have HO398 := n1_; have HO401 := n2_; have HO405 := n3_; have HO408 := n4_; have HB := n5_; clear n0_ n1_ n2_ n3_ n4_ n5_; (try clear hb); (try clear hb2); (try clear hk); (try clear hi); (try clear ho0); (try clear ho1)))
                     go_ret
                     exact ⟨by first | rfl | (simp [errW_none, errW_some] <;> rfl) | (simp [*, errW_none, errW_some] <;> rfl), by repeat (first | (with_reducible first | exact HB.out | apply bA | apply bB | apply bC) | exact HB.out)⟩
           · replace c42 := Bool.eq_false_iff.mpr c42
             subst c42
             have H1 : (some true) = some r := by rw [if_neg (show ¬ (false = true) by decide)] at H; exact H
             clear H
             have H := H1
             clear H1
             as_aux_lemma =>
              obtain rfl := Option.some.inj H
              go_wp2
              go_ret
              exact ⟨by first | rfl | (simp [errW_none, errW_some] <;> rfl) | (simp [*, errW_none, errW_some] <;> rfl), by repeat (first | (with_reducible first | exact HB.out | apply bA | apply bB | apply bC) | exact HB.out)⟩

/-- THE ONE PURE STATEMENT of galoislaw09_PolymodRabin: yours. -/
def galoislaw09_PolymodRabin.Pure : Prop := ∀ (a0 : Int) (l1 : List Int) (l2 : List Int), (Lit.int .i64 a0).wf = true → l1.length ≤ maxLen → l1.length * 8 ≤ 140737488351232 → (∀ x ∈ l1, (Lit.int .i64 x).wf = true) → l2.length ≤ maxLen → l2.length * 8 ≤ 140737488351232 → (∀ x ∈ l2, (Lit.int .i64 x).wf = true) → ∃ k, galoislaw09_PolymodRabin.f k a0 l1 l2 = some true
theorem galoislaw09_PolymodRabin.walk (P : galoislaw09_PolymodRabin.Pure) (a0 : Int) (a1 : Option Addr) (len1 cap1 : Nat) (z1 : List Int) (a2 : Option Addr) (len2 cap2 : Nat) (z2 : List Int) (w : World) (w0 : (Lit.int .i64 a0).wf = true) (w1 : (a1 = none ∧ len1 = 0 ∧ cap1 = 0 ∧ z1 = []) ∨ ∃ x, a1 = some x ∧ len1 ≤ cap1 ∧ cap1 ≤ maxLen ∧ z1.length = cap1 ∧ (∀ i, i < z1.length → w.cell? (x.add i) = some (.int .i64 (z1.getD i 0))) ∧ ∀ n ∈ z1, (Lit.int .i64 n).wf = true) (y1 : len1 * 8 ≤ 140737488351232) (w2 : (a2 = none ∧ len2 = 0 ∧ cap2 = 0 ∧ z2 = []) ∨ ∃ x, a2 = some x ∧ len2 ≤ cap2 ∧ cap2 ≤ maxLen ∧ z2.length = cap2 ∧ (∀ i, i < z2.length → w.cell? (x.add i) = some (.int .i64 (z2.getD i 0))) ∧ ∀ n ∈ z2, (Lit.int .i64 n).wf = true) (y2 : len2 * 8 ≤ 140737488351232) :
 Calls Try.prog 4 #[.int .i64 a0, .slice a1 len1 cap1, .slice a2 len2 cap2] w fun e w' => e = .returned (.bool true) ∧ Below w.heap.size w w' := by
 obtain ⟨l1, rfl, hr1, hm1, hw1, hc1⟩ := ReadsInt.ofRowC w1
 obtain ⟨l2, rfl, hr2, hm2, hw2, hc2⟩ := ReadsInt.ofRowC w2
 obtain ⟨k, h⟩ := P a0 l1 l2 w0 hm1 y1 hw1 hm2 y2 hw2
 refine (galoislaw09_PolymodRabin.calls k a0 _ _ l1 _ _ l2 true w (Kd.C_of_reads (d := (0 : Int)) (h1 := fun _ => rfl) hr1) hc1 (Kd.C_of_reads (d := (0 : Int)) (h1 := fun _ => rfl) hr2) hc2 h).mono ?_
 rintro e w' ⟨rfl, hd⟩
 exact ⟨rfl, hd⟩

end Go.Proofs.Ytmknclgamadphaa.PPolymodRabin
