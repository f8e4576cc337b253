-- WRITTEN BY sprint.py (a program of this repo, over the kit's print.py): nothing here is trusted, Lean checks it.
import Derived.Test.YtmknclgamadphaaPPolymodRabinx0
import Derived.Test.YtmknclgamadphaaPPolymodRabinx1
import Derived.Test.YtmknclgamadphaaPPolymodRabinx4
import Derived.Test.YtmknclgamadphaaPPolymodRabinx6
namespace Go.Proofs.Ytmknclgamadphaa.PPolymodRabin
open Go.RowKit Go.Proofs.YtmknclgamadphaaW.PrintWords Go.Proofs.YtmknclgamadphaaW.PrintLast Go.Proofs.YtmknclgamadphaaW.PrintMore
attribute [local go_sem] max2_int min2_int max_two min_two max_three min_three max_four min_four   -- for this text's walks alone
set_option linter.unusedVariables false
set_option linter.unusedSimpArgs false

/-! ### galoisref09_Check: function 15 -/
def galoisref09_Check.l0 : Nat → Int → List Int → Int → Option (Int)
 | 0, _, _, _ => none
 | k + 1, x0, x1, x5 => if x5 < (x1.length : Int) then (if 0 ≤ x5 then (if (rd x1 x5) < 0 then (some 1) else (if (rd x1 x5) ≥ x0 then (some 1) else (galoisref09_Check.l0 k x0 x1 (wrap64 (x5 + 1))))) else (none)) else (if (x1.length : Int) > 0 then (if 0 ≤ (wrap64 ((x1.length : Int) - 1)) then (if (wrap64 ((x1.length : Int) - 1)) < (x1.length : Int) then (if (rd x1 (wrap64 ((x1.length : Int) - 1))) = 0 then (some 1) else (some 0)) else (none)) else (none)) else (some 0))
def galoisref09_Check.f (k : Nat) (a0 : Int) (l1 : List Int) : Option (Int) := (galoisref09_IsPrime.f k a0).bind fun t340 => (if t340 = true then (if (l1.length : Int) > 65 then (some 4) else (galoisref09_Check.l0 k a0 l1 0)) else (some 7))
theorem galoisref09_Check.mono_l : ∀ k, (∀ y0 y1 y2, LeO (galoisref09_Check.l0 k y0 y1 y2) (galoisref09_Check.l0 (k + 1) y0 y1 y2))
 | 0 => fun _ _ _ r h => by simp [galoisref09_Check.l0] at h
 | k + 1 => by
   have ih0 := galoisref09_Check.mono_l k
   · intro y0 y1 y2
     unfold galoisref09_Check.l0
     repeat' first
     | (with_reducible apply ih0)
     | (with_reducible apply galoisref09_IsPrime.mono)
     | (with_reducible apply LeO.refl)
     | (with_reducible apply LeO.none)
     | (with_reducible refine LeO.ite ?_ ?_)
     | (with_reducible refine LeO.bind ?_ (fun _ => ?_))
theorem galoisref09_Check.mono : ∀ a0 a1 k, LeO (galoisref09_Check.f k a0 a1) (galoisref09_Check.f (k + 1) a0 a1) := by
 intro a0 a1 k
 have ih0 := galoisref09_Check.mono_l k
 unfold galoisref09_Check.f
 repeat' first
  | (with_reducible apply ih0)
  | (with_reducible apply galoisref09_IsPrime.mono)
  | (with_reducible apply LeO.refl)
  | (with_reducible apply LeO.none)
  | (with_reducible refine LeO.ite ?_ ?_)
  | (with_reducible refine LeO.bind ?_ (fun _ => ?_))
set_option maxHeartbeats 8000000 in
set_option maxRecDepth 100000 in
theorem galoisref09_Check.calls (k : Nat) (a0 : Int) (A1 : Option Addr) (c1 : Nat) (l1 : List Int) (r : Int) (w : World) (hr1 : Kd.C (Kd.int .i64) w A1 l1.length l1) (hc1 : l1.length ≤ c1) (h : galoisref09_Check.f k a0 l1 = some r) :
 Calls Try.prog 15 #[.int .i64 a0, .slice A1 l1.length c1] w fun e w' => e = .returned (.int .i64 r) ∧ Drawn0 w w' := by
 have HR1 := ak hr1
 have HC1 := ak hc1
 clear hr1 hc1
 have H : ((galoisref09_IsPrime.f k a0).bind fun t340 => (if t340 = true then (if (l1.length : Int) > 65 then (some 4) else (galoisref09_Check.l0 k a0 l1 0)) else (some 7))) = some r := h
 clear h
 replace H := Option.bind_eq_some_iff.mp H
 obtain ⟨t340, A30, H⟩ := H
 replace H : (if t340 = true then (if (l1.length : Int) > 65 then (some 4) else (galoisref09_Check.l0 k a0 l1 0)) else (some 7)) = some r := H
 have A3 := ak A30
 clear A30
 by_cases c4 : t340 = true
 · subst c4
   have H1 : (if (l1.length : Int) > 65 then (some 4) else (galoisref09_Check.l0 k a0 l1 0)) = some r := by rw [if_pos rfl] at H; exact H
   clear H
   have H := H1
   clear H1
   by_cases c5 : (l1.length : Int) > 65
   · rw [if_pos c5] at H
     have c5b0 : decide (65 < (l1.length : Int)) = true := decide_eq_true c5
     have c5b1 : decide (65 < l1.length) = true := decide_eq_true (by omega)
     clear c5
     as_aux_lemma =>
      obtain rfl := Option.some.inj H
      go_enter Try.func15, Try.ntmps15
      go_wp2_with (first | ((with_reducible refine gate_callee (f := 55) rfl ?_); refine goesL_ (some 7) rfl rfl Try.func55 (by kernel_rfl) rfl #[.int .i64 a0] rfl mX ?_; (with_reducible refine (galoisref09_IsPrime.calls k a0 true _ A3.out).mono ?_); rintro e w' ⟨rfl, ⟨nd, rfl⟩⟩; refine ⟨_, rfl, ?_⟩))
      go_ret
      exact ⟨by first | rfl | (simp; done) | (simp [*]; done), by repeat (first | exact Drawn0.refl _ | apply Drawn0.step)⟩
   · rw [if_neg c5] at H
     have c5b0 : decide (65 < (l1.length : Int)) = false := decide_eq_false c5
     have c5b1 : decide (65 < l1.length) = false := decide_eq_false (by omega)
     clear c5
     have H' := ak H
     clear H
     go_enter Try.func15, Try.ntmps15
     go_wp2_with (first | ((with_reducible refine gate_callee (f := 55) rfl ?_); refine goesL_ (some 7) rfl rfl Try.func55 (by kernel_rfl) rfl #[.int .i64 a0] rfl mX ?_; (with_reducible refine (galoisref09_IsPrime.calls k a0 true _ A3.out).mono ?_); rintro e w' ⟨rfl, ⟨nd, rfl⟩⟩; refine ⟨_, rfl, ?_⟩))
     go_loopg [5] k (fun kq v5 w' => ∃ (x5_1 : Int), v5 = .int .i64 x5_1 ∧ Aside0 (galoisref09_Check.l0 kq a0 l1 x5_1 = some r) ∧ Aside0 (kq ≤ k) ∧ Drawn0 w w')
     case atStart => exact ⟨(0), (by first | rfl | (simp; done) | (simp [*]; done)), H', ⟨Nat.le_refl _⟩, by repeat (first | exact Drawn0.refl _ | apply Drawn0.step)⟩
     case round =>
      clear H'
      try clear c1
      try clear p2
      try clear c4
      try clear c5
      try clear c5b0
      try clear c5b1
      obtain ⟨x5_1, rfl, HA, HK1, ⟨m1, rfl⟩⟩ := hrel
      cases gk with
      | zero => exact absurd HA.out (by simp [galoisref09_Check.l0])
      | succ k1 =>
        have H := HA.out
        clear HA
        simp only [galoisref09_Check.l0] at H
        by_cases c6 : x5_1 < (l1.length : Int)
        · rw [if_pos c6] at H
          have c6b0 : decide (x5_1 < (l1.length : Int)) = true := decide_eq_true c6
          clear c6
          by_cases c7 : 0 ≤ x5_1
          · rw [if_pos c7] at H
            have c7b0 : decide (0 ≤ x5_1) = true := decide_eq_true c7
            clear c7
            by_cases c8 : (rd l1 x5_1) < 0
            · rw [if_pos c8] at H
              have c8b0 : decide ((rd l1 x5_1) < 0) = true := decide_eq_true c8
              clear c8
              as_aux_lemma =>
               obtain rfl := Option.some.inj H
               have p341 : 0 ≤ (x5_1 : Int) := of_decide_eq_true aX
               have q341 : x5_1 < (l1.length : Int) := of_decide_eq_true aX
               obtain ⟨ad341, e341, hx341_0⟩ := Kd.at_int HR1.out x5_1 p341 q341
               cases e341
               replace p341 := eq_true p341
               replace q341 := eq_true q341
               go_wp2
               go_ret
               exact ⟨by first | rfl | (simp; done) | (simp [*]; done), by repeat (first | exact Drawn0.refl _ | apply Drawn0.step)⟩
            · rw [if_neg c8] at H
              have c8b0 : decide ((rd l1 x5_1) < 0) = false := decide_eq_false c8
              clear c8
              by_cases c9 : (rd l1 x5_1) ≥ a0
              · rw [if_pos c9] at H
                have c9b0 : decide (a0 ≤ (rd l1 x5_1)) = true := decide_eq_true c9
                clear c9
                as_aux_lemma =>
                 obtain rfl := Option.some.inj H
                 have p341 : 0 ≤ (x5_1 : Int) := of_decide_eq_true aX
                 have q341 : x5_1 < (l1.length : Int) := of_decide_eq_true aX
                 obtain ⟨ad341, e341, hx341_0⟩ := Kd.at_int HR1.out x5_1 p341 q341
                 cases e341
                 replace p341 := eq_true p341
                 replace q341 := eq_true q341
                 have p342 : 0 ≤ (x5_1 : Int) := of_decide_eq_true aX
                 have q342 : x5_1 < (l1.length : Int) := of_decide_eq_true aX
                 obtain ⟨ad342, e342, hx342_0⟩ := Kd.at_int HR1.out x5_1 p342 q342
                 obtain rfl : ad341 = ad342 := (by injection e342)
                 replace p342 := eq_true p342
                 replace q342 := eq_true q342
                 go_wp2
                 go_ret
                 exact ⟨by first | rfl | (simp; done) | (simp [*]; done), by repeat (first | exact Drawn0.refl _ | apply Drawn0.step)⟩
              · rw [if_neg c9] at H
                have c9b0 : decide (a0 ≤ (rd l1 x5_1)) = false := decide_eq_false c9
                clear c9
                as_aux_lemma =>
                 have H' := ak H
                 clear H
                 have p341 : 0 ≤ (x5_1 : Int) := of_decide_eq_true aX
                 have q341 : x5_1 < (l1.length : Int) := of_decide_eq_true aX
                 obtain ⟨ad341, e341, hx341_0⟩ := Kd.at_int HR1.out x5_1 p341 q341
                 cases e341
                 replace p341 := eq_true p341
                 replace q341 := eq_true q341
                 have p342 : 0 ≤ (x5_1 : Int) := of_decide_eq_true aX
                 have q342 : x5_1 < (l1.length : Int) := of_decide_eq_true aX
                 obtain ⟨ad342, e342, hx342_0⟩ := Kd.at_int HR1.out x5_1 p342 q342
                 obtain rfl : ad341 = ad342 := (by injection e342)
                 replace p342 := eq_true p342
                 replace q342 := eq_true q342
                 go_wp2
                 (first | go_roundg k1 | (refine Handed.intro k1 ?measure ?_; rotate_left; go_step; (repeat rw [add_plain]); (repeat apply Exists.intro); refine ⟨?rel, rfl⟩))
                 case measure => have := HK1.out; omega
                 case rel => exact ⟨(wrap64 (x5_1 + 1)), (by first | rfl | (simp; done) | (simp [*]; done)), H', ⟨by have := HK1.out; omega⟩, by repeat (first | exact Drawn0.refl _ | apply Drawn0.step)⟩
          · rw [if_neg c7] at H
            exact absurd H (by simp)
        · rw [if_neg c6] at H
          have c6b0 : decide (x5_1 < (l1.length : Int)) = false := decide_eq_false c6
          clear c6
          by_cases c10 : (l1.length : Int) > 0
          · rw [if_pos c10] at H
            have c10b0 : decide (0 < (l1.length : Int)) = true := decide_eq_true c10
            have c10b1 : decide (0 < l1.length) = true := decide_eq_true (by omega)
            clear c10
            obtain ⟨ji11, hji11⟩ : ∃ j_ : Int, (wrap64 ((l1.length : Int) - 1)) = j_ := ⟨_, rfl⟩
            replace H : (if 0 ≤ (ji11) then (if (ji11) < (l1.length : Int) then (if (rd l1 (ji11)) = 0 then (some 1) else (some 0)) else (none)) else (none)) = some r := by first | (rw [hji11] at H; exact H) | (simp only [hji11] at H ⊢; exact H)
            have hji11w : (IntKind.i64.wrap ((l1.length : Int) - 1)) = ji11 := (i64_w _).trans hji11
            by_cases c12 : 0 ≤ (ji11)
            · rw [if_pos c12] at H
              have c12b0 : decide (0 ≤ (ji11)) = true := decide_eq_true c12
              clear c12
              by_cases c13 : (ji11) < (l1.length : Int)
              · rw [if_pos c13] at H
                have c13b0 : decide ((ji11) < (l1.length : Int)) = true := decide_eq_true c13
                clear c13
                by_cases c14 : (rd l1 (ji11)) = 0
                · rw [if_pos c14] at H
                  have c14b0 : ((rd l1 (ji11)) == 0) = true := beq_iff_eq.mpr c14
                  have c14b1 : ((rd l1 (ji11)) != 0) = false := bne_eq_false_iff_eq.mpr c14
                  clear c14
                  as_aux_lemma =>
                   obtain rfl := Option.some.inj H
                   have p343 : 0 ≤ ((ji11) : Int) := of_decide_eq_true aX
                   have q343 : (ji11) < (l1.length : Int) := of_decide_eq_true aX
                   obtain ⟨ad343, e343, hx343_0⟩ := Kd.at_int HR1.out (ji11) p343 q343
                   cases e343
                   replace p343 := eq_true p343
                   replace q343 := eq_true q343
                   go_wp2
                   go_ret
                   exact ⟨by first | rfl | (simp; done) | (simp only [← hji11] <;> (first | rfl | simp)) | (simp [*]; done), by repeat (first | exact Drawn0.refl _ | apply Drawn0.step)⟩
                · rw [if_neg c14] at H
                  have c14b0 : ((rd l1 (ji11)) == 0) = false := beq_eq_false_iff_ne.mpr c14
                  have c14b1 : ((rd l1 (ji11)) != 0) = true := bne_iff_ne.mpr c14
                  as_aux_lemma =>
                   obtain rfl := Option.some.inj H
                   have p343 : 0 ≤ ((ji11) : Int) := of_decide_eq_true aX
                   have q343 : (ji11) < (l1.length : Int) := of_decide_eq_true aX
                   obtain ⟨ad343, e343, hx343_0⟩ := Kd.at_int HR1.out (ji11) p343 q343
                   cases e343
                   replace p343 := eq_true p343
                   replace q343 := eq_true q343
                   go_wp2
                   go_ret
                   exact ⟨by first | rfl | (simp; done) | (simp only [← hji11] <;> (first | rfl | simp)) | (simp [*]; done), by repeat (first | exact Drawn0.refl _ | apply Drawn0.step)⟩
              · rw [if_neg c13] at H
                exact absurd H (by simp)
            · rw [if_neg c12] at H
              exact absurd H (by simp)
          · rw [if_neg c10] at H
            have c10b0 : decide (0 < (l1.length : Int)) = false := decide_eq_false c10
            have c10b1 : decide (0 < l1.length) = false := decide_eq_false (by omega)
            clear c10
            as_aux_lemma =>
             obtain rfl := Option.some.inj H
             go_wp2
             go_ret
             exact ⟨by first | rfl | (simp; done) | (simp [*]; done), by repeat (first | exact Drawn0.refl _ | apply Drawn0.step)⟩
 · replace c4 := Bool.eq_false_iff.mpr c4
   subst c4
   have H1 : (some 7) = some r := by rw [if_neg (show ¬ (false = true) by decide)] at H; exact H
   clear H
   have H := H1
   clear H1
   as_aux_lemma =>
    obtain rfl := Option.some.inj H
    go_enter Try.func15, Try.ntmps15
    go_wp2_with (first | ((with_reducible refine gate_callee (f := 55) rfl ?_); refine goesL_ (some 7) rfl rfl Try.func55 (by kernel_rfl) rfl #[.int .i64 a0] rfl mX ?_; (with_reducible refine (galoisref09_IsPrime.calls k a0 false _ A3.out).mono ?_); rintro e w' ⟨rfl, ⟨nd, rfl⟩⟩; refine ⟨_, rfl, ?_⟩))
    go_ret
    exact ⟨by first | rfl | (simp; done) | (simp [*]; done), by repeat (first | exact Drawn0.refl _ | apply Drawn0.step)⟩

/-! ### galoisref09_Few: function 65 -/
def galoisref09_Few.f (k : Nat) (a0 : Int) (l1 : List Int) (a2 : Int) (a3 : Int) : Option (Bool) := if a0 ≤ a2 then (if (l1.length : Int) ≤ (wrap64 (a3 + 1)) then ((galoisref09_Check.f k a0 l1).bind fun t344 => (some (t344 == 0))) else (some false)) else (some false)
theorem galoisref09_Few.mono : ∀ a0 a1 a2 a3 k, LeO (galoisref09_Few.f k a0 a1 a2 a3) (galoisref09_Few.f (k + 1) a0 a1 a2 a3) := by
 intro a0 a1 a2 a3 k
 unfold galoisref09_Few.f
 repeat' first
  | (with_reducible apply galoisref09_Check.mono)
  | (with_reducible apply LeO.refl)
  | (with_reducible apply LeO.none)
  | (with_reducible refine LeO.ite ?_ ?_)
  | (with_reducible refine LeO.bind ?_ (fun _ => ?_))
set_option maxHeartbeats 8000000 in
set_option maxRecDepth 100000 in
theorem galoisref09_Few.calls (k : Nat) (a0 : Int) (A1 : Option Addr) (c1 : Nat) (l1 : List Int) (a2 : Int) (a3 : Int) (r : Bool) (w : World) (hr1 : Kd.C (Kd.int .i64) w A1 l1.length l1) (hc1 : l1.length ≤ c1) (h : galoisref09_Few.f k a0 l1 a2 a3 = some r) :
 Calls Try.prog 65 #[.int .i64 a0, .slice A1 l1.length c1, .int .i64 a2, .int .i64 a3] w fun e w' => e = .returned (.bool r) ∧ Drawn0 w w' := by
 have HR1 := ak hr1
 have HC1 := ak hc1
 clear hr1 hc1
 have H : (if a0 ≤ a2 then (if (l1.length : Int) ≤ (wrap64 (a3 + 1)) then ((galoisref09_Check.f k a0 l1).bind fun t344 => (some (t344 == 0))) else (some false)) else (some false)) = some r := h
 clear h
 by_cases c5 : a0 ≤ a2
 · rw [if_pos c5] at H
   have c5b0 : decide (a0 ≤ a2) = true := decide_eq_true c5
   clear c5
   by_cases c6 : (l1.length : Int) ≤ (wrap64 (a3 + 1))
   · rw [if_pos c6] at H
     have c6b0 : decide ((l1.length : Int) ≤ (wrap64 (a3 + 1))) = true := decide_eq_true c6
     clear c6
     replace H := Option.bind_eq_some_iff.mp H
     obtain ⟨t344, A70, H⟩ := H
     replace H : (some (t344 == 0)) = some r := H
     have A7 := ak A70
     clear A70
     as_aux_lemma =>
      obtain rfl := Option.some.inj H
      go_enter Try.func65, Try.ntmps65
      go_wp2_with (first | (go_at_call 15; (with_reducible refine (galoisref09_Check.calls k a0 _ _ l1 t344 _ ?side1 ?side2 A7.out).mono ?_); (case side1 => repeat (first | exact HR1.out | (with_reducible first | apply cA | apply cB | apply cC))); (case side2 => exact HC1.out); rintro e w' ⟨rfl, ⟨nd, rfl⟩⟩))
      go_ret
      exact ⟨by first | rfl | (simp; done) | (simp [*]; done), by repeat (first | exact Drawn0.refl _ | apply Drawn0.step)⟩
   · rw [if_neg c6] at H
     have c6b0 : decide ((l1.length : Int) ≤ (wrap64 (a3 + 1))) = false := decide_eq_false c6
     clear c6
     as_aux_lemma =>
      obtain rfl := Option.some.inj H
      go_enter Try.func65, Try.ntmps65
      go_wp2
      go_ret
      exact ⟨by first | rfl | (simp; done) | (simp [*]; done), by repeat (first | exact Drawn0.refl _ | apply Drawn0.step)⟩
 · rw [if_neg c5] at H
   have c5b0 : decide (a0 ≤ a2) = false := decide_eq_false c5
   clear c5
   as_aux_lemma =>
    obtain rfl := Option.some.inj H
    go_enter Try.func65, Try.ntmps65
    go_wp2
    go_ret
    exact ⟨by first | rfl | (simp; done) | (simp [*]; done), by repeat (first | exact Drawn0.refl _ | apply Drawn0.step)⟩

/-! ### galoislaw09_few: function 17 -/
def galoislaw09_few.f (k : Nat) (a0 : Int) (l1 : List Int) (l2 : List Int) (a3 : Int) : Option (Bool) := (galoisref09_Few.f k a0 l1 65521 a3).bind fun t345 => (if t345 = true then ((galoisref09_Few.f k a0 l2 65521 a3).bind fun t346 => (some t346)) else (some false))
theorem galoislaw09_few.mono : ∀ a0 a1 a2 a3 k, LeO (galoislaw09_few.f k a0 a1 a2 a3) (galoislaw09_few.f (k + 1) a0 a1 a2 a3) := by
 intro a0 a1 a2 a3 k
 unfold galoislaw09_few.f
 repeat' first
  | (with_reducible apply galoisref09_Few.mono)
  | (with_reducible apply LeO.refl)
  | (with_reducible apply LeO.none)
  | (with_reducible refine LeO.ite ?_ ?_)
  | (with_reducible refine LeO.bind ?_ (fun _ => ?_))
set_option maxHeartbeats 8000000 in
set_option maxRecDepth 100000 in
theorem galoislaw09_few.calls (k : Nat) (a0 : Int) (A1 : Option Addr) (c1 : Nat) (l1 : List Int) (A2 : Option Addr) (c2 : Nat) (l2 : List Int) (a3 : Int) (r : Bool) (w : World) (hr1 : Kd.C (Kd.int .i64) w A1 l1.length l1) (hc1 : l1.length ≤ c1) (hr2 : Kd.C (Kd.int .i64) w A2 l2.length l2) (hc2 : l2.length ≤ c2) (h : galoislaw09_few.f k a0 l1 l2 a3 = some r) :
 Calls Try.prog 17 #[.int .i64 a0, .slice A1 l1.length c1, .slice A2 l2.length c2, .int .i64 a3] w fun e w' => e = .returned (.bool r) ∧ Drawn0 w w' := by
 have HR1 := ak hr1
 have HC1 := ak hc1
 clear hr1 hc1
 have HR2 := ak hr2
 have HC2 := ak hc2
 clear hr2 hc2
 have H : ((galoisref09_Few.f k a0 l1 65521 a3).bind fun t345 => (if t345 = true then ((galoisref09_Few.f k a0 l2 65521 a3).bind fun t346 => (some t346)) else (some false))) = some r := h
 clear h
 replace H := Option.bind_eq_some_iff.mp H
 obtain ⟨t345, A50, H⟩ := H
 replace H : (if t345 = true then ((galoisref09_Few.f k a0 l2 65521 a3).bind fun t346 => (some t346)) else (some false)) = some r := H
 have A5 := ak A50
 clear A50
 by_cases c6 : t345 = true
 · subst c6
   have H1 : ((galoisref09_Few.f k a0 l2 65521 a3).bind fun t346 => (some t346)) = some r := by rw [if_pos rfl] at H; exact H
   clear H
   have H := H1
   clear H1
   replace H := Option.bind_eq_some_iff.mp H
   obtain ⟨t346, A70, H⟩ := H
   replace H : (some t346) = some r := H
   have A7 := ak A70
   clear A70
   as_aux_lemma =>
    obtain rfl := Option.some.inj H
    go_enter Try.func17, Try.ntmps17
    go_wp2_with (first | ((with_reducible refine gate_callee (f := 65) rfl ?_); refine goesL_ (some 12) rfl rfl Try.func65 (by kernel_rfl) rfl #[.int .i64 a0, .slice A1 l1.length c1, .int .i64 65521, .int .i64 a3] rfl mX ?_; (with_reducible refine (galoisref09_Few.calls k a0 _ _ l1 65521 a3 true _ ?side1 ?side2 A5.out).mono ?_); (case side1 => repeat (first | exact HR1.out | (with_reducible first | apply cA | apply cB | apply cC))); (case side2 => exact HC1.out); rintro e w' ⟨rfl, ⟨nd, rfl⟩⟩; refine ⟨_, rfl, ?_⟩) | (go_at_call 65; (with_reducible refine (galoisref09_Few.calls k a0 _ _ l2 65521 a3 t346 _ ?side1 ?side2 A7.out).mono ?_); (case side1 => repeat (first | exact HR2.out | (with_reducible first | apply cA | apply cB | apply cC))); (case side2 => exact HC2.out); rintro e w' ⟨rfl, ⟨nd, rfl⟩⟩))
    go_ret
    exact ⟨by first | rfl | (simp; done) | (simp [*]; done), by repeat (first | exact Drawn0.refl _ | apply Drawn0.step)⟩
 · replace c6 := Bool.eq_false_iff.mpr c6
   subst c6
   have H1 : (some false) = some r := by rw [if_neg (show ¬ (false = true) by decide)] at H; exact H
   clear H
   have H := H1
   clear H1
   as_aux_lemma =>
    obtain rfl := Option.some.inj H
    go_enter Try.func17, Try.ntmps17
    go_wp2_with (first | ((with_reducible refine gate_callee (f := 65) rfl ?_); refine goesL_ (some 12) rfl rfl Try.func65 (by kernel_rfl) rfl #[.int .i64 a0, .slice A1 l1.length c1, .int .i64 65521, .int .i64 a3] rfl mX ?_; (with_reducible refine (galoisref09_Few.calls k a0 _ _ l1 65521 a3 false _ ?side1 ?side2 A5.out).mono ?_); (case side1 => repeat (first | exact HR1.out | (with_reducible first | apply cA | apply cB | apply cC))); (case side2 => exact HC1.out); rintro e w' ⟨rfl, ⟨nd, rfl⟩⟩; refine ⟨_, rfl, ?_⟩))
    go_ret
    exact ⟨by first | rfl | (simp; done) | (simp [*]; done), by repeat (first | exact Drawn0.refl _ | apply Drawn0.step)⟩

/-! ### polymod_bounded: function 66 -/
def polymod_bounded.f (k : Nat) (l0 : List Int) : Option (List Int × Int) := if (l0.length : Int) > 65 then some ([], 4) else some (l0, 0)
theorem polymod_bounded.mono : ∀ a0 k, LeO (polymod_bounded.f k a0) (polymod_bounded.f (k + 1) a0) := fun _ _ => LeO.refl _
set_option maxHeartbeats 8000000 in
set_option maxRecDepth 100000 in
theorem polymod_bounded.calls (k : Nat) (P0_ : Nat → Prop) (A0 : Option Addr) (c0 : Nat) (l0 : List Int) (r1 : List Int) (r2 : Int) (w : World) (hs0 : Kd.V (Kd.int .i64) 3 w w.heap.size (fun k_ => P0_ k_) (.slice A0 l0.length c0) l0) (h : polymod_bounded.f k l0 = some (r1, r2)) :
 Calls Try.prog 66 #[.slice A0 l0.length c0] w fun e w' => ∃ v0_ : Value, e = .returned (.tuple #[v0_, .int .i64 r2]) ∧ Kd.V (Kd.int .i64) 3 w' w.heap.size (fun k_ => (P0_ k_ ∨ w.heap.size ≤ k_)) v0_ r1 ∧ Below w.heap.size w w' := by
 have HS := ak (Kd.V_mono hs0 (fun k_ hk => (.inl hk : P0_ k_ ∨ w.heap.size ≤ k_)))
 clear hs0
 unfold polymod_bounded.f at h
 by_cases c3 : (l0.length : Int) > 65
 · rw [if_pos c3] at h
   have h2 := Option.some.inj h
   clear h
   injection h2 with h3 h4
   subst h3 h4
   have c3b0 : decide (65 < (l0.length : Int)) = true := decide_eq_true c3
   have c3b1 : decide (65 < l0.length) = true := decide_eq_true (by omega)
   clear c3
   go_enter Try.func66, Try.ntmps66
   go_wp2
   go_ret2
   exact ⟨_, rfl, Kd.V_nil _ _ _ _ _, Below.refl _ _⟩
 · rw [if_neg c3] at h
   have h2 := Option.some.inj h
   clear h
   injection h2 with h3 h4
   subst h3 h4
   have c3b0 : decide (65 < (l0.length : Int)) = false := decide_eq_false c3
   have c3b1 : decide (65 < l0.length) = false := decide_eq_false (by omega)
   clear c3
   go_enter Try.func66, Try.ntmps66
   go_wp2
   go_ret2
   exact ⟨_, rfl, HS.out, Below.refl _ _⟩

/-! ### polymod_Mul: function 18 -/
def polymod_Mul.f (k : Nat) (a0 : Int) (l1 : List Int) (l2 : List Int) : Option (List Int × Int) := (polymod_first.f k a0 (([l1, l2] : List (List Int)))).bind fun t355 => (if t355 = 0 then ((fp_Mul.f k a0 l1 l2).bind fun t356 => ((polymod_bounded.f k t356).bind fun bt359 => (some (bt359.1, bt359.2)))) else (some (([] : List Int), t355)))
theorem polymod_Mul.mono : ∀ a0 a1 a2 k, LeO (polymod_Mul.f k a0 a1 a2) (polymod_Mul.f (k + 1) a0 a1 a2) := by
 intro a0 a1 a2 k
 unfold polymod_Mul.f
 repeat' first
  | (with_reducible apply fp_Mul.mono)
  | (with_reducible apply polymod_bounded.mono)
  | (with_reducible apply polymod_first.mono)
  | (with_reducible apply LeO.refl)
  | (with_reducible apply LeO.none)
  | (with_reducible refine LeO.ite ?_ ?_)
  | (with_reducible refine LeO.bind ?_ (fun _ => ?_))
set_option maxHeartbeats 8000000 in
set_option maxRecDepth 100000 in
theorem polymod_Mul.calls (k : Nat) (a0 : Int) (P1_ : Nat → Prop) (A1 : Option Addr) (c1 : Nat) (l1 : List Int) (P2_ : Nat → Prop) (A2 : Option Addr) (c2 : Nat) (l2 : List Int) (r1 : List Int) (r2 : Int) (w : World) (hs1 : Kd.V (Kd.int .i64) 3 w w.heap.size (fun k_ => P1_ k_) (.slice A1 l1.length c1) l1) (hs2 : Kd.V (Kd.int .i64) 3 w w.heap.size (fun k_ => P2_ k_) (.slice A2 l2.length c2) l2) (h : polymod_Mul.f k a0 l1 l2 = some (r1, r2)) :
 Calls Try.prog 18 #[.int .i64 a0, .slice A1 l1.length c1, .slice A2 l2.length c2] w fun e w' => ∃ v0_ : Value, e = .returned (.tuple #[v0_, .int .i64 r2]) ∧ Kd.V (Kd.int .i64) 3 w' w.heap.size (fun k_ => ((P1_ k_ ∨ P2_ k_) ∨ w.heap.size ≤ k_)) v0_ r1 ∧ Below w.heap.size w w' := by
 have HO1 := ak (show Kd.V (Kd.int .i64) 3 w w.heap.size (fun k_ => ((P1_ k_ ∨ P2_ k_) ∨ w.heap.size ≤ k_)) (.slice A1 l1.length c1) l1 from Kd.V_mono hs1 (fun k_ hk => .inl (.inl hk)))
 have HO2 := ak (show Kd.V (Kd.int .i64) 3 w w.heap.size (fun k_ => ((P1_ k_ ∨ P2_ k_) ∨ w.heap.size ≤ k_)) (.slice A2 l2.length c2) l2 from Kd.V_mono hs2 (fun k_ hk => .inl (.inr hk)))
 have HB := ak (Below.refl w.heap.size w)
 have H : ((polymod_first.f k a0 (([l1, l2] : List (List Int)))).bind fun t355 => (if t355 = 0 then ((fp_Mul.f k a0 l1 l2).bind fun t356 => ((polymod_bounded.f k t356).bind fun bt359 => (some (bt359.1, bt359.2)))) else (some (([] : List Int), t355)))) = some (r1, r2) := h
 clear h
 obtain ⟨y352, hy352⟩ : ∃ y_ : List (List Int), y_ = (([l1, l2] : List (List Int))) := ⟨_, rfl⟩
 replace H : ((polymod_first.f k a0 y352).bind fun t355 => (if t355 = 0 then ((fp_Mul.f k a0 l1 l2).bind fun t356 => ((polymod_bounded.f k t356).bind fun bt359 => (some (bt359.1, bt359.2)))) else (some (([] : List Int), t355)))) = some (r1, r2) := by first | (rw [hy352]; with_reducible exact H) | (have H2_ := (Option.bind_some _ _).symm.trans H; rw [hy352]; with_reducible exact H2_) | (have H2_ := (Option.bind_some _ _).symm.trans H; with_reducible exact H2_) | with_reducible exact H | (rw [hy352]; exact H) | exact H
 have Ny352 := ak hy352
 clear hy352
 replace H := Option.bind_eq_some_iff.mp H
 obtain ⟨t355, A40, H⟩ := H
 replace H : (if t355 = 0 then ((fp_Mul.f k a0 l1 l2).bind fun t356 => ((polymod_bounded.f k t356).bind fun bt359 => (some (bt359.1, bt359.2)))) else (some (([] : List Int), t355))) = some (r1, r2) := H
 have A4 := ak A40
 clear A40
 by_cases c5 : t355 = 0
 · rw [if_pos c5] at H
   have c5b0 : (t355 == 0) = true := beq_iff_eq.mpr c5
   have c5b1 : (t355 != 0) = false := bne_eq_false_iff_eq.mpr c5
   clear c5
   replace H := Option.bind_eq_some_iff.mp H
   obtain ⟨t356, A60, H⟩ := H
   replace H : ((polymod_bounded.f k t356).bind fun bt359 => (some (bt359.1, bt359.2))) = some (r1, r2) := H
   have A6 := ak A60
   clear A60
   replace H := Option.bind_eq_some_iff.mp H
   obtain ⟨⟨t359, t362⟩, A70, H⟩ := H
   replace H : (some (t359, t362)) = some (r1, r2) := H
   have A7 := ak A70
   clear A70
   as_aux_lemma =>
    simp only [Option.some.injEq, Prod.mk.injEq] at H
    obtain ⟨rfl, rfl⟩ := H
    go_enter Try.func18, Try.ntmps18
    go_wp2_with (first | ((with_reducible refine gate_dst (N := 12) rfl ?_); refine Kd.N_lit (Kd.slice 3 (Kd.int .i64)) _ 23 ?hg (N' := 12) ?hd (xs := ([l1, l2] : List (List Int))) (inner := [.slice A1 l1.length c1, .slice A2 l2.length c2]) (ok := (fun k_ => ((P1_ k_ ∨ P2_ k_) ∨ w.heap.size ≤ k_))) (okp := (fun k_ => ((P1_ k_ ∨ P2_ k_) ∨ w.heap.size ≤ k_))) ?hr ?hp (fun _ hk => hk) ((show ∀ k_, w.heap.size ≤ k_ → (fun k_ => ((P1_ k_ ∨ P2_ k_) ∨ w.heap.size ≤ k_)) k_ from fun k_ hk => (.inr (Nat.le_trans (below_size bX) hk))) _ (Nat.le_refl _)) (Below.refl _ _) (Nat.le_refl _) (by simp) ?_; (case hd => rfl); (case hg => rfl); (case hr => first | (go_simp; done) | (go_simp; rfl)); (case hp => exact (Reps.one (show Kd.FK (Kd.slice 3 (Kd.int .i64)) _ _ l1 [.slice A1 l1.length c1] from (Kd.FK_slice_mk (Kd.V_reads' (Kd.V_mono (ok' := (fun k_ => ((P1_ k_ ∨ P2_ k_) ∨ w.heap.size ≤ k_))) (HO1.out) (fun k_ hk => hk))).2.1 (Kd.V_F (Kd.V_mono (ok' := (fun k_ => ((P1_ k_ ∨ P2_ k_) ∨ w.heap.size ≤ k_))) (HO1.out) (fun k_ hk => hk))))) (Reps.one (show Kd.FK (Kd.slice 3 (Kd.int .i64)) _ _ l2 [.slice A2 l2.length c2] from (Kd.FK_slice_mk (Kd.V_reads' (Kd.V_mono (ok' := (fun k_ => ((P1_ k_ ∨ P2_ k_) ∨ w.heap.size ≤ k_))) (HO2.out) (fun k_ hk => hk))).2.1 (Kd.V_F (Kd.V_mono (ok' := (fun k_ => ((P1_ k_ ∨ P2_ k_) ∨ w.heap.size ≤ k_))) (HO2.out) (fun k_ hk => hk))))) (Reps.none _ _)))); intro v353 w8 ho9 hb hg_ hnew_; clear hg_ hnew_; (first | rw [← Ny352.out] at ho9 | (simp only [Int.reduceToNat] at ho9; rw [← Ny352.out] at ho9)); have n0_ := ak (Kd.V_elder' (vX HO1.out) (Kd.N_base ho9) hb); have n1_ := ak (Kd.V_elder' (vX HO2.out) (Kd.N_base ho9) hb); have n2_ := ak (Kd.N_lower ho9 (below_size bX)); have n3_ := ak (below_step bX hb); clear HO1; clear HO2; clear HB; have HO1 := n0_; have HO2 := n1_; have HO354 := n2_; have HB := n3_; clear n0_ n1_ n2_ n3_; clear hb ho9; obtain ⟨Ao10, co10, eo10⟩ := Kd.N_slice HO354.out; subst eo10) | ((with_reducible refine gate_callee (f := 60) rfl ?_); refine goesL_ (some 13) rfl rfl Try.func60 (by kernel_rfl) rfl #[.int .i64 a0, .slice Ao10 y352.length co10] rfl mX ?_; (with_reducible refine (polymod_first.calls k a0 _ _ y352 t355 _ ?side1 ?side2 A4.out).mono ?_); (case side1 => exact cX (Kd.N_reads' HO354.out).2.2); (case side2 => exact (Kd.N_reads' HO354.out).2.1); rintro e w11 ⟨rfl, hb⟩; refine ⟨_, rfl, ?_⟩; have n0_ := ak (Kd.V_below (vX HO1.out) hb); have n1_ := ak (Kd.V_below (vX HO2.out) hb); have n2_ := ak (Kd.N_below (by (with_reducible repeat (first | apply Kd.N_alloc | apply Kd.N_drewN | apply Kd.N_drew)); exact HO354.out) hb); have n3_ := ak (below_step bX hb); clear HO1; clear HO2; clear HO354; clear HB; have HO1 := n0_; have HO2 := n1_; have HO354 := n2_; have HB := n3_; clear n0_ n1_ n2_ n3_; (try clear hb); (try clear hb2); (try clear hk); (try clear hi)) | ((with_reducible refine gate_callee (f := 67) rfl ?_); refine goesL_ (some 20) rfl rfl Try.func67 (by kernel_rfl) rfl #[.int .i64 a0, .slice A1 l1.length c1, .slice A2 l2.length c2] rfl mX ?_; (with_reducible refine (fp_Mul.calls k a0 _ _ l1 _ _ l2 t356 _ ?side1 ?side2 ?side3 ?side4 A6.out).mono ?_); (case side1 => exact cX (Kd.V_reads' HO1.out).2.2); (case side2 => exact (Kd.V_reads' HO1.out).2.1); (case side3 => exact cX (Kd.V_reads' HO2.out).2.2); (case side4 => exact (Kd.V_reads' HO2.out).2.1); rintro e w12 ⟨v357, rfl, ho0, hb⟩; refine ⟨_, rfl, ?_⟩; have n0_ := ak (Kd.V_below (vX HO1.out) hb); have n1_ := ak (Kd.V_below (vX HO2.out) hb); have n2_ := ak (Kd.N_below (by (with_reducible repeat (first | apply Kd.N_alloc | apply Kd.N_drewN | apply Kd.N_drew)); exact HO354.out) hb); have n3_ := ak (Kd.V_lower (Kd.V_mono (ok' := fun k_ => ((P1_ k_ ∨ P2_ k_) ∨ w.heap.size ≤ k_) ∧ some k_ ≠ (.slice Ao10 y352.length co10 : Value).ownBlock) ho0 (fun k_ hk_ => ⟨(.inr (Nat.le_trans (below_size bX) hk_)), (Kd.fresh' (Kd.N_lt (by (with_reducible repeat (first | apply Kd.N_alloc | apply Kd.N_drewN | apply Kd.N_drew)); exact HO354.out)) k_ hk_)⟩)) (below_size bX)); have n4_ := ak (below_step bX hb); clear HO1; clear HO2; clear HO354; clear HB; have HO1 := n0_; have HO2 := n1_; have HO354 := n2_; have HO358 := n3_; have HB := n4_; clear n0_ n1_ n2_ n3_ n4_; (try clear hb); (try clear hb2); (try clear hk); (try clear hi); (try clear ho0); obtain ⟨Ao13, co13, eo13⟩ := Kd.V_slice HO358.out; subst eo13) | ((with_reducible refine gate_callee (f := 66) rfl ?_); refine goesL_ (some 21) rfl rfl Try.func66 (by kernel_rfl) rfl #[.slice Ao13 t356.length co13] rfl mX ?_; (with_reducible refine (polymod_bounded.calls k (fun k_ => (((P1_ k_ ∨ P2_ k_) ∨ w.heap.size ≤ k_) ∧ some k_ ≠ (.slice Ao10 y352.length co10 : Value).ownBlock)) _ _ t356 t359 t362 _ ?side1 A7.out).mono ?_); (case side1 => exact HO358.out); rintro e w14 ⟨v360, rfl, ho0, hb⟩; refine ⟨_, rfl, ?_⟩; have n0_ := ak (Kd.V_below (vX HO1.out) hb); have n1_ := ak (Kd.V_below (vX HO2.out) hb); have n2_ := ak (Kd.N_below (by (with_reducible repeat (first | apply Kd.N_alloc | apply Kd.N_drewN | apply Kd.N_drew)); exact HO354.out) hb); have n3_ := ak (Kd.V_below (vX HO358.out) hb); have n4_ := ak (Kd.V_lower (Kd.V_mono (ok' := fun k_ => ((P1_ k_ ∨ P2_ k_) ∨ w.heap.size ≤ k_) ∧ some k_ ≠ (.slice Ao10 y352.length co10 : Value).ownBlock) ho0 (fun k_ hk_ => ⟨Or.elim hk_ (fun hs_ => hs_.1) (fun hn_ => (.inr (Nat.le_trans (below_size bX) hn_))), Or.elim hk_ (fun hs_ => hs_.2) (fun hn_ => (Kd.fresh' (Kd.N_lt (by (with_reducible repeat (first | apply Kd.N_alloc | apply Kd.N_drewN | apply Kd.N_drew)); exact HO354.out)) k_ hn_))⟩)) (below_size bX)); have n5_ := ak (below_step bX hb); clear HO1; clear HO2; clear HO354; clear HO358; clear HB; have HO1 := n0_; have HO2 := n1_; have HO354 := n2_; have HO358 := n3_; have HO361 := n4_; have HB := n5_; clear n0_ n1_ n2_ n3_ n4_ n5_; (try clear hb); (try clear hb2); (try clear hk); (try clear hi); (try clear ho0)))
    go_ret2
    exact ⟨_, by first | rfl | (simp [errW_none, errW_some] <;> rfl) | (simp [*, errW_none, errW_some] <;> rfl), by (with_reducible repeat (first | apply vA | apply vB | apply vC)); exact Kd.V_mono HO361.out (fun _ hk => hk.1), by repeat (first | (with_reducible first | exact HB.out | apply bA | apply bB | apply bC) | exact HB.out)⟩
 · rw [if_neg c5] at H
   have c5b0 : (t355 == 0) = false := beq_eq_false_iff_ne.mpr c5
   have c5b1 : (t355 != 0) = true := bne_iff_ne.mpr c5
   as_aux_lemma =>
    simp only [Option.some.injEq, Prod.mk.injEq] at H
    obtain ⟨rfl, rfl⟩ := H
    go_enter Try.func18, Try.ntmps18
    go_wp2_with (first | ((with_reducible refine gate_dst (N := 12) rfl ?_); refine Kd.N_lit (Kd.slice 3 (Kd.int .i64)) _ 23 ?hg (N' := 12) ?hd (xs := ([l1, l2] : List (List Int))) (inner := [.slice A1 l1.length c1, .slice A2 l2.length c2]) (ok := (fun k_ => ((P1_ k_ ∨ P2_ k_) ∨ w.heap.size ≤ k_))) (okp := (fun k_ => ((P1_ k_ ∨ P2_ k_) ∨ w.heap.size ≤ k_))) ?hr ?hp (fun _ hk => hk) ((show ∀ k_, w.heap.size ≤ k_ → (fun k_ => ((P1_ k_ ∨ P2_ k_) ∨ w.heap.size ≤ k_)) k_ from fun k_ hk => (.inr (Nat.le_trans (below_size bX) hk))) _ (Nat.le_refl _)) (Below.refl _ _) (Nat.le_refl _) (by simp) ?_; (case hd => rfl); (case hg => rfl); (case hr => first | (go_simp; done) | (go_simp; rfl)); (case hp => exact (Reps.one (show Kd.FK (Kd.slice 3 (Kd.int .i64)) _ _ l1 [.slice A1 l1.length c1] from (Kd.FK_slice_mk (Kd.V_reads' (Kd.V_mono (ok' := (fun k_ => ((P1_ k_ ∨ P2_ k_) ∨ w.heap.size ≤ k_))) (HO1.out) (fun k_ hk => hk))).2.1 (Kd.V_F (Kd.V_mono (ok' := (fun k_ => ((P1_ k_ ∨ P2_ k_) ∨ w.heap.size ≤ k_))) (HO1.out) (fun k_ hk => hk))))) (Reps.one (show Kd.FK (Kd.slice 3 (Kd.int .i64)) _ _ l2 [.slice A2 l2.length c2] from (Kd.FK_slice_mk (Kd.V_reads' (Kd.V_mono (ok' := (fun k_ => ((P1_ k_ ∨ P2_ k_) ∨ w.heap.size ≤ k_))) (HO2.out) (fun k_ hk => hk))).2.1 (Kd.V_F (Kd.V_mono (ok' := (fun k_ => ((P1_ k_ ∨ P2_ k_) ∨ w.heap.size ≤ k_))) (HO2.out) (fun k_ hk => hk))))) (Reps.none _ _)))); intro v353 w15 ho16 hb hg_ hnew_; clear hg_ hnew_; (first | rw [← Ny352.out] at ho16 | (simp only [Int.reduceToNat] at ho16; rw [← Ny352.out] at ho16)); have n0_ := ak (Kd.V_elder' (vX HO1.out) (Kd.N_base ho16) hb); have n1_ := ak (Kd.V_elder' (vX HO2.out) (Kd.N_base ho16) hb); have n2_ := ak (Kd.N_lower ho16 (below_size bX)); have n3_ := ak (below_step bX hb); clear HO1; clear HO2; clear HB; have HO1 := n0_; have HO2 := n1_; have HO354 := n2_; have HB := n3_; clear n0_ n1_ n2_ n3_; clear hb ho16; obtain ⟨Ao17, co17, eo17⟩ := Kd.N_slice HO354.out; subst eo17) | ((with_reducible refine gate_callee (f := 60) rfl ?_); refine goesL_ (some 13) rfl rfl Try.func60 (by kernel_rfl) rfl #[.int .i64 a0, .slice Ao17 y352.length co17] rfl mX ?_; (with_reducible refine (polymod_first.calls k a0 _ _ y352 t355 _ ?side1 ?side2 A4.out).mono ?_); (case side1 => exact cX (Kd.N_reads' HO354.out).2.2); (case side2 => exact (Kd.N_reads' HO354.out).2.1); rintro e w18 ⟨rfl, hb⟩; refine ⟨_, rfl, ?_⟩; have n0_ := ak (Kd.V_below (vX HO1.out) hb); have n1_ := ak (Kd.V_below (vX HO2.out) hb); have n2_ := ak (Kd.N_below (by (with_reducible repeat (first | apply Kd.N_alloc | apply Kd.N_drewN | apply Kd.N_drew)); exact HO354.out) hb); have n3_ := ak (below_step bX hb); clear HO1; clear HO2; clear HO354; clear HB; have HO1 := n0_; have HO2 := n1_; have HO354 := n2_; have HB := n3_; clear n0_ n1_ n2_ n3_; (try clear hb); (try clear hb2); (try clear hk); (try clear hi)))
    go_ret2
    exact ⟨_, by first | rfl | (simp [errW_none, errW_some] <;> rfl) | (simp [*, errW_none, errW_some] <;> rfl), (Kd.V_nil _ _ _ _ _), by repeat (first | (with_reducible first | exact HB.out | apply bA | apply bB | apply bC) | exact HB.out)⟩

/-! ### galoisref01_pack: function 106 -/
mutual
def galoisref01_pack.l0 : Nat → List Int → List Int → Int → Option (ByteArray)
 | 0, _, _, _ => none
 | k + 1, x0, x3, x4 => if x4 ≥ 0 then (galoisref01_pack.l1 k x0 x3 x4 24) else (some (strOfNums x3))
def galoisref01_pack.l1 : Nat → List Int → List Int → Int → Int → Option (ByteArray)
 | 0, _, _, _, _ => none
 | k + 1, x0, x3, x4, x5 => if x5 ≥ 0 then (if 0 ≤ x4 then (if x4 < (x0.length : Int) then (if 0 ≤ x5 then (if (x3.length : Int) > 0 then (if x3.length < 140737488355328 then (galoisref01_pack.l1 k x0 (x3 ++ [(shr .u64 (rd x0 x4) x5) % 256]) x4 (wrap64 (x5 - 8))) else (none)) else (if ((shr .u64 (rd x0 x4) x5) % 256) > 0 then (if x3.length < 140737488355328 then (galoisref01_pack.l1 k x0 (x3 ++ [(shr .u64 (rd x0 x4) x5) % 256]) x4 (wrap64 (x5 - 8))) else (none)) else (galoisref01_pack.l1 k x0 x3 x4 (wrap64 (x5 - 8))))) else (none)) else (none)) else (none)) else (galoisref01_pack.l0 k x0 x3 (wrap64 (x4 - 1)))
end
def galoisref01_pack.f (k : Nat) (l0 : List Int) : Option (ByteArray) := galoisref01_pack.l0 k l0 ([] : List Int) (wrap64 ((l0.length : Int) - 1))
theorem galoisref01_pack.mono_l : ∀ k, (∀ y0 y1 y2, LeO (galoisref01_pack.l0 k y0 y1 y2) (galoisref01_pack.l0 (k + 1) y0 y1 y2)) ∧ (∀ y0 y1 y2 y3, LeO (galoisref01_pack.l1 k y0 y1 y2 y3) (galoisref01_pack.l1 (k + 1) y0 y1 y2 y3))
 | 0 => ⟨fun _ _ _ r h => by simp [galoisref01_pack.l0] at h, fun _ _ _ _ r h => by simp [galoisref01_pack.l1] at h⟩
 | k + 1 => by
   obtain ⟨ih0, ih1⟩ := galoisref01_pack.mono_l k
   refine ⟨?_, ?_⟩
   · intro y0 y1 y2
     unfold galoisref01_pack.l0
     repeat' first
     | (with_reducible apply ih0)
     | (with_reducible apply ih1)
     | (with_reducible apply LeO.refl)
     | (with_reducible apply LeO.none)
     | (with_reducible refine LeO.ite ?_ ?_)
     | (with_reducible refine LeO.bind ?_ (fun _ => ?_))
   · intro y0 y1 y2 y3
     unfold galoisref01_pack.l1
     repeat' first
     | (with_reducible apply ih0)
     | (with_reducible apply ih1)
     | (with_reducible apply LeO.refl)
     | (with_reducible apply LeO.none)
     | (with_reducible refine LeO.ite ?_ ?_)
     | (with_reducible refine LeO.bind ?_ (fun _ => ?_))
theorem galoisref01_pack.mono : ∀ a0 k, LeO (galoisref01_pack.f k a0) (galoisref01_pack.f (k + 1) a0) := by
 intro a0 k
 obtain ⟨ih0, ih1⟩ := galoisref01_pack.mono_l k
 unfold galoisref01_pack.f
 repeat' first
  | (with_reducible apply ih0)
  | (with_reducible apply ih1)
  | (with_reducible apply LeO.refl)
  | (with_reducible apply LeO.none)
  | (with_reducible refine LeO.ite ?_ ?_)
  | (with_reducible refine LeO.bind ?_ (fun _ => ?_))
set_option maxHeartbeats 8000000 in
set_option maxRecDepth 100000 in
theorem galoisref01_pack.calls (k : Nat) (A0 : Option Addr) (c0 : Nat) (l0 : List Int) (r : ByteArray) (w : World) (hr0 : Kd.C (Kd.int .u64) w A0 l0.length l0) (hc0 : l0.length ≤ c0) (h : galoisref01_pack.f k l0 = some r) :
 Calls Try.prog 106 #[.slice A0 l0.length c0] w fun e w' => e = .returned (.string r) ∧ Below w.heap.size w w' := by
 have HR0 := ak hr0
 have HC0 := ak hc0
 clear hr0 hc0
 have HB := ak (Below.refl w.heap.size w)
 have H : (galoisref01_pack.l0 k l0 ([] : List Int) (wrap64 ((l0.length : Int) - 1))) = some r := h
 clear h
 have H' := ak H
 clear H
 go_enter Try.func106, Try.ntmps106
 go_wp2
 go_loopg [3, 4] k (fun kq v3 v4 w' => ∃ (x3_1 : List Int) (x4_1 : Int), v4 = .int .i64 x4_1 ∧ Aside0 (galoisref01_pack.l0 kq l0 x3_1 x4_1 = some r) ∧ Aside0 (kq ≤ k) ∧ Aside0 (Kd.R (Kd.int .u8) 5 w' w.heap.size (fun _ => True) v3 x3_1) ∧ Aside0 (Below w.heap.size w w'))
 case atStart => exact ⟨(([] : List Int)), (wrap64 ((l0.length : Int) - 1)), (by first | rfl | (simp; done) | (simp [*]; done)), H', ⟨Nat.le_refl _⟩, ⟨by first | exact Kd.R_nil _ _ _ _ _ | exact Kd.N_nil _ _ _ _ _ | exact Kd.V_nil _ _ _ _ _ | exact Kd.Q_nil _ _ _ _ _ | exact Kd.S_nil _ _ _ _ _⟩, ⟨by repeat (first | (with_reducible first | exact HB.out | apply bA | apply bB | apply bC) | exact HB.out)⟩⟩
 case round =>
  clear H'
  try clear c1
  obtain ⟨x3_1, x4_1, rfl, HA, HK1, HO_3, HB⟩ := hrel
  cases gk with
  | zero => exact absurd HA.out (by simp [galoisref01_pack.l0])
  | succ k1 =>
    have H := HA.out
    clear HA
    simp only [galoisref01_pack.l0] at H
    by_cases c2 : x4_1 ≥ 0
    · rw [if_pos c2] at H
      have c2b0 : decide (0 ≤ x4_1) = true := decide_eq_true c2
      clear c2
      have H' := ak H
      clear H
      go_wp2
      go_loopg [3, 5] k1 (fun kq v3 v5 w' => ∃ (x3_2 : List Int) (x5_2 : Int), v5 = .int .i64 x5_2 ∧ Aside0 (galoisref01_pack.l1 kq l0 x3_2 x4_1 x5_2 = some r) ∧ Aside0 (kq ≤ k1) ∧ Aside0 (Kd.R (Kd.int .u8) 5 w' w.heap.size (fun _ => True) v3 x3_2) ∧ Aside0 (Below w.heap.size w w'))
      case atStart => exact ⟨(x3_1), (24), (by first | rfl | (simp; done) | (simp [*]; done)), H', ⟨Nat.le_refl _⟩, ⟨by (with_reducible repeat (first | apply Kd.R_alloc | apply Kd.R_drewN | apply Kd.R_drew)); exact HO_3.out⟩, ⟨by repeat (first | (with_reducible first | exact HB.out | apply bA | apply bB | apply bC) | exact HB.out)⟩⟩
      case round =>
       clear H'
       try clear c1
       try clear c2
       try clear c2b0
       try clear p2
       obtain ⟨x3_2, x5_2, rfl, HA, HK2, HO_3, HB⟩ := hrel
       cases gk with
       | zero => exact absurd HA.out (by simp [galoisref01_pack.l1])
       | succ k2 =>
         have H := HA.out
         clear HA
         simp only [galoisref01_pack.l1] at H
         by_cases c3 : x5_2 ≥ 0
         · rw [if_pos c3] at H
           have c3b0 : decide (0 ≤ x5_2) = true := decide_eq_true c3
           clear c3
           by_cases c4 : 0 ≤ x4_1
           · rw [if_pos c4] at H
             have c4b0 : decide (0 ≤ x4_1) = true := decide_eq_true c4
             clear c4
             by_cases c5 : x4_1 < (l0.length : Int)
             · rw [if_pos c5] at H
               have c5b0 : decide (x4_1 < (l0.length : Int)) = true := decide_eq_true c5
               clear c5
               by_cases c6 : 0 ≤ x5_2
               · rw [if_pos c6] at H
                 have c6b0 := eq_true c6
                 have c6b1 : decide (0 ≤ x5_2) = true := decide_eq_true c6
                 clear c6
                 obtain ⟨ji7, hji7⟩ : ∃ j_ : Int, (shr .u64 (rd l0 x4_1) x5_2) = j_ := ⟨_, rfl⟩
                 replace H : (if (x3_2.length : Int) > 0 then (if x3_2.length < 140737488355328 then (galoisref01_pack.l1 k2 l0 (x3_2 ++ [(ji7) % 256]) x4_1 (wrap64 (x5_2 - 8))) else (none)) else (if ((ji7) % 256) > 0 then (if x3_2.length < 140737488355328 then (galoisref01_pack.l1 k2 l0 (x3_2 ++ [(ji7) % 256]) x4_1 (wrap64 (x5_2 - 8))) else (none)) else (galoisref01_pack.l1 k2 l0 x3_2 x4_1 (wrap64 (x5_2 - 8))))) = some r := by first | (rw [hji7] at H; exact H) | (simp only [hji7] at H ⊢; exact H)
                 have hji7_ : ((rd l0 x4_1) / 2 ^ min x5_2.toNat 64) = ji7 := hji7
                 have hji7z : x5_2 ≤ 64 → ((rd l0 x4_1) / 2 ^ x5_2.toNat) = ji7 := shr_small hji7
                 by_cases c8 : (x3_2.length : Int) > 0
                 · rw [if_pos c8] at H
                   have c8b0 : decide (0 < (x3_2.length : Int)) = true := decide_eq_true c8
                   have c8b1 : decide (0 < x3_2.length) = true := decide_eq_true (by omega)
                   clear c8
                   by_cases c9 : x3_2.length < 140737488355328
                   · rw [if_pos c9] at H
                     have LMc9 := ak c9
                     clear c9
                     obtain ⟨y364, hy364⟩ : ∃ y_ : List Int, y_ = (x3_2 ++ [(ji7) % 256]) := ⟨_, rfl⟩
                     replace H : (galoisref01_pack.l1 k2 l0 y364 x4_1 (wrap64 (x5_2 - 8))) = some r := by first | (rw [hy364]; with_reducible exact H) | (have H2_ := (Option.bind_some _ _).symm.trans H; rw [hy364]; with_reducible exact H2_) | (have H2_ := (Option.bind_some _ _).symm.trans H; with_reducible exact H2_) | with_reducible exact H | (rw [hy364]; exact H) | exact H
                     have Ny364 := ak hy364
                     clear hy364
                     as_aux_lemma =>
                      have H' := ak H
                      clear H
                      have p363 : 0 ≤ (x4_1 : Int) := of_decide_eq_true aX
                      have q363 : x4_1 < (l0.length : Int) := of_decide_eq_true aX
                      obtain ⟨ad363, e363, hx363_0⟩ := Kd.at_int HR0.out x4_1 p363 q363
                      cases e363
                      replace hx363_0 := (HB.out.cell (World.block_lt_of_cell? w _ hx363_0)).trans hx363_0
                      replace p363 := eq_true p363
                      replace q363 := eq_true q363
                      obtain ⟨Ao10, co10, eo10⟩ := Kd.R_slice HO_3.out
                      subst eo10
                      go_wp2_with (first | ((with_reducible refine gate_builtin (b := .append) (xs := #[.tmp 32, .tmp 34]) rfl ?_); at_builtin; refine Kd.R_append (Kd.int .u8) (w0 := w) w.heap.size rfl (.tmp 32) (.tmp 34) 115 5 (.int .u8 0) 1 rfl Try.underlying115 info5 rfl (by decide) (by omega) (.slice Ao10 x3_2.length co10) x3_2 ((ji7) % 256) [.int .u8 ((ji7) % 256)] (fun _ => True) (fun _ => False) rfl rfl ?aP (fun _ hk => hk.elim) ?aF ?aO ?aB ?aS ?aL ?_; (case aP => exact rfl); (case aB => exact bX); (case aF => exact (fun _ _ => trivial)); (case aO => exact (rX HO_3.out)); (case aS => exact (below_size bX)); (case aL => have := LMc9.out; omega); intro v365 w11 ho hb hg hat; rw [← Ny364.out] at ho; have n0_ := ak (hb); have n1_ := ak (ho); clear HB; clear HO_3; have HB := n0_; have HO366 := n1_; clear n0_ n1_; clear ho hb hg hat))
                      (first | go_roundg k2 | (refine Handed.intro k2 ?measure ?_; rotate_left; go_step; (repeat rw [add_plain]); (repeat apply Exists.intro); refine ⟨?rel, rfl⟩))
                      case measure => have := HK1.out; have := HK2.out; omega
                      case rel => exact ⟨(y364), (wrap64 (x5_2 - 8)), (by first | rfl | (simp; done) | (simp [*]; done)), H', ⟨by have := HK1.out; have := HK2.out; omega⟩, ⟨by (with_reducible repeat (first | apply Kd.R_alloc | apply Kd.R_drewN | apply Kd.R_drew)); exact HO366.out⟩, ⟨by repeat (first | (with_reducible first | exact HB.out | apply bA | apply bB | apply bC) | exact HB.out)⟩⟩
                   · rw [if_neg c9] at H
                     exact absurd H (by simp)
                 · rw [if_neg c8] at H
                   have c8b0 : decide (0 < (x3_2.length : Int)) = false := decide_eq_false c8
                   have c8b1 : decide (0 < x3_2.length) = false := decide_eq_false (by omega)
                   clear c8
                   by_cases c12 : ((ji7) % 256) > 0
                   · rw [if_pos c12] at H
                     have c12b0 : decide (0 < ((ji7) % 256)) = true := decide_eq_true c12
                     clear c12
                     by_cases c13 : x3_2.length < 140737488355328
                     · rw [if_pos c13] at H
                       have LMc13 := ak c13
                       clear c13
                       obtain ⟨y367, hy367⟩ : ∃ y_ : List Int, y_ = (x3_2 ++ [(ji7) % 256]) := ⟨_, rfl⟩
                       replace H : (galoisref01_pack.l1 k2 l0 y367 x4_1 (wrap64 (x5_2 - 8))) = some r := by first | (rw [hy367]; with_reducible exact H) | (have H2_ := (Option.bind_some _ _).symm.trans H; rw [hy367]; with_reducible exact H2_) | (have H2_ := (Option.bind_some _ _).symm.trans H; with_reducible exact H2_) | with_reducible exact H | (rw [hy367]; exact H) | exact H
                       have Ny367 := ak hy367
                       clear hy367
                       as_aux_lemma =>
                        have H' := ak H
                        clear H
                        have p363 : 0 ≤ (x4_1 : Int) := of_decide_eq_true aX
                        have q363 : x4_1 < (l0.length : Int) := of_decide_eq_true aX
                        obtain ⟨ad363, e363, hx363_0⟩ := Kd.at_int HR0.out x4_1 p363 q363
                        cases e363
                        replace hx363_0 := (HB.out.cell (World.block_lt_of_cell? w _ hx363_0)).trans hx363_0
                        replace p363 := eq_true p363
                        replace q363 := eq_true q363
                        obtain ⟨Ao14, co14, eo14⟩ := Kd.R_slice HO_3.out
                        subst eo14
                        go_wp2_with (first | ((with_reducible refine gate_builtin (b := .append) (xs := #[.tmp 32, .tmp 34]) rfl ?_); at_builtin; refine Kd.R_append (Kd.int .u8) (w0 := w) w.heap.size rfl (.tmp 32) (.tmp 34) 115 5 (.int .u8 0) 1 rfl Try.underlying115 info5 rfl (by decide) (by omega) (.slice Ao14 x3_2.length co14) x3_2 ((ji7) % 256) [.int .u8 ((ji7) % 256)] (fun _ => True) (fun _ => False) rfl rfl ?aP (fun _ hk => hk.elim) ?aF ?aO ?aB ?aS ?aL ?_; (case aP => exact rfl); (case aB => exact bX); (case aF => exact (fun _ _ => trivial)); (case aO => exact (rX HO_3.out)); (case aS => exact (below_size bX)); (case aL => have := LMc13.out; omega); intro v368 w15 ho hb hg hat; rw [← Ny367.out] at ho; have n0_ := ak (hb); have n1_ := ak (ho); clear HB; clear HO_3; have HB := n0_; have HO369 := n1_; clear n0_ n1_; clear ho hb hg hat))
                        (first | go_roundg k2 | (refine Handed.intro k2 ?measure ?_; rotate_left; go_step; (repeat rw [add_plain]); (repeat apply Exists.intro); refine ⟨?rel, rfl⟩))
                        case measure => have := HK1.out; have := HK2.out; omega
                        case rel => exact ⟨(y367), (wrap64 (x5_2 - 8)), (by first | rfl | (simp; done) | (simp [*]; done)), H', ⟨by have := HK1.out; have := HK2.out; omega⟩, ⟨by (with_reducible repeat (first | apply Kd.R_alloc | apply Kd.R_drewN | apply Kd.R_drew)); exact HO369.out⟩, ⟨by repeat (first | (with_reducible first | exact HB.out | apply bA | apply bB | apply bC) | exact HB.out)⟩⟩
                     · rw [if_neg c13] at H
                       exact absurd H (by simp)
                   · rw [if_neg c12] at H
                     have c12b0 : decide (0 < ((ji7) % 256)) = false := decide_eq_false c12
                     clear c12
                     as_aux_lemma =>
                      have H' := ak H
                      clear H
                      have p363 : 0 ≤ (x4_1 : Int) := of_decide_eq_true aX
                      have q363 : x4_1 < (l0.length : Int) := of_decide_eq_true aX
                      obtain ⟨ad363, e363, hx363_0⟩ := Kd.at_int HR0.out x4_1 p363 q363
                      cases e363
                      replace hx363_0 := (HB.out.cell (World.block_lt_of_cell? w _ hx363_0)).trans hx363_0
                      replace p363 := eq_true p363
                      replace q363 := eq_true q363
                      obtain ⟨Ao16, co16, eo16⟩ := Kd.R_slice HO_3.out
                      subst eo16
                      go_wp2
                      (first | go_roundg k2 | (refine Handed.intro k2 ?measure ?_; rotate_left; go_step; (repeat rw [add_plain]); (repeat apply Exists.intro); refine ⟨?rel, rfl⟩))
                      case measure => have := HK1.out; have := HK2.out; omega
                      case rel => exact ⟨(x3_2), (wrap64 (x5_2 - 8)), (by first | rfl | (simp; done) | (simp [*]; done)), H', ⟨by have := HK1.out; have := HK2.out; omega⟩, ⟨by (with_reducible repeat (first | apply Kd.R_alloc | apply Kd.R_drewN | apply Kd.R_drew)); exact HO_3.out⟩, ⟨by repeat (first | (with_reducible first | exact HB.out | apply bA | apply bB | apply bC) | exact HB.out)⟩⟩
               · rw [if_neg c6] at H
                 exact absurd H (by simp)
             · rw [if_neg c5] at H
               exact absurd H (by simp)
           · rw [if_neg c4] at H
             exact absurd H (by simp)
         · rw [if_neg c3] at H
           have c3b0 : decide (0 ≤ x5_2) = false := decide_eq_false c3
           clear c3
           as_aux_lemma =>
            have H' := ak H
            clear H
            go_wp2
            (first | go_roundg k2 | (refine Handed.intro k2 ?measure ?_; rotate_left; go_step; (repeat rw [add_plain]); (repeat apply Exists.intro); refine ⟨?rel, rfl⟩))
            case measure => have := HK1.out; have := HK2.out; omega
            case rel => exact ⟨(x3_2), (wrap64 (x4_1 - 1)), (by first | rfl | (simp; done) | (simp [*]; done)), H', ⟨by have := HK1.out; have := HK2.out; omega⟩, ⟨by (with_reducible repeat (first | apply Kd.R_alloc | apply Kd.R_drewN | apply Kd.R_drew)); exact HO_3.out⟩, ⟨by repeat (first | (with_reducible first | exact HB.out | apply bA | apply bB | apply bC) | exact HB.out)⟩⟩
    · rw [if_neg c2] at H
      have c2b0 : decide (0 ≤ x4_1) = false := decide_eq_false c2
      clear c2
      as_aux_lemma =>
       obtain rfl := Option.some.inj H
       have hcv17 := own_string (P := Try.prog) Try.underlying115 Try.underlying5 Try.underlying9 (Kd.own_of_R HO_3.out)
       go_wp2
       go_ret
       exact ⟨by first | rfl | (simp [errW_none, errW_some] <;> rfl) | (simp [*, errW_none, errW_some] <;> rfl), by repeat (first | (with_reducible first | exact HB.out | apply bA | apply bB | apply bC) | exact HB.out)⟩

/-! ### galoisref01_Of: function 72 -/
def galoisref01_Of.f (k : Nat) (a0 : Int) : Option (ByteArray) := (galoisref01_pack.f k (([Go.bits .and .u64 a0 4294967295, a0 / 4294967296] : List Int))).bind fun t373 => (some t373)
theorem galoisref01_Of.mono : ∀ a0 k, LeO (galoisref01_Of.f k a0) (galoisref01_Of.f (k + 1) a0) := by
 intro a0 k
 unfold galoisref01_Of.f
 repeat' first
  | (with_reducible apply galoisref01_pack.mono)
  | (with_reducible apply LeO.refl)
  | (with_reducible apply LeO.none)
  | (with_reducible refine LeO.ite ?_ ?_)
  | (with_reducible refine LeO.bind ?_ (fun _ => ?_))
set_option maxHeartbeats 8000000 in
set_option maxRecDepth 100000 in
theorem galoisref01_Of.calls (k : Nat) (a0 : Int) (r : ByteArray) (w : World) (h : galoisref01_Of.f k a0 = some r) :
 Calls Try.prog 72 #[.int .u64 a0] w fun e w' => e = .returned (.string r) ∧ Below w.heap.size w w' := by
 have HB := ak (Below.refl w.heap.size w)
 have H : ((galoisref01_pack.f k (([Go.bits .and .u64 a0 4294967295, a0 / 4294967296] : List Int))).bind fun t373 => (some t373)) = some r := h
 clear h
 obtain ⟨y370, hy370⟩ : ∃ y_ : List Int, y_ = (([Go.bits .and .u64 a0 4294967295, a0 / 4294967296] : List Int)) := ⟨_, rfl⟩
 replace H : ((galoisref01_pack.f k y370).bind fun t373 => (some t373)) = some r := by first | (rw [hy370]; with_reducible exact H) | (have H2_ := (Option.bind_some _ _).symm.trans H; rw [hy370]; with_reducible exact H2_) | (have H2_ := (Option.bind_some _ _).symm.trans H; with_reducible exact H2_) | with_reducible exact H | (rw [hy370]; exact H) | exact H
 have Ny370 := ak hy370
 clear hy370
 replace H := Option.bind_eq_some_iff.mp H
 obtain ⟨t373, A20, H⟩ := H
 replace H : (some t373) = some r := H
 have A2 := ak A20
 clear A20
 as_aux_lemma =>
  obtain rfl := Option.some.inj H
  go_enter Try.func72, Try.ntmps72
  go_wp2_with (first | ((with_reducible refine gate_dst (N := 7) rfl ?_); refine Kd.R_lit (Kd.int .u64) _ 87 ?hg (N := 7) ?hd (xs := ([Go.bits .and .u64 a0 4294967295, a0 / 4294967296] : List Int)) (inner := [.int .u64 (Go.bits .and .u64 a0 4294967295), .int .u64 (a0 / 4294967296)]) (ok := fun _ => True) (okp := fun _ => True) ?hr ?hp (fun _ hk => hk) trivial (Below.refl _ _) (Nat.le_refl _) (by simp) ?_; (case hd => rfl); (case hg => rfl); (case hr => first | (go_simp; done) | (go_simp; rfl)); (case hp => exact (Reps.one (show Kd.M (Kd.int .u64) _ _ _ (Go.bits .and .u64 a0 4294967295) [.int .u64 (Go.bits .and .u64 a0 4294967295)] from rfl) (Reps.one (show Kd.M (Kd.int .u64) _ _ _ (a0 / 4294967296) [.int .u64 (a0 / 4294967296)] from rfl) (Reps.none _ _)))); intro v371 w3 ho4 hb hg_ hnew_; clear hg_ hnew_; (first | rw [← Ny370.out] at ho4 | (simp only [Int.reduceToNat] at ho4; rw [← Ny370.out] at ho4)); have n0_ := ak (Kd.R_lower ho4 (below_size bX)); have n1_ := ak (below_step bX hb); clear HB; have HO372 := n0_; have HB := n1_; clear n0_ n1_; clear hb ho4; obtain ⟨Ao5, co5, eo5⟩ := Kd.R_slice HO372.out; subst eo5) | ((with_reducible refine gate_callee (f := 106) rfl ?_); refine goesL_ (some 8) rfl rfl Try.func106 (by kernel_rfl) rfl #[.slice Ao5 y370.length co5] rfl mX ?_; (with_reducible refine (galoisref01_pack.calls k _ _ y370 t373 _ ?side1 ?side2 A2.out).mono ?_); (case side1 => exact cX (Kd.R_reads' HO372.out).2.2); (case side2 => exact (Kd.R_reads' HO372.out).2.1); rintro e w6 ⟨rfl, hb⟩; refine ⟨_, rfl, ?_⟩; have n0_ := ak (Kd.R_below (rX HO372.out) hb); have n1_ := ak (below_step bX hb); clear HO372; clear HB; have HO372 := n0_; have HB := n1_; clear n0_ n1_; (try clear hb); (try clear hb2); (try clear hk); (try clear hi)))
  go_ret
  exact ⟨by first | rfl | (simp [errW_none, errW_some] <;> rfl) | (simp [*, errW_none, errW_some] <;> rfl), by repeat (first | (with_reducible first | exact HB.out | apply bA | apply bB | apply bC) | exact HB.out)⟩

/-! ### galoisref01_FromInt: function 20 -/
def galoisref01_FromInt.f (k : Nat) (a0 : Int) : Option (ByteArray) := (galoisref01_Of.f k (IntKind.u64.wrap (a0))).bind fun t374 => (some t374)
theorem galoisref01_FromInt.mono : ∀ a0 k, LeO (galoisref01_FromInt.f k a0) (galoisref01_FromInt.f (k + 1) a0) := by
 intro a0 k
 unfold galoisref01_FromInt.f
 repeat' first
  | (with_reducible apply galoisref01_Of.mono)
  | (with_reducible apply LeO.refl)
  | (with_reducible apply LeO.none)
  | (with_reducible refine LeO.ite ?_ ?_)
  | (with_reducible refine LeO.bind ?_ (fun _ => ?_))
set_option maxHeartbeats 8000000 in
set_option maxRecDepth 100000 in
theorem galoisref01_FromInt.calls (k : Nat) (a0 : Int) (r : ByteArray) (w : World) (h : galoisref01_FromInt.f k a0 = some r) :
 Calls Try.prog 20 #[.int .i64 a0] w fun e w' => e = .returned (.string r) ∧ Below w.heap.size w w' := by
 have HB := ak (Below.refl w.heap.size w)
 have H : ((galoisref01_Of.f k (IntKind.u64.wrap (a0))).bind fun t374 => (some t374)) = some r := h
 clear h
 replace H := Option.bind_eq_some_iff.mp H
 obtain ⟨t374, A20, H⟩ := H
 replace H : (some t374) = some r := H
 have A2 := ak A20
 clear A20
 as_aux_lemma =>
  obtain rfl := Option.some.inj H
  go_enter Try.func20, Try.ntmps20
  go_wp2_with (first | ((with_reducible refine gate_callee (f := 72) rfl ?_); refine goesL_ (some 5) rfl rfl Try.func72 (by kernel_rfl) rfl #[.int .u64 (IntKind.u64.wrap (a0))] rfl mX ?_; (with_reducible refine (galoisref01_Of.calls k (IntKind.u64.wrap (a0)) t374 _ A2.out).mono ?_); rintro e w3 ⟨rfl, hb⟩; refine ⟨_, rfl, ?_⟩; have n0_ := ak (below_step bX hb); clear HB; have HB := n0_; clear n0_; (try clear hb); (try clear hb2); (try clear hk); (try clear hi)))
  go_ret
  exact ⟨by first | rfl | (simp [errW_none, errW_some] <;> rfl) | (simp [*, errW_none, errW_some] <;> rfl), by repeat (first | (with_reducible first | exact HB.out | apply bA | apply bB | apply bC) | exact HB.out)⟩

end Go.Proofs.Ytmknclgamadphaa.PPolymodRabin
