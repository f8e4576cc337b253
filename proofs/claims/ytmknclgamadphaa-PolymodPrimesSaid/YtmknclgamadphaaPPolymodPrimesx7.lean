-- WRITTEN BY sprint.py (a program of this repo, over the kit's print.py): nothing here is trusted, Lean checks it.
import Derived.Test.YtmknclgamadphaaPPolymodPrimesx0
import Derived.Test.YtmknclgamadphaaPPolymodPrimesx6
namespace Go.Proofs.Ytmknclgamadphaa.PPolymodPrimes
open Go.RowKit Go.Proofs.YtmknclgamadphaaW.PrintWords Go.Proofs.YtmknclgamadphaaW.PrintLast Go.Proofs.YtmknclgamadphaaW.PrintMore
attribute [local go_sem] max2_int min2_int max_two min_two max_three min_three max_four min_four   -- for this text's walks alone
set_option linter.unusedVariables false
set_option linter.unusedSimpArgs false

/-! ### galoisref09_Check: function 15 -/
def galoisref09_Check.l0 : Nat → Int → List Int → Int → Option (Int)
 | 0, _, _, _ => none
 | k + 1, x0, x1, x5 => if x5 < (x1.length : Int) then (if 0 ≤ x5 then (if (rd x1 x5) < 0 then (some 1) else (if (rd x1 x5) ≥ x0 then (some 1) else (galoisref09_Check.l0 k x0 x1 (wrap64 (x5 + 1))))) else (none)) else (if (x1.length : Int) > 0 then (if 0 ≤ (wrap64 ((x1.length : Int) - 1)) then (if (wrap64 ((x1.length : Int) - 1)) < (x1.length : Int) then (if (rd x1 (wrap64 ((x1.length : Int) - 1))) = 0 then (some 1) else (some 0)) else (none)) else (none)) else (some 0))
def galoisref09_Check.f (k : Nat) (a0 : Int) (l1 : List Int) : Option (Int) := (galoisref09_IsPrime.f k a0).bind fun t340 => (if t340 = true then (if (l1.length : Int) > 65 then (some 4) else (galoisref09_Check.l0 k a0 l1 0)) else (some 7))
theorem galoisref09_Check.mono_l : ∀ k, (∀ y0 y1 y2, LeO (galoisref09_Check.l0 k y0 y1 y2) (galoisref09_Check.l0 (k + 1) y0 y1 y2))
 | 0 => fun _ _ _ r h => by simp [galoisref09_Check.l0] at h
 | k + 1 => by
   have ih0 := galoisref09_Check.mono_l k
   · intro y0 y1 y2
     unfold galoisref09_Check.l0
     repeat' first
     | (with_reducible apply ih0)
     | (with_reducible apply galoisref09_IsPrime.mono)
     | (with_reducible apply LeO.refl)
     | (with_reducible apply LeO.none)
     | (with_reducible refine LeO.ite ?_ ?_)
     | (with_reducible refine LeO.bind ?_ (fun _ => ?_))
theorem galoisref09_Check.mono : ∀ a0 a1 k, LeO (galoisref09_Check.f k a0 a1) (galoisref09_Check.f (k + 1) a0 a1) := by
 intro a0 a1 k
 have ih0 := galoisref09_Check.mono_l k
 unfold galoisref09_Check.f
 repeat' first
  | (with_reducible apply ih0)
  | (with_reducible apply galoisref09_IsPrime.mono)
  | (with_reducible apply LeO.refl)
  | (with_reducible apply LeO.none)
  | (with_reducible refine LeO.ite ?_ ?_)
  | (with_reducible refine LeO.bind ?_ (fun _ => ?_))
set_option maxHeartbeats 8000000 in
set_option maxRecDepth 100000 in
theorem galoisref09_Check.calls (k : Nat) (a0 : Int) (A1 : Option Addr) (c1 : Nat) (l1 : List Int) (r : Int) (w : World) (hr1 : Kd.C (Kd.int .i64) w A1 l1.length l1) (hc1 : l1.length ≤ c1) (h : galoisref09_Check.f k a0 l1 = some r) :
 Calls Try.prog 15 #[.int .i64 a0, .slice A1 l1.length c1] w fun e w' => e = .returned (.int .i64 r) ∧ Drawn0 w w' := by
 have HR1 := ak hr1
 have HC1 := ak hc1
 clear hr1 hc1
 have H : ((galoisref09_IsPrime.f k a0).bind fun t340 => (if t340 = true then (if (l1.length : Int) > 65 then (some 4) else (galoisref09_Check.l0 k a0 l1 0)) else (some 7))) = some r := h
 clear h
 replace H := Option.bind_eq_some_iff.mp H
 obtain ⟨t340, A30, H⟩ := H
 replace H : (if t340 = true then (if (l1.length : Int) > 65 then (some 4) else (galoisref09_Check.l0 k a0 l1 0)) else (some 7)) = some r := H
 have A3 := ak A30
 clear A30
 by_cases c4 : t340 = true
 · subst c4
   have H1 : (if (l1.length : Int) > 65 then (some 4) else (galoisref09_Check.l0 k a0 l1 0)) = some r := by rw [if_pos rfl] at H; exact H
   clear H
   have H := H1
   clear H1
   by_cases c5 : (l1.length : Int) > 65
   · rw [if_pos c5] at H
     have c5b0 : decide (65 < (l1.length : Int)) = true := decide_eq_true c5
     have c5b1 : decide (65 < l1.length) = true := decide_eq_true (by omega)
     clear c5
     as_aux_lemma =>
      obtain rfl := Option.some.inj H
      go_enter Try.func15, Try.ntmps15
      go_wp2_with (first | ((with_reducible refine gate_callee (f := 55) rfl ?_); refine goesL_ (some 7) rfl rfl Try.func55 (by kernel_rfl) rfl #[.int .i64 a0] rfl mX ?_; (with_reducible refine (galoisref09_IsPrime.calls k a0 true _ A3.out).mono ?_); rintro e w' ⟨rfl, ⟨nd, rfl⟩⟩; refine ⟨_, rfl, ?_⟩))
      go_ret
      exact ⟨by first | rfl | (simp; done) | (simp [*]; done), by repeat (first | exact Drawn0.refl _ | apply Drawn0.step)⟩
   · rw [if_neg c5] at H
     have c5b0 : decide (65 < (l1.length : Int)) = false := decide_eq_false c5
     have c5b1 : decide (65 < l1.length) = false := decide_eq_false (by omega)
     clear c5
     have H' := ak H
     clear H
     go_enter Try.func15, Try.ntmps15
     go_wp2_with (first | ((with_reducible refine gate_callee (f := 55) rfl ?_); refine goesL_ (some 7) rfl rfl Try.func55 (by kernel_rfl) rfl #[.int .i64 a0] rfl mX ?_; (with_reducible refine (galoisref09_IsPrime.calls k a0 true _ A3.out).mono ?_); rintro e w' ⟨rfl, ⟨nd, rfl⟩⟩; refine ⟨_, rfl, ?_⟩))
     go_loopg [5] k (fun kq v5 w' => ∃ (x5_1 : Int), v5 = .int .i64 x5_1 ∧ Aside0 (galoisref09_Check.l0 kq a0 l1 x5_1 = some r) ∧ Aside0 (kq ≤ k) ∧ Drawn0 w w')
     case atStart => exact ⟨(0), (by first | rfl | (simp; done) | (simp [*]; done)), H', ⟨Nat.le_refl _⟩, by repeat (first | exact Drawn0.refl _ | apply Drawn0.step)⟩
     case round =>
      clear H'
      try clear c1
      try clear p2
      try clear c4
      try clear c5
      try clear c5b0
      try clear c5b1
      obtain ⟨x5_1, rfl, HA, HK1, ⟨m1, rfl⟩⟩ := hrel
      cases gk with
      | zero => exact absurd HA.out (by simp [galoisref09_Check.l0])
      | succ k1 =>
        have H := HA.out
        clear HA
        simp only [galoisref09_Check.l0] at H
        by_cases c6 : x5_1 < (l1.length : Int)
        · rw [if_pos c6] at H
          have c6b0 : decide (x5_1 < (l1.length : Int)) = true := decide_eq_true c6
          clear c6
          by_cases c7 : 0 ≤ x5_1
          · rw [if_pos c7] at H
            have c7b0 : decide (0 ≤ x5_1) = true := decide_eq_true c7
            clear c7
            by_cases c8 : (rd l1 x5_1) < 0
            · rw [if_pos c8] at H
              have c8b0 : decide ((rd l1 x5_1) < 0) = true := decide_eq_true c8
              clear c8
              as_aux_lemma =>
               obtain rfl := Option.some.inj H
               have p341 : 0 ≤ (x5_1 : Int) := of_decide_eq_true aX
               have q341 : x5_1 < (l1.length : Int) := of_decide_eq_true aX
               obtain ⟨ad341, e341, hx341_0⟩ := Kd.at_int HR1.out x5_1 p341 q341
               cases e341
               replace p341 := eq_true p341
               replace q341 := eq_true q341
               go_wp2
               go_ret
               exact ⟨by first | rfl | (simp; done) | (simp [*]; done), by repeat (first | exact Drawn0.refl _ | apply Drawn0.step)⟩
            · rw [if_neg c8] at H
              have c8b0 : decide ((rd l1 x5_1) < 0) = false := decide_eq_false c8
              clear c8
              by_cases c9 : (rd l1 x5_1) ≥ a0
              · rw [if_pos c9] at H
                have c9b0 : decide (a0 ≤ (rd l1 x5_1)) = true := decide_eq_true c9
                clear c9
                as_aux_lemma =>
                 obtain rfl := Option.some.inj H
                 have p341 : 0 ≤ (x5_1 : Int) := of_decide_eq_true aX
                 have q341 : x5_1 < (l1.length : Int) := of_decide_eq_true aX
                 obtain ⟨ad341, e341, hx341_0⟩ := Kd.at_int HR1.out x5_1 p341 q341
                 cases e341
                 replace p341 := eq_true p341
                 replace q341 := eq_true q341
                 have p342 : 0 ≤ (x5_1 : Int) := of_decide_eq_true aX
                 have q342 : x5_1 < (l1.length : Int) := of_decide_eq_true aX
                 obtain ⟨ad342, e342, hx342_0⟩ := Kd.at_int HR1.out x5_1 p342 q342
                 obtain rfl : ad341 = ad342 := (by injection e342)
                 replace p342 := eq_true p342
                 replace q342 := eq_true q342
                 go_wp2
                 go_ret
                 exact ⟨by first | rfl | (simp; done) | (simp [*]; done), by repeat (first | exact Drawn0.refl _ | apply Drawn0.step)⟩
              · rw [if_neg c9] at H
                have c9b0 : decide (a0 ≤ (rd l1 x5_1)) = false := decide_eq_false c9
                clear c9
                as_aux_lemma =>
                 have H' := ak H
                 clear H
                 have p341 : 0 ≤ (x5_1 : Int) := of_decide_eq_true aX
                 have q341 : x5_1 < (l1.length : Int) := of_decide_eq_true aX
                 obtain ⟨ad341, e341, hx341_0⟩ := Kd.at_int HR1.out x5_1 p341 q341
                 cases e341
                 replace p341 := eq_true p341
                 replace q341 := eq_true q341
                 have p342 : 0 ≤ (x5_1 : Int) := of_decide_eq_true aX
                 have q342 : x5_1 < (l1.length : Int) := of_decide_eq_true aX
                 obtain ⟨ad342, e342, hx342_0⟩ := Kd.at_int HR1.out x5_1 p342 q342
                 obtain rfl : ad341 = ad342 := (by injection e342)
                 replace p342 := eq_true p342
                 replace q342 := eq_true q342
                 go_wp2
                 (first | go_roundg k1 | (refine Handed.intro k1 ?measure ?_; rotate_left; go_step; (repeat rw [add_plain]); (repeat apply Exists.intro); refine ⟨?rel, rfl⟩))
                 case measure => have := HK1.out; omega
                 case rel => exact ⟨(wrap64 (x5_1 + 1)), (by first | rfl | (simp; done) | (simp [*]; done)), H', ⟨by have := HK1.out; omega⟩, by repeat (first | exact Drawn0.refl _ | apply Drawn0.step)⟩
          · rw [if_neg c7] at H
            exact absurd H (by simp)
        · rw [if_neg c6] at H
          have c6b0 : decide (x5_1 < (l1.length : Int)) = false := decide_eq_false c6
          clear c6
          by_cases c10 : (l1.length : Int) > 0
          · rw [if_pos c10] at H
            have c10b0 : decide (0 < (l1.length : Int)) = true := decide_eq_true c10
            have c10b1 : decide (0 < l1.length) = true := decide_eq_true (by omega)
            clear c10
            obtain ⟨ji11, hji11⟩ : ∃ j_ : Int, (wrap64 ((l1.length : Int) - 1)) = j_ := ⟨_, rfl⟩
            replace H : (if 0 ≤ (ji11) then (if (ji11) < (l1.length : Int) then (if (rd l1 (ji11)) = 0 then (some 1) else (some 0)) else (none)) else (none)) = some r := by first | (rw [hji11] at H; exact H) | (simp only [hji11] at H ⊢; exact H)
            have hji11w : (IntKind.i64.wrap ((l1.length : Int) - 1)) = ji11 := (i64_w _).trans hji11
            by_cases c12 : 0 ≤ (ji11)
            · rw [if_pos c12] at H
              have c12b0 : decide (0 ≤ (ji11)) = true := decide_eq_true c12
              clear c12
              by_cases c13 : (ji11) < (l1.length : Int)
              · rw [if_pos c13] at H
                have c13b0 : decide ((ji11) < (l1.length : Int)) = true := decide_eq_true c13
                clear c13
                by_cases c14 : (rd l1 (ji11)) = 0
                · rw [if_pos c14] at H
                  have c14b0 : ((rd l1 (ji11)) == 0) = true := beq_iff_eq.mpr c14
                  have c14b1 : ((rd l1 (ji11)) != 0) = false := bne_eq_false_iff_eq.mpr c14
                  clear c14
                  as_aux_lemma =>
                   obtain rfl := Option.some.inj H
                   have p343 : 0 ≤ ((ji11) : Int) := of_decide_eq_true aX
                   have q343 : (ji11) < (l1.length : Int) := of_decide_eq_true aX
                   obtain ⟨ad343, e343, hx343_0⟩ := Kd.at_int HR1.out (ji11) p343 q343
                   cases e343
                   replace p343 := eq_true p343
                   replace q343 := eq_true q343
                   go_wp2
                   go_ret
                   exact ⟨by first | rfl | (simp; done) | (simp only [← hji11] <;> (first | rfl | simp)) | (simp [*]; done), by repeat (first | exact Drawn0.refl _ | apply Drawn0.step)⟩
                · rw [if_neg c14] at H
                  have c14b0 : ((rd l1 (ji11)) == 0) = false := beq_eq_false_iff_ne.mpr c14
                  have c14b1 : ((rd l1 (ji11)) != 0) = true := bne_iff_ne.mpr c14
                  as_aux_lemma =>
                   obtain rfl := Option.some.inj H
                   have p343 : 0 ≤ ((ji11) : Int) := of_decide_eq_true aX
                   have q343 : (ji11) < (l1.length : Int) := of_decide_eq_true aX
                   obtain ⟨ad343, e343, hx343_0⟩ := Kd.at_int HR1.out (ji11) p343 q343
                   cases e343
                   replace p343 := eq_true p343
                   replace q343 := eq_true q343
                   go_wp2
                   go_ret
                   exact ⟨by first | rfl | (simp; done) | (simp only [← hji11] <;> (first | rfl | simp)) | (simp [*]; done), by repeat (first | exact Drawn0.refl _ | apply Drawn0.step)⟩
              · rw [if_neg c13] at H
                exact absurd H (by simp)
            · rw [if_neg c12] at H
              exact absurd H (by simp)
          · rw [if_neg c10] at H
            have c10b0 : decide (0 < (l1.length : Int)) = false := decide_eq_false c10
            have c10b1 : decide (0 < l1.length) = false := decide_eq_false (by omega)
            clear c10
            as_aux_lemma =>
             obtain rfl := Option.some.inj H
             go_wp2
             go_ret
             exact ⟨by first | rfl | (simp; done) | (simp [*]; done), by repeat (first | exact Drawn0.refl _ | apply Drawn0.step)⟩
 · replace c4 := Bool.eq_false_iff.mpr c4
   subst c4
   have H1 : (some 7) = some r := by rw [if_neg (show ¬ (false = true) by decide)] at H; exact H
   clear H
   have H := H1
   clear H1
   as_aux_lemma =>
    obtain rfl := Option.some.inj H
    go_enter Try.func15, Try.ntmps15
    go_wp2_with (first | ((with_reducible refine gate_callee (f := 55) rfl ?_); refine goesL_ (some 7) rfl rfl Try.func55 (by kernel_rfl) rfl #[.int .i64 a0] rfl mX ?_; (with_reducible refine (galoisref09_IsPrime.calls k a0 false _ A3.out).mono ?_); rintro e w' ⟨rfl, ⟨nd, rfl⟩⟩; refine ⟨_, rfl, ?_⟩))
    go_ret
    exact ⟨by first | rfl | (simp; done) | (simp [*]; done), by repeat (first | exact Drawn0.refl _ | apply Drawn0.step)⟩

/-! ### galoisref01_pack: function 106 -/
mutual
def galoisref01_pack.l0 : Nat → List Int → List Int → Int → Option (ByteArray)
 | 0, _, _, _ => none
 | k + 1, x0, x3, x4 => if x4 ≥ 0 then (galoisref01_pack.l1 k x0 x3 x4 24) else (some (strOfNums x3))
def galoisref01_pack.l1 : Nat → List Int → List Int → Int → Int → Option (ByteArray)
 | 0, _, _, _, _ => none
 | k + 1, x0, x3, x4, x5 => if x5 ≥ 0 then (if 0 ≤ x4 then (if x4 < (x0.length : Int) then (if 0 ≤ x5 then (if (x3.length : Int) > 0 then (if x3.length < 140737488355328 then (galoisref01_pack.l1 k x0 (x3 ++ [(shr .u64 (rd x0 x4) x5) % 256]) x4 (wrap64 (x5 - 8))) else (none)) else (if ((shr .u64 (rd x0 x4) x5) % 256) > 0 then (if x3.length < 140737488355328 then (galoisref01_pack.l1 k x0 (x3 ++ [(shr .u64 (rd x0 x4) x5) % 256]) x4 (wrap64 (x5 - 8))) else (none)) else (galoisref01_pack.l1 k x0 x3 x4 (wrap64 (x5 - 8))))) else (none)) else (none)) else (none)) else (galoisref01_pack.l0 k x0 x3 (wrap64 (x4 - 1)))
end
def galoisref01_pack.f (k : Nat) (l0 : List Int) : Option (ByteArray) := galoisref01_pack.l0 k l0 ([] : List Int) (wrap64 ((l0.length : Int) - 1))
theorem galoisref01_pack.mono_l : ∀ k, (∀ y0 y1 y2, LeO (galoisref01_pack.l0 k y0 y1 y2) (galoisref01_pack.l0 (k + 1) y0 y1 y2)) ∧ (∀ y0 y1 y2 y3, LeO (galoisref01_pack.l1 k y0 y1 y2 y3) (galoisref01_pack.l1 (k + 1) y0 y1 y2 y3))
 | 0 => ⟨fun _ _ _ r h => by simp [galoisref01_pack.l0] at h, fun _ _ _ _ r h => by simp [galoisref01_pack.l1] at h⟩
 | k + 1 => by
   obtain ⟨ih0, ih1⟩ := galoisref01_pack.mono_l k
   refine ⟨?_, ?_⟩
   · intro y0 y1 y2
     unfold galoisref01_pack.l0
     repeat' first
     | (with_reducible apply ih0)
     | (with_reducible apply ih1)
     | (with_reducible apply LeO.refl)
     | (with_reducible apply LeO.none)
     | (with_reducible refine LeO.ite ?_ ?_)
     | (with_reducible refine LeO.bind ?_ (fun _ => ?_))
   · intro y0 y1 y2 y3
     unfold galoisref01_pack.l1
     repeat' first
     | (with_reducible apply ih0)
     | (with_reducible apply ih1)
     | (with_reducible apply LeO.refl)
     | (with_reducible apply LeO.none)
     | (with_reducible refine LeO.ite ?_ ?_)
     | (with_reducible refine LeO.bind ?_ (fun _ => ?_))
theorem galoisref01_pack.mono : ∀ a0 k, LeO (galoisref01_pack.f k a0) (galoisref01_pack.f (k + 1) a0) := by
 intro a0 k
 obtain ⟨ih0, ih1⟩ := galoisref01_pack.mono_l k
 unfold galoisref01_pack.f
 repeat' first
  | (with_reducible apply ih0)
  | (with_reducible apply ih1)
  | (with_reducible apply LeO.refl)
  | (with_reducible apply LeO.none)
  | (with_reducible refine LeO.ite ?_ ?_)
  | (with_reducible refine LeO.bind ?_ (fun _ => ?_))
set_option maxHeartbeats 8000000 in
set_option maxRecDepth 100000 in
theorem galoisref01_pack.calls (k : Nat) (A0 : Option Addr) (c0 : Nat) (l0 : List Int) (r : ByteArray) (w : World) (hr0 : Kd.C (Kd.int .u64) w A0 l0.length l0) (hc0 : l0.length ≤ c0) (h : galoisref01_pack.f k l0 = some r) :
 Calls Try.prog 106 #[.slice A0 l0.length c0] w fun e w' => e = .returned (.string r) ∧ Below w.heap.size w w' := by
 have HR0 := ak hr0
 have HC0 := ak hc0
 clear hr0 hc0
 have HB := ak (Below.refl w.heap.size w)
 have H : (galoisref01_pack.l0 k l0 ([] : List Int) (wrap64 ((l0.length : Int) - 1))) = some r := h
 clear h
 have H' := ak H
 clear H
 go_enter Try.func106, Try.ntmps106
 go_wp2
 go_loopg [3, 4] k (fun kq v3 v4 w' => ∃ (x3_1 : List Int) (x4_1 : Int), v4 = .int .i64 x4_1 ∧ Aside0 (galoisref01_pack.l0 kq l0 x3_1 x4_1 = some r) ∧ Aside0 (kq ≤ k) ∧ Aside0 (Kd.R (Kd.int .u8) 5 w' w.heap.size (fun _ => True) v3 x3_1) ∧ Aside0 (Below w.heap.size w w'))
 case atStart => exact ⟨(([] : List Int)), (wrap64 ((l0.length : Int) - 1)), (by first | rfl | (simp; done) | (simp [*]; done)), H', ⟨Nat.le_refl _⟩, ⟨by first | exact Kd.R_nil _ _ _ _ _ | exact Kd.N_nil _ _ _ _ _ | exact Kd.V_nil _ _ _ _ _ | exact Kd.Q_nil _ _ _ _ _ | exact Kd.S_nil _ _ _ _ _⟩, ⟨by repeat (first | (with_reducible first | exact HB.out | apply bA | apply bB | apply bC) | exact HB.out)⟩⟩
 case round =>
  clear H'
  try clear c1
  obtain ⟨x3_1, x4_1, rfl, HA, HK1, HO_3, HB⟩ := hrel
  cases gk with
  | zero => exact absurd HA.out (by simp [galoisref01_pack.l0])
  | succ k1 =>
    have H := HA.out
    clear HA
    simp only [galoisref01_pack.l0] at H
    by_cases c2 : x4_1 ≥ 0
    · rw [if_pos c2] at H
      have c2b0 : decide (0 ≤ x4_1) = true := decide_eq_true c2
      clear c2
      have H' := ak H
      clear H
      go_wp2
      go_loopg [3, 5] k1 (fun kq v3 v5 w' => ∃ (x3_2 : List Int) (x5_2 : Int), v5 = .int .i64 x5_2 ∧ Aside0 (galoisref01_pack.l1 kq l0 x3_2 x4_1 x5_2 = some r) ∧ Aside0 (kq ≤ k1) ∧ Aside0 (Kd.R (Kd.int .u8) 5 w' w.heap.size (fun _ => True) v3 x3_2) ∧ Aside0 (Below w.heap.size w w'))
      case atStart => exact ⟨(x3_1), (24), (by first | rfl | (simp; done) | (simp [*]; done)), H', ⟨Nat.le_refl _⟩, ⟨by (with_reducible repeat (first | apply Kd.R_alloc | apply Kd.R_drewN | apply Kd.R_drew)); exact HO_3.out⟩, ⟨by repeat (first | (with_reducible first | exact HB.out | apply bA | apply bB | apply bC) | exact HB.out)⟩⟩
      case round =>
       clear H'
       try clear c1
       try clear c2
       try clear c2b0
       try clear p2
       obtain ⟨x3_2, x5_2, rfl, HA, HK2, HO_3, HB⟩ := hrel
       cases gk with
       | zero => exact absurd HA.out (by simp [galoisref01_pack.l1])
       | succ k2 =>
         have H := HA.out
         clear HA
         simp only [galoisref01_pack.l1] at H
         by_cases c3 : x5_2 ≥ 0
         · rw [if_pos c3] at H
           have c3b0 : decide (0 ≤ x5_2) = true := decide_eq_true c3
           clear c3
           by_cases c4 : 0 ≤ x4_1
           · rw [if_pos c4] at H
             have c4b0 : decide (0 ≤ x4_1) = true := decide_eq_true c4
             clear c4
             by_cases c5 : x4_1 < (l0.length : Int)
             · rw [if_pos c5] at H
               have c5b0 : decide (x4_1 < (l0.length : Int)) = true := decide_eq_true c5
               clear c5
               by_cases c6 : 0 ≤ x5_2
               · rw [if_pos c6] at H
                 have c6b0 := eq_true c6
                 have c6b1 : decide (0 ≤ x5_2) = true := decide_eq_true c6
                 clear c6
                 obtain ⟨ji7, hji7⟩ : ∃ j_ : Int, (shr .u64 (rd l0 x4_1) x5_2) = j_ := ⟨_, rfl⟩
                 replace H : (if (x3_2.length : Int) > 0 then (if x3_2.length < 140737488355328 then (galoisref01_pack.l1 k2 l0 (x3_2 ++ [(ji7) % 256]) x4_1 (wrap64 (x5_2 - 8))) else (none)) else (if ((ji7) % 256) > 0 then (if x3_2.length < 140737488355328 then (galoisref01_pack.l1 k2 l0 (x3_2 ++ [(ji7) % 256]) x4_1 (wrap64 (x5_2 - 8))) else (none)) else (galoisref01_pack.l1 k2 l0 x3_2 x4_1 (wrap64 (x5_2 - 8))))) = some r := by first | (rw [hji7] at H; exact H) | (simp only [hji7] at H ⊢; exact H)
                 have hji7_ : ((rd l0 x4_1) / 2 ^ min x5_2.toNat 64) = ji7 := hji7
                 have hji7z : x5_2 ≤ 64 → ((rd l0 x4_1) / 2 ^ x5_2.toNat) = ji7 := shr_small hji7
                 by_cases c8 : (x3_2.length : Int) > 0
                 · rw [if_pos c8] at H
                   have c8b0 : decide (0 < (x3_2.length : Int)) = true := decide_eq_true c8
                   have c8b1 : decide (0 < x3_2.length) = true := decide_eq_true (by omega)
                   clear c8
                   by_cases c9 : x3_2.length < 140737488355328
                   · rw [if_pos c9] at H
                     have LMc9 := ak c9
                     clear c9
                     obtain ⟨y345, hy345⟩ : ∃ y_ : List Int, y_ = (x3_2 ++ [(ji7) % 256]) := ⟨_, rfl⟩
                     replace H : (galoisref01_pack.l1 k2 l0 y345 x4_1 (wrap64 (x5_2 - 8))) = some r := by first | (rw [hy345]; with_reducible exact H) | (have H2_ := (Option.bind_some _ _).symm.trans H; rw [hy345]; with_reducible exact H2_) | (have H2_ := (Option.bind_some _ _).symm.trans H; with_reducible exact H2_) | with_reducible exact H | (rw [hy345]; exact H) | exact H
                     have Ny345 := ak hy345
                     clear hy345
                     as_aux_lemma =>
                      have H' := ak H
                      clear H
                      have p344 : 0 ≤ (x4_1 : Int) := of_decide_eq_true aX
                      have q344 : x4_1 < (l0.length : Int) := of_decide_eq_true aX
                      obtain ⟨ad344, e344, hx344_0⟩ := Kd.at_int HR0.out x4_1 p344 q344
                      cases e344
                      replace hx344_0 := (HB.out.cell (World.block_lt_of_cell? w _ hx344_0)).trans hx344_0
                      replace p344 := eq_true p344
                      replace q344 := eq_true q344
                      obtain ⟨Ao10, co10, eo10⟩ := Kd.R_slice HO_3.out
                      subst eo10
                      go_wp2_with (first | ((with_reducible refine gate_builtin (b := .append) (xs := #[.tmp 32, .tmp 34]) rfl ?_); at_builtin; refine Kd.R_append (Kd.int .u8) (w0 := w) w.heap.size rfl (.tmp 32) (.tmp 34) 115 5 (.int .u8 0) 1 rfl Try.underlying115 info5 rfl (by decide) (by omega) (.slice Ao10 x3_2.length co10) x3_2 ((ji7) % 256) [.int .u8 ((ji7) % 256)] (fun _ => True) (fun _ => False) rfl rfl ?aP (fun _ hk => hk.elim) ?aF ?aO ?aB ?aS ?aL ?_; (case aP => exact rfl); (case aB => exact bX); (case aF => exact (fun _ _ => trivial)); (case aO => exact (rX HO_3.out)); (case aS => exact (below_size bX)); (case aL => have := LMc9.out; omega); intro v346 w11 ho hb hg hat; rw [← Ny345.out] at ho; have n0_ := ak (hb); have n1_ := ak (ho); clear HB; clear HO_3; have HB := n0_; have HO347 := n1_; clear n0_ n1_; clear ho hb hg hat))
                      (first | go_roundg k2 | (refine Handed.intro k2 ?measure ?_; rotate_left; go_step; (repeat rw [add_plain]); (repeat apply Exists.intro); refine ⟨?rel, rfl⟩))
                      case measure => have := HK1.out; have := HK2.out; omega
                      case rel => exact ⟨(y345), (wrap64 (x5_2 - 8)), (by first | rfl | (simp; done) | (simp [*]; done)), H', ⟨by have := HK1.out; have := HK2.out; omega⟩, ⟨by (with_reducible repeat (first | apply Kd.R_alloc | apply Kd.R_drewN | apply Kd.R_drew)); exact HO347.out⟩, ⟨by repeat (first | (with_reducible first | exact HB.out | apply bA | apply bB | apply bC) | exact HB.out)⟩⟩
                   · rw [if_neg c9] at H
                     exact absurd H (by simp)
                 · rw [if_neg c8] at H
                   have c8b0 : decide (0 < (x3_2.length : Int)) = false := decide_eq_false c8
                   have c8b1 : decide (0 < x3_2.length) = false := decide_eq_false (by omega)
                   clear c8
                   by_cases c12 : ((ji7) % 256) > 0
                   · rw [if_pos c12] at H
                     have c12b0 : decide (0 < ((ji7) % 256)) = true := decide_eq_true c12
                     clear c12
                     by_cases c13 : x3_2.length < 140737488355328
                     · rw [if_pos c13] at H
                       have LMc13 := ak c13
                       clear c13
                       obtain ⟨y348, hy348⟩ : ∃ y_ : List Int, y_ = (x3_2 ++ [(ji7) % 256]) := ⟨_, rfl⟩
                       replace H : (galoisref01_pack.l1 k2 l0 y348 x4_1 (wrap64 (x5_2 - 8))) = some r := by first | (rw [hy348]; with_reducible exact H) | (have H2_ := (Option.bind_some _ _).symm.trans H; rw [hy348]; with_reducible exact H2_) | (have H2_ := (Option.bind_some _ _).symm.trans H; with_reducible exact H2_) | with_reducible exact H | (rw [hy348]; exact H) | exact H
                       have Ny348 := ak hy348
                       clear hy348
                       as_aux_lemma =>
                        have H' := ak H
                        clear H
                        have p344 : 0 ≤ (x4_1 : Int) := of_decide_eq_true aX
                        have q344 : x4_1 < (l0.length : Int) := of_decide_eq_true aX
                        obtain ⟨ad344, e344, hx344_0⟩ := Kd.at_int HR0.out x4_1 p344 q344
                        cases e344
                        replace hx344_0 := (HB.out.cell (World.block_lt_of_cell? w _ hx344_0)).trans hx344_0
                        replace p344 := eq_true p344
                        replace q344 := eq_true q344
                        obtain ⟨Ao14, co14, eo14⟩ := Kd.R_slice HO_3.out
                        subst eo14
                        go_wp2_with (first | ((with_reducible refine gate_builtin (b := .append) (xs := #[.tmp 32, .tmp 34]) rfl ?_); at_builtin; refine Kd.R_append (Kd.int .u8) (w0 := w) w.heap.size rfl (.tmp 32) (.tmp 34) 115 5 (.int .u8 0) 1 rfl Try.underlying115 info5 rfl (by decide) (by omega) (.slice Ao14 x3_2.length co14) x3_2 ((ji7) % 256) [.int .u8 ((ji7) % 256)] (fun _ => True) (fun _ => False) rfl rfl ?aP (fun _ hk => hk.elim) ?aF ?aO ?aB ?aS ?aL ?_; (case aP => exact rfl); (case aB => exact bX); (case aF => exact (fun _ _ => trivial)); (case aO => exact (rX HO_3.out)); (case aS => exact (below_size bX)); (case aL => have := LMc13.out; omega); intro v349 w15 ho hb hg hat; rw [← Ny348.out] at ho; have n0_ := ak (hb); have n1_ := ak (ho); clear HB; clear HO_3; have HB := n0_; have HO350 := n1_; clear n0_ n1_; clear ho hb hg hat))
                        (first | go_roundg k2 | (refine Handed.intro k2 ?measure ?_; rotate_left; go_step; (repeat rw [add_plain]); (repeat apply Exists.intro); refine ⟨?rel, rfl⟩))
                        case measure => have := HK1.out; have := HK2.out; omega
                        case rel => exact ⟨(y348), (wrap64 (x5_2 - 8)), (by first | rfl | (simp; done) | (simp [*]; done)), H', ⟨by have := HK1.out; have := HK2.out; omega⟩, ⟨by (with_reducible repeat (first | apply Kd.R_alloc | apply Kd.R_drewN | apply Kd.R_drew)); exact HO350.out⟩, ⟨by repeat (first | (with_reducible first | exact HB.out | apply bA | apply bB | apply bC) | exact HB.out)⟩⟩
                     · rw [if_neg c13] at H
                       exact absurd H (by simp)
                   · rw [if_neg c12] at H
                     have c12b0 : decide (0 < ((ji7) % 256)) = false := decide_eq_false c12
                     clear c12
                     as_aux_lemma =>
                      have H' := ak H
                      clear H
                      have p344 : 0 ≤ (x4_1 : Int) := of_decide_eq_true aX
                      have q344 : x4_1 < (l0.length : Int) := of_decide_eq_true aX
                      obtain ⟨ad344, e344, hx344_0⟩ := Kd.at_int HR0.out x4_1 p344 q344
                      cases e344
                      replace hx344_0 := (HB.out.cell (World.block_lt_of_cell? w _ hx344_0)).trans hx344_0
                      replace p344 := eq_true p344
                      replace q344 := eq_true q344
                      obtain ⟨Ao16, co16, eo16⟩ := Kd.R_slice HO_3.out
                      subst eo16
                      go_wp2
                      (first | go_roundg k2 | (refine Handed.intro k2 ?measure ?_; rotate_left; go_step; (repeat rw [add_plain]); (repeat apply Exists.intro); refine ⟨?rel, rfl⟩))
                      case measure => have := HK1.out; have := HK2.out; omega
                      case rel => exact ⟨(x3_2), (wrap64 (x5_2 - 8)), (by first | rfl | (simp; done) | (simp [*]; done)), H', ⟨by have := HK1.out; have := HK2.out; omega⟩, ⟨by (with_reducible repeat (first | apply Kd.R_alloc | apply Kd.R_drewN | apply Kd.R_drew)); exact HO_3.out⟩, ⟨by repeat (first | (with_reducible first | exact HB.out | apply bA | apply bB | apply bC) | exact HB.out)⟩⟩
               · rw [if_neg c6] at H
                 exact absurd H (by simp)
             · rw [if_neg c5] at H
               exact absurd H (by simp)
           · rw [if_neg c4] at H
             exact absurd H (by simp)
         · rw [if_neg c3] at H
           have c3b0 : decide (0 ≤ x5_2) = false := decide_eq_false c3
           clear c3
           as_aux_lemma =>
            have H' := ak H
            clear H
            go_wp2
            (first | go_roundg k2 | (refine Handed.intro k2 ?measure ?_; rotate_left; go_step; (repeat rw [add_plain]); (repeat apply Exists.intro); refine ⟨?rel, rfl⟩))
            case measure => have := HK1.out; have := HK2.out; omega
            case rel => exact ⟨(x3_2), (wrap64 (x4_1 - 1)), (by first | rfl | (simp; done) | (simp [*]; done)), H', ⟨by have := HK1.out; have := HK2.out; omega⟩, ⟨by (with_reducible repeat (first | apply Kd.R_alloc | apply Kd.R_drewN | apply Kd.R_drew)); exact HO_3.out⟩, ⟨by repeat (first | (with_reducible first | exact HB.out | apply bA | apply bB | apply bC) | exact HB.out)⟩⟩
    · rw [if_neg c2] at H
      have c2b0 : decide (0 ≤ x4_1) = false := decide_eq_false c2
      clear c2
      as_aux_lemma =>
       obtain rfl := Option.some.inj H
       have hcv17 := own_string (P := Try.prog) Try.underlying115 Try.underlying5 Try.underlying9 (Kd.own_of_R HO_3.out)
       go_wp2
       go_ret
       exact ⟨by first | rfl | (simp [errW_none, errW_some] <;> rfl) | (simp [*, errW_none, errW_some] <;> rfl), by repeat (first | (with_reducible first | exact HB.out | apply bA | apply bB | apply bC) | exact HB.out)⟩

/-! ### galoisref01_Of: function 72 -/
def galoisref01_Of.f (k : Nat) (a0 : Int) : Option (ByteArray) := (galoisref01_pack.f k (([Go.bits .and .u64 a0 4294967295, a0 / 4294967296] : List Int))).bind fun t354 => (some t354)
theorem galoisref01_Of.mono : ∀ a0 k, LeO (galoisref01_Of.f k a0) (galoisref01_Of.f (k + 1) a0) := by
 intro a0 k
 unfold galoisref01_Of.f
 repeat' first
  | (with_reducible apply galoisref01_pack.mono)
  | (with_reducible apply LeO.refl)
  | (with_reducible apply LeO.none)
  | (with_reducible refine LeO.ite ?_ ?_)
  | (with_reducible refine LeO.bind ?_ (fun _ => ?_))
set_option maxHeartbeats 8000000 in
set_option maxRecDepth 100000 in
theorem galoisref01_Of.calls (k : Nat) (a0 : Int) (r : ByteArray) (w : World) (h : galoisref01_Of.f k a0 = some r) :
 Calls Try.prog 72 #[.int .u64 a0] w fun e w' => e = .returned (.string r) ∧ Below w.heap.size w w' := by
 have HB := ak (Below.refl w.heap.size w)
 have H : ((galoisref01_pack.f k (([Go.bits .and .u64 a0 4294967295, a0 / 4294967296] : List Int))).bind fun t354 => (some t354)) = some r := h
 clear h
 obtain ⟨y351, hy351⟩ : ∃ y_ : List Int, y_ = (([Go.bits .and .u64 a0 4294967295, a0 / 4294967296] : List Int)) := ⟨_, rfl⟩
 replace H : ((galoisref01_pack.f k y351).bind fun t354 => (some t354)) = some r := by first | (rw [hy351]; with_reducible exact H) | (have H2_ := (Option.bind_some _ _).symm.trans H; rw [hy351]; with_reducible exact H2_) | (have H2_ := (Option.bind_some _ _).symm.trans H; with_reducible exact H2_) | with_reducible exact H | (rw [hy351]; exact H) | exact H
 have Ny351 := ak hy351
 clear hy351
 replace H := Option.bind_eq_some_iff.mp H
 obtain ⟨t354, A20, H⟩ := H
 replace H : (some t354) = some r := H
 have A2 := ak A20
 clear A20
 as_aux_lemma =>
  obtain rfl := Option.some.inj H
  go_enter Try.func72, Try.ntmps72
  go_wp2_with (first | ((with_reducible refine gate_dst (N := 7) rfl ?_); refine Kd.R_lit (Kd.int .u64) _ 87 ?hg (N := 7) ?hd (xs := ([Go.bits .and .u64 a0 4294967295, a0 / 4294967296] : List Int)) (inner := [.int .u64 (Go.bits .and .u64 a0 4294967295), .int .u64 (a0 / 4294967296)]) (ok := fun _ => True) (okp := fun _ => True) ?hr ?hp (fun _ hk => hk) trivial (Below.refl _ _) (Nat.le_refl _) (by simp) ?_; (case hd => rfl); (case hg => rfl); (case hr => first | (go_simp; done) | (go_simp; rfl)); (case hp => exact (Reps.one (show Kd.M (Kd.int .u64) _ _ _ (Go.bits .and .u64 a0 4294967295) [.int .u64 (Go.bits .and .u64 a0 4294967295)] from rfl) (Reps.one (show Kd.M (Kd.int .u64) _ _ _ (a0 / 4294967296) [.int .u64 (a0 / 4294967296)] from rfl) (Reps.none _ _)))); intro v352 w3 ho4 hb hg_ hnew_; clear hg_ hnew_; (first | rw [← Ny351.out] at ho4 | (simp only [Int.reduceToNat] at ho4; rw [← Ny351.out] at ho4)); have n0_ := ak (Kd.R_lower ho4 (below_size bX)); have n1_ := ak (below_step bX hb); clear HB; have HO353 := n0_; have HB := n1_; clear n0_ n1_; clear hb ho4; obtain ⟨Ao5, co5, eo5⟩ := Kd.R_slice HO353.out; subst eo5) | ((with_reducible refine gate_callee (f := 106) rfl ?_); refine goesL_ (some 8) rfl rfl Try.func106 (by kernel_rfl) rfl #[.slice Ao5 y351.length co5] rfl mX ?_; (with_reducible refine (galoisref01_pack.calls k _ _ y351 t354 _ ?side1 ?side2 A2.out).mono ?_); (case side1 => exact cX (Kd.R_reads' HO353.out).2.2); (case side2 => exact (Kd.R_reads' HO353.out).2.1); rintro e w6 ⟨rfl, hb⟩; refine ⟨_, rfl, ?_⟩; have n0_ := ak (Kd.R_below (rX HO353.out) hb); have n1_ := ak (below_step bX hb); clear HO353; clear HB; have HO353 := n0_; have HB := n1_; clear n0_ n1_; (try clear hb); (try clear hb2); (try clear hk); (try clear hi)))
  go_ret
  exact ⟨by first | rfl | (simp [errW_none, errW_some] <;> rfl) | (simp [*, errW_none, errW_some] <;> rfl), by repeat (first | (with_reducible first | exact HB.out | apply bA | apply bB | apply bC) | exact HB.out)⟩

/-! ### galoisref01_FromInt: function 20 -/
def galoisref01_FromInt.f (k : Nat) (a0 : Int) : Option (ByteArray) := (galoisref01_Of.f k (IntKind.u64.wrap (a0))).bind fun t355 => (some t355)
theorem galoisref01_FromInt.mono : ∀ a0 k, LeO (galoisref01_FromInt.f k a0) (galoisref01_FromInt.f (k + 1) a0) := by
 intro a0 k
 unfold galoisref01_FromInt.f
 repeat' first
  | (with_reducible apply galoisref01_Of.mono)
  | (with_reducible apply LeO.refl)
  | (with_reducible apply LeO.none)
  | (with_reducible refine LeO.ite ?_ ?_)
  | (with_reducible refine LeO.bind ?_ (fun _ => ?_))
set_option maxHeartbeats 8000000 in
set_option maxRecDepth 100000 in
theorem galoisref01_FromInt.calls (k : Nat) (a0 : Int) (r : ByteArray) (w : World) (h : galoisref01_FromInt.f k a0 = some r) :
 Calls Try.prog 20 #[.int .i64 a0] w fun e w' => e = .returned (.string r) ∧ Below w.heap.size w w' := by
 have HB := ak (Below.refl w.heap.size w)
 have H : ((galoisref01_Of.f k (IntKind.u64.wrap (a0))).bind fun t355 => (some t355)) = some r := h
 clear h
 replace H := Option.bind_eq_some_iff.mp H
 obtain ⟨t355, A20, H⟩ := H
 replace H : (some t355) = some r := H
 have A2 := ak A20
 clear A20
 as_aux_lemma =>
  obtain rfl := Option.some.inj H
  go_enter Try.func20, Try.ntmps20
  go_wp2_with (first | ((with_reducible refine gate_callee (f := 72) rfl ?_); refine goesL_ (some 5) rfl rfl Try.func72 (by kernel_rfl) rfl #[.int .u64 (IntKind.u64.wrap (a0))] rfl mX ?_; (with_reducible refine (galoisref01_Of.calls k (IntKind.u64.wrap (a0)) t355 _ A2.out).mono ?_); rintro e w3 ⟨rfl, hb⟩; refine ⟨_, rfl, ?_⟩; have n0_ := ak (below_step bX hb); clear HB; have HB := n0_; clear n0_; (try clear hb); (try clear hb2); (try clear hk); (try clear hi)))
  go_ret
  exact ⟨by first | rfl | (simp [errW_none, errW_some] <;> rfl) | (simp [*, errW_none, errW_some] <;> rfl), by repeat (first | (with_reducible first | exact HB.out | apply bA | apply bB | apply bC) | exact HB.out)⟩

/-! ### galoisref09_Trim: function 40 -/
def galoisref09_Trim.l0 : Nat → List Int → Option (List Int)
 | 0, _ => none
 | k + 1, x0 => if (x0.length : Int) > 0 then (if 0 ≤ (wrap64 ((x0.length : Int) - 1)) then (if (wrap64 ((x0.length : Int) - 1)) < (x0.length : Int) then (if (rd x0 (wrap64 ((x0.length : Int) - 1))) = 0 then (if (wrap64 ((x0.length : Int) - 1)) ≤ (x0.length : Int) then (galoisref09_Trim.l0 k (x0.take ((wrap64 ((x0.length : Int) - 1)) : Int).toNat)) else (none)) else (some x0)) else (none)) else (none)) else (some x0)
def galoisref09_Trim.f (k : Nat) (l0 : List Int) : Option (List Int) := galoisref09_Trim.l0 k l0
theorem galoisref09_Trim.mono_l : ∀ k, (∀ y0, LeO (galoisref09_Trim.l0 k y0) (galoisref09_Trim.l0 (k + 1) y0))
 | 0 => fun _ r h => by simp [galoisref09_Trim.l0] at h
 | k + 1 => by
   have ih0 := galoisref09_Trim.mono_l k
   · intro y0
     unfold galoisref09_Trim.l0
     repeat' first
     | (with_reducible apply ih0)
     | (with_reducible apply LeO.refl)
     | (with_reducible apply LeO.none)
     | (with_reducible refine LeO.ite ?_ ?_)
     | (with_reducible refine LeO.bind ?_ (fun _ => ?_))
theorem galoisref09_Trim.mono : ∀ a0 k, LeO (galoisref09_Trim.f k a0) (galoisref09_Trim.f (k + 1) a0) := by
 intro a0 k
 have ih0 := galoisref09_Trim.mono_l k
 unfold galoisref09_Trim.f
 repeat' first
  | (with_reducible apply ih0)
  | (with_reducible apply LeO.refl)
  | (with_reducible apply LeO.none)
  | (with_reducible refine LeO.ite ?_ ?_)
  | (with_reducible refine LeO.bind ?_ (fun _ => ?_))
set_option maxHeartbeats 8000000 in
set_option maxRecDepth 100000 in
theorem galoisref09_Trim.calls (k : Nat) (P0_ : Nat → Prop) (A0 : Option Addr) (c0 : Nat) (l0 : List Int) (r : List Int) (w : World) (hs0 : Kd.V (Kd.int .i64) 3 w w.heap.size (fun k_ => P0_ k_) (.slice A0 l0.length c0) l0) (h : galoisref09_Trim.f k l0 = some r) :
 Calls Try.prog 40 #[.slice A0 l0.length c0] w fun e w' => ∃ v0_ : Value, e = .returned (v0_) ∧ Kd.V (Kd.int .i64) 3 w' w.heap.size (fun k_ => (P0_ k_ ∨ w.heap.size ≤ k_)) v0_ r ∧ Below w.heap.size w w' := by
 have HO0 := ak (show Kd.V (Kd.int .i64) 3 w w.heap.size (fun k_ => (P0_ k_ ∨ w.heap.size ≤ k_)) (.slice A0 l0.length c0) l0 from Kd.V_mono hs0 (fun k_ hk => .inl hk))
 have HB := ak (Below.refl w.heap.size w)
 have H : (galoisref09_Trim.l0 k l0) = some r := h
 clear h
 have H' := ak H
 clear H
 go_enter Try.func40, Try.ntmps40
 go_wp2
 go_loopg [0] k (fun kq v0 w' => ∃ (x0_1 : List Int), Aside0 (galoisref09_Trim.l0 kq x0_1 = some r) ∧ Aside0 (kq ≤ k) ∧ Aside0 (Kd.V (Kd.int .i64) 3 w' w.heap.size (fun k_ => (P0_ k_ ∨ w.heap.size ≤ k_)) v0 x0_1) ∧ Aside0 (Below w.heap.size w w'))
 case atStart => exact ⟨(l0), H', ⟨Nat.le_refl _⟩, ⟨by (with_reducible repeat (first | apply vA | apply vB | apply vC)); exact HO0.out⟩, ⟨by repeat (first | (with_reducible first | exact HB.out | apply bA | apply bB | apply bC) | exact HB.out)⟩⟩
 case round =>
  clear H'
  obtain ⟨x0_1, HA, HK1, HO_0, HB⟩ := hrel
  cases gk with
  | zero => exact absurd HA.out (by simp [galoisref09_Trim.l0])
  | succ k1 =>
    have H := HA.out
    clear HA
    simp only [galoisref09_Trim.l0] at H
    by_cases c2 : (x0_1.length : Int) > 0
    · rw [if_pos c2] at H
      have c2b0 : decide (0 < (x0_1.length : Int)) = true := decide_eq_true c2
      have c2b1 : decide (0 < x0_1.length) = true := decide_eq_true (by omega)
      clear c2
      obtain ⟨ji3, hji3⟩ : ∃ j_ : Int, (wrap64 ((x0_1.length : Int) - 1)) = j_ := ⟨_, rfl⟩
      replace H : (if 0 ≤ (ji3) then (if (ji3) < (x0_1.length : Int) then (if (rd x0_1 (ji3)) = 0 then (if (ji3) ≤ (x0_1.length : Int) then (galoisref09_Trim.l0 k1 (x0_1.take ((ji3) : Int).toNat)) else (none)) else (some x0_1)) else (none)) else (none)) = some r := by first | (rw [hji3] at H; exact H) | (simp only [hji3] at H ⊢; exact H)
      have hji3w : (IntKind.i64.wrap ((x0_1.length : Int) - 1)) = ji3 := (i64_w _).trans hji3
      by_cases c4 : 0 ≤ (ji3)
      · rw [if_pos c4] at H
        have c4b0 : decide (0 ≤ (ji3)) = true := decide_eq_true c4
        clear c4
        by_cases c5 : (ji3) < (x0_1.length : Int)
        · rw [if_pos c5] at H
          have c5b0 : decide ((ji3) < (x0_1.length : Int)) = true := decide_eq_true c5
          clear c5
          by_cases c6 : (rd x0_1 (ji3)) = 0
          · rw [if_pos c6] at H
            have c6b0 : ((rd x0_1 (ji3)) == 0) = true := beq_iff_eq.mpr c6
            have c6b1 : ((rd x0_1 (ji3)) != 0) = false := bne_eq_false_iff_eq.mpr c6
            clear c6
            have c7b0 := eq_true (of_decide_eq_true aX : 0 ≤ (ji3))
            by_cases c8 : (ji3) ≤ (x0_1.length : Int)
            · rw [if_pos c8] at H
              have c8b0 := eq_true c8
              have c8b1 : decide ((ji3) ≤ (x0_1.length : Int)) = true := decide_eq_true c8
              clear c8
              obtain ⟨y357, hy357⟩ : ∃ y_ : List Int, y_ = (x0_1.take ((ji3) : Int).toNat) := ⟨_, rfl⟩
              replace H : (galoisref09_Trim.l0 k1 y357) = some r := by first | (rw [hy357]; with_reducible exact H) | (have H2_ := (Option.bind_some _ _).symm.trans H; rw [hy357]; with_reducible exact H2_) | (have H2_ := (Option.bind_some _ _).symm.trans H; with_reducible exact H2_) | with_reducible exact H | (rw [hy357]; exact H) | exact H
              have Ny357 := ak hy357
              clear hy357
              as_aux_lemma =>
               have H' := ak H
               clear H
               obtain ⟨Ao9, co9, eo9⟩ := Kd.V_slice HO_0.out
               subst eo9
               have p356 : 0 ≤ ((ji3) : Int) := of_decide_eq_true aX
               have q356 : (ji3) < (x0_1.length : Int) := of_decide_eq_true aX
               obtain ⟨ad356, e356, hx356_0⟩ := Kd.at_int (Kd.V_reads' HO_0.out).2.2 (ji3) p356 q356
               cases e356
               replace p356 := eq_true p356
               replace q356 := eq_true q356
               have q10 : ((ji3) : Int) ≤ ((x0_1.length : Int) : Int) := of_decide_eq_true aX
               obtain ⟨i010, hi010, _, hsz10, _⟩ := info_parts info3
               have hroom10 : x0_1.length ≤ co9 := (Kd.V_reads' HO_0.out).2.1
               have hC10 : Kd.F (Kd.int .i64) _ _ (some ad356) x0_1.length x0_1 := (Kd.V_at (base := w.heap.size) HO_0.out).2.2
               have hcut10 := cut_to (P := Try.prog) 23 3 .i64 Try.underlying23 hi010 (some ad356) x0_1.length co9 (ji3) (of_decide_eq_true aX) q10 hroom10
               have hr10 := Kd.F_take (m := ((ji3) : Int).toNat) hC10 (by omega)
               have hy10 : y357.length = ((ji3) : Int).toNat := (by rw [Ny357.out, List.length_take]; omega)
               rw [← Ny357.out] at hr10
               rw [← hy10] at hcut10
               have HO361 := ak (show Kd.V (Kd.int .i64) 3 _ w.heap.size _ (.slice (some ad356) y357.length co9) y357 from Kd.V_mk (by omega) hr10)
               have HC361 := ak (show y357.length ≤ co9 from by omega)
               clear hr10 hC10 hroom10 hi010 hsz10
               have KY10 := ak hy10
               clear hy10
               replace q10 := eq_true q10
               go_wp2
               (first | go_roundg k1 | (refine Handed.intro k1 ?measure ?_; rotate_left; go_step; (repeat rw [add_plain]); (repeat apply Exists.intro); refine ⟨?rel, rfl⟩))
               case measure => have := HK1.out; omega
               case rel => exact ⟨(y357), H', ⟨by have := HK1.out; omega⟩, ⟨by (with_reducible repeat (first | apply vA | apply vB | apply vC)); exact HO361.out⟩, ⟨by repeat (first | (with_reducible first | exact HB.out | apply bA | apply bB | apply bC) | exact HB.out)⟩⟩
            · rw [if_neg c8] at H
              exact absurd H (by simp)
          · rw [if_neg c6] at H
            have c6b0 : ((rd x0_1 (ji3)) == 0) = false := beq_eq_false_iff_ne.mpr c6
            have c6b1 : ((rd x0_1 (ji3)) != 0) = true := bne_iff_ne.mpr c6
            as_aux_lemma =>
             obtain rfl := Option.some.inj H
             obtain ⟨Ao11, co11, eo11⟩ := Kd.V_slice HO_0.out
             subst eo11
             have p356 : 0 ≤ ((ji3) : Int) := of_decide_eq_true aX
             have q356 : (ji3) < (x0_1.length : Int) := of_decide_eq_true aX
             obtain ⟨ad356, e356, hx356_0⟩ := Kd.at_int (Kd.V_reads' HO_0.out).2.2 (ji3) p356 q356
             cases e356
             replace p356 := eq_true p356
             replace q356 := eq_true q356
             go_wp2
             go_ret
             exact ⟨_, by first | rfl | (simp [errW_none, errW_some] <;> rfl) | (simp only [← hji3]; first | rfl | (simp [errW_none, errW_some] <;> rfl)) | (simp [*, errW_none, errW_some] <;> rfl), by (with_reducible repeat (first | apply vA | apply vB | apply vC)); exact HO_0.out, by repeat (first | (with_reducible first | exact HB.out | apply bA | apply bB | apply bC) | exact HB.out)⟩
        · rw [if_neg c5] at H
          exact absurd H (by simp)
      · rw [if_neg c4] at H
        exact absurd H (by simp)
    · rw [if_neg c2] at H
      have c2b0 : decide (0 < (x0_1.length : Int)) = false := decide_eq_false c2
      have c2b1 : decide (0 < x0_1.length) = false := decide_eq_false (by omega)
      clear c2
      as_aux_lemma =>
       obtain rfl := Option.some.inj H
       obtain ⟨Ao12, co12, eo12⟩ := Kd.V_slice HO_0.out
       subst eo12
       go_wp2
       go_ret
       exact ⟨_, by first | rfl | (simp [errW_none, errW_some] <;> rfl) | (simp [*, errW_none, errW_some] <;> rfl), by (with_reducible repeat (first | apply vA | apply vB | apply vC)); exact HO_0.out, by repeat (first | (with_reducible first | exact HB.out | apply bA | apply bB | apply bC) | exact HB.out)⟩

/-! ### galoisref04_Mod: function 91 -/
def galoisref04_Mod.f (a0 : Int) (a1 : Int) : Option (Int) := if a1 = 0 then (none) else (some (Int.tmod (wrap64 ((Int.tmod a0 a1) + a1)) a1))
set_option maxHeartbeats 8000000 in
set_option maxRecDepth 100000 in
theorem galoisref04_Mod.calls (a0 : Int) (a1 : Int) (r : Int) (w : World) (h : galoisref04_Mod.f a0 a1 = some r) :
 Calls Try.prog 91 #[.int .i64 a0, .int .i64 a1] w fun e w' => e = .returned (.int .i64 r) ∧ Drawn0 w w' := by
 have H : (if a1 = 0 then (none) else (some (Int.tmod (wrap64 ((Int.tmod a0 a1) + a1)) a1))) = some r := h
 clear h
 by_cases c3 : a1 = 0
 · rw [if_pos c3] at H
   exact absurd H (by simp)
 · rw [if_neg c3] at H
   have c3b0 : (a1 == 0) = false := beq_eq_false_iff_ne.mpr c3
   have c3b1 : (a1 != 0) = true := bne_iff_ne.mpr c3
   as_aux_lemma =>
    obtain rfl := Option.some.inj H
    go_enter Try.func91, Try.ntmps91
    go_wp2
    go_ret
    exact ⟨by first | rfl | (simp; done) | (simp [*]; done), by repeat (first | exact Drawn0.refl _ | apply Drawn0.step)⟩

/-! ### galoisref04_Inverse: function 82 -/
def galoisref04_Inverse.l0 : Nat → Int → Int → Int → Int → Int → Option (Int)
 | 0, _, _, _, _, _ => none
 | k + 1, x1, x5, x6, x7, x8 => if x6 > 0 then (if x6 = 0 then (none) else (galoisref04_Inverse.l0 k x1 x6 (wrap64 (x5 - (wrap64 ((wrap64 (Int.tdiv x5 x6)) * x6)))) x8 (wrap64 (x7 - (wrap64 ((wrap64 (Int.tdiv x5 x6)) * x8)))))) else ((galoisref04_Mod.f x7 x1).bind fun t363 => (some t363))
def galoisref04_Inverse.f (k : Nat) (a0 : Int) (a1 : Int) : Option (Int) := (galoisref04_Mod.f a0 a1).bind fun t362 => (galoisref04_Inverse.l0 k a1 a1 t362 0 1)
theorem galoisref04_Inverse.mono_l : ∀ k, (∀ y0 y1 y2 y3 y4, LeO (galoisref04_Inverse.l0 k y0 y1 y2 y3 y4) (galoisref04_Inverse.l0 (k + 1) y0 y1 y2 y3 y4))
 | 0 => fun _ _ _ _ _ r h => by simp [galoisref04_Inverse.l0] at h
 | k + 1 => by
   have ih0 := galoisref04_Inverse.mono_l k
   · intro y0 y1 y2 y3 y4
     unfold galoisref04_Inverse.l0
     repeat' first
     | (with_reducible apply ih0)
     | (with_reducible apply LeO.refl)
     | (with_reducible apply LeO.none)
     | (with_reducible refine LeO.ite ?_ ?_)
     | (with_reducible refine LeO.bind ?_ (fun _ => ?_))
theorem galoisref04_Inverse.mono : ∀ a0 a1 k, LeO (galoisref04_Inverse.f k a0 a1) (galoisref04_Inverse.f (k + 1) a0 a1) := by
 intro a0 a1 k
 have ih0 := galoisref04_Inverse.mono_l k
 unfold galoisref04_Inverse.f
 repeat' first
  | (with_reducible apply ih0)
  | (with_reducible apply LeO.refl)
  | (with_reducible apply LeO.none)
  | (with_reducible refine LeO.ite ?_ ?_)
  | (with_reducible refine LeO.bind ?_ (fun _ => ?_))
set_option maxHeartbeats 8000000 in
set_option maxRecDepth 100000 in
theorem galoisref04_Inverse.calls (k : Nat) (a0 : Int) (a1 : Int) (r : Int) (w : World) (h : galoisref04_Inverse.f k a0 a1 = some r) :
 Calls Try.prog 82 #[.int .i64 a0, .int .i64 a1] w fun e w' => e = .returned (.int .i64 r) ∧ Drawn0 w w' := by
 have H : ((galoisref04_Mod.f a0 a1).bind fun t362 => (galoisref04_Inverse.l0 k a1 a1 t362 0 1)) = some r := h
 clear h
 replace H := Option.bind_eq_some_iff.mp H
 obtain ⟨t362, A30, H⟩ := H
 replace H : (galoisref04_Inverse.l0 k a1 a1 t362 0 1) = some r := H
 have A3 := ak A30
 clear A30
 have H' := ak H
 clear H
 go_enter Try.func82, Try.ntmps82
 go_wp2_with (first | ((with_reducible refine gate_callee (f := 91) rfl ?_); refine goesL_ (some 13) rfl rfl Try.func91 (by kernel_rfl) rfl #[.int .i64 a0, .int .i64 a1] rfl mX ?_; (with_reducible refine (galoisref04_Mod.calls a0 a1 t362 _ A3.out).mono ?_); rintro e w' ⟨rfl, ⟨nd, rfl⟩⟩; refine ⟨_, rfl, ?_⟩))
 go_loopg [5, 6, 7, 8] k (fun kq v5 v6 v7 v8 w' => ∃ (x5_1 : Int) (x6_1 : Int) (x7_1 : Int) (x8_1 : Int), v5 = .int .i64 x5_1 ∧ v6 = .int .i64 x6_1 ∧ v7 = .int .i64 x7_1 ∧ v8 = .int .i64 x8_1 ∧ Aside0 (galoisref04_Inverse.l0 kq a1 x5_1 x6_1 x7_1 x8_1 = some r) ∧ Aside0 (kq ≤ k) ∧ Drawn0 w w')
 case atStart => exact ⟨(a1), (t362), (0), (1), (by first | rfl | (simp; done) | (simp [*]; done)), (by first | rfl | (simp; done) | (simp [*]; done)), (by first | rfl | (simp; done) | (simp [*]; done)), (by first | rfl | (simp; done) | (simp [*]; done)), H', ⟨Nat.le_refl _⟩, by repeat (first | exact Drawn0.refl _ | apply Drawn0.step)⟩
 case round =>
  clear H'
  try clear p2
  obtain ⟨x5_1, x6_1, x7_1, x8_1, rfl, rfl, rfl, rfl, HA, HK1, ⟨m1, rfl⟩⟩ := hrel
  cases gk with
  | zero => exact absurd HA.out (by simp [galoisref04_Inverse.l0])
  | succ k1 =>
    have H := HA.out
    clear HA
    simp only [galoisref04_Inverse.l0] at H
    by_cases c4 : x6_1 > 0
    · rw [if_pos c4] at H
      have c4b0 : decide (0 < x6_1) = true := decide_eq_true c4
      clear c4
      by_cases c5 : x6_1 = 0
      · rw [if_pos c5] at H
        exact absurd H (by simp)
      · rw [if_neg c5] at H
        have c5b0 : (x6_1 == 0) = false := beq_eq_false_iff_ne.mpr c5
        have c5b1 : (x6_1 != 0) = true := bne_iff_ne.mpr c5
        as_aux_lemma =>
         have H' := ak H
         clear H
         go_wp2
         (first | go_roundg k1 | (refine Handed.intro k1 ?measure ?_; rotate_left; go_step; (repeat rw [add_plain]); (repeat apply Exists.intro); refine ⟨?rel, rfl⟩))
         case measure => have := HK1.out; omega
         case rel => exact ⟨(x6_1), (wrap64 (x5_1 - (wrap64 ((wrap64 (Int.tdiv x5_1 x6_1)) * x6_1)))), (x8_1), (wrap64 (x7_1 - (wrap64 ((wrap64 (Int.tdiv x5_1 x6_1)) * x8_1)))), (by first | rfl | (simp; done) | (simp [*]; done)), (by first | rfl | (simp; done) | (simp [*]; done)), (by first | rfl | (simp; done) | (simp [*]; done)), (by first | rfl | (simp; done) | (simp [*]; done)), H', ⟨by have := HK1.out; omega⟩, by repeat (first | exact Drawn0.refl _ | apply Drawn0.step)⟩
    · rw [if_neg c4] at H
      have c4b0 : decide (0 < x6_1) = false := decide_eq_false c4
      clear c4
      replace H := Option.bind_eq_some_iff.mp H
      obtain ⟨t363, A60, H⟩ := H
      replace H : (some t363) = some r := H
      have A6 := ak A60
      clear A60
      as_aux_lemma =>
       obtain rfl := Option.some.inj H
       go_wp2_with (first | ((with_reducible refine gate_callee (f := 91) rfl ?_); refine goesL_ (some 33) rfl rfl Try.func91 (by kernel_rfl) rfl #[.int .i64 x7_1, .int .i64 a1] rfl mX ?_; (with_reducible refine (galoisref04_Mod.calls x7_1 a1 t363 _ A6.out).mono ?_); rintro e w' ⟨rfl, ⟨nd, rfl⟩⟩; refine ⟨_, rfl, ?_⟩))
       go_ret
       exact ⟨by first | rfl | (simp; done) | (simp [*]; done), by repeat (first | exact Drawn0.refl _ | apply Drawn0.step)⟩

/-! ### galoisref09_Copy: function 84 -/
def galoisref09_Copy.f (l0 : List Int) : Option (List Int) := (some (([] : List Int) : List Int)).bind fun y364 => (if y364.length + l0.length < 17592186044416 then (some (y364 ++ l0)) else (none))
set_option maxHeartbeats 8000000 in
set_option maxRecDepth 100000 in
theorem galoisref09_Copy.calls (A0 : Option Addr) (c0 : Nat) (l0 : List Int) (r : List Int) (w : World) (hr0 : Kd.C (Kd.int .i64) w A0 l0.length l0) (hc0 : l0.length ≤ c0) (h : galoisref09_Copy.f l0 = some r) :
 Calls Try.prog 84 #[.slice A0 l0.length c0] w fun e w' => ∃ v0_ : Value, e = .returned (v0_) ∧ Kd.R (Kd.int .i64) 3 w' w.heap.size (fun _ => True) v0_ r ∧ Below w.heap.size w w' := by
 have HR0 := ak hr0
 have HC0 := ak hc0
 clear hr0 hc0
 have HB := ak (Below.refl w.heap.size w)
 have H : ((some (([] : List Int) : List Int)).bind fun y364 => (if y364.length + l0.length < 17592186044416 then (some (y364 ++ l0)) else (none))) = some r := h
 clear h
 obtain ⟨y364, hy364⟩ : ∃ y_ : List Int, y_ = (([] : List Int)) := ⟨_, rfl⟩
 replace H : (if y364.length + l0.length < 17592186044416 then (some (y364 ++ l0)) else (none)) = some r := by first | (rw [hy364]; with_reducible exact H) | (have H2_ := (Option.bind_some _ _).symm.trans H; rw [hy364]; with_reducible exact H2_) | (have H2_ := (Option.bind_some _ _).symm.trans H; with_reducible exact H2_) | with_reducible exact H | (rw [hy364]; exact H) | exact H
 have Ny364 := ak hy364
 clear hy364
 by_cases c2 : y364.length + l0.length < 17592186044416
 · rw [if_pos c2] at H
   have LMc2 := ak c2
   clear c2
   obtain ⟨y367, hy367⟩ : ∃ y_ : List Int, y_ = (y364 ++ l0) := ⟨_, rfl⟩
   replace H : (some y367) = some r := by first | (rw [hy367]; with_reducible exact H) | (have H2_ := (Option.bind_some _ _).symm.trans H; rw [hy367]; with_reducible exact H2_) | (have H2_ := (Option.bind_some _ _).symm.trans H; with_reducible exact H2_) | with_reducible exact H | (rw [hy367]; exact H) | exact H
   have Ny367 := ak hy367
   clear hy367
   as_aux_lemma =>
    obtain rfl := Option.some.inj H
    go_enter Try.func84, Try.ntmps84
    go_wp2_with (first | ((with_reducible refine gate_dst (N := 3) rfl ?_); refine Kd.R_lit (Kd.int .i64) _ 3 ?hg (N := 3) ?hd (xs := ([] : List Int)) (inner := []) (ok := fun _ => True) (okp := fun _ => True) ?hr ?hp (fun _ hk => hk) trivial (Below.refl _ _) (Nat.le_refl _) (by simp) ?_; (case hd => rfl); (case hg => rfl); (case hr => first | (go_simp; done) | (go_simp; rfl)); (case hp => exact (Reps.none _ _)); intro v365 w3 ho4 hb hg_ hnew_; clear hg_ hnew_; (first | rw [← Ny364.out] at ho4 | (simp only [Int.reduceToNat] at ho4; rw [← Ny364.out] at ho4)); have n0_ := ak (Kd.R_lower ho4 (below_size bX)); have n1_ := ak (below_step bX hb); clear HB; have HO366 := n0_; have HB := n1_; clear n0_ n1_; clear hb ho4) | ((with_reducible refine gate_builtin (b := .append) (xs := #[.tmp 3, .tmp 4]) rfl ?_); at_builtin; refine Kd.R_append_rows (Kd.int .i64) (w0 := w) w.heap.size rfl (.tmp 3) (.tmp 4) 23 3 (.int .i64 0) 8 rfl Try.underlying23 info3 rfl (by decide) (by omega) v365 y364 l0 _ _ _ (fun _ => True) (fun _ => False) rfl rfl ?aO ?aR (fun _ _ h => h) (fun _ h => h.elim) ?aF ?aB ?aS ?aL ?_; (case aR => exact cX (Kd.C_below HR0.out HB.out)); (case aB => exact bX); (case aF => exact (fun _ _ => trivial)); (case aO => exact (rX HO366.out)); (case aS => exact (below_size bX)); (case aL => have := LMc2.out; omega); intro v368 w5 ho hb hg hat; rw [← Ny367.out] at ho; have n0_ := ak (hb); have n1_ := ak (ho); clear HB; clear HO366; have HB := n0_; have HO369 := n1_; clear n0_ n1_; clear ho hb hg hat))
    go_ret
    exact ⟨_, by first | rfl | (simp [errW_none, errW_some] <;> rfl) | (simp [*, errW_none, errW_some] <;> rfl), by (with_reducible repeat (first | apply Kd.R_alloc | apply Kd.R_drewN | apply Kd.R_drew)); exact HO369.out, by repeat (first | (with_reducible first | exact HB.out | apply bA | apply bB | apply bC) | exact HB.out)⟩
 · rw [if_neg c2] at H
   exact absurd H (by simp)

end Go.Proofs.Ytmknclgamadphaa.PPolymodPrimes
