-- WRITTEN BY sprint.py (a program of this repo, over the kit's print.py): nothing here is trusted, Lean checks it.
import Derived.Test.YtmknclgamadphaaPPolymodPrimesx0
import Derived.Test.YtmknclgamadphaaPPolymodPrimesx7
namespace Go.Proofs.Ytmknclgamadphaa.PPolymodPrimes
open Go.RowKit Go.Proofs.YtmknclgamadphaaW.PrintWords Go.Proofs.YtmknclgamadphaaW.PrintLast Go.Proofs.YtmknclgamadphaaW.PrintMore
attribute [local go_sem] max2_int min2_int max_two min_two max_three min_three max_four min_four   -- for this text's walks alone
set_option linter.unusedVariables false
set_option linter.unusedSimpArgs false

/-! ### galoisref09_Scale: function 45 -/
def galoisref09_Scale.l0 : Nat → Int → Int → List Int → Int → Option (List Int)
 | 0, _, _, _, _ => none
 | k + 1, x0, x2, x7, x8 => if x8 < (x7.length : Int) then (if 0 ≤ x8 then (if x0 = 0 then (none) else (galoisref09_Scale.l0 k x0 x2 (x7.set (x8 : Int).toNat (Int.tmod (wrap64 ((rd x7 x8) * x2)) x0)) (wrap64 (x8 + 1)))) else (none)) else ((galoisref09_Trim.f k x7).bind fun t432 => (some t432))
def galoisref09_Scale.f (k : Nat) (a0 : Int) (l1 : List Int) (a2 : Int) : Option (List Int) := (galoisref04_Mod.f a2 a0).bind fun t426 => ((galoisref09_Copy.f l1).bind fun t427 => (galoisref09_Scale.l0 k a0 t426 t427 0))
theorem galoisref09_Scale.mono_l : ∀ k, (∀ y0 y1 y2 y3, LeO (galoisref09_Scale.l0 k y0 y1 y2 y3) (galoisref09_Scale.l0 (k + 1) y0 y1 y2 y3))
 | 0 => fun _ _ _ _ r h => by simp [galoisref09_Scale.l0] at h
 | k + 1 => by
   have ih0 := galoisref09_Scale.mono_l k
   · intro y0 y1 y2 y3
     unfold galoisref09_Scale.l0
     repeat' first
     | (with_reducible apply ih0)
     | (with_reducible apply galoisref09_Trim.mono)
     | (with_reducible apply LeO.refl)
     | (with_reducible apply LeO.none)
     | (with_reducible refine LeO.ite ?_ ?_)
     | (with_reducible refine LeO.bind ?_ (fun _ => ?_))
theorem galoisref09_Scale.mono : ∀ a0 a1 a2 k, LeO (galoisref09_Scale.f k a0 a1 a2) (galoisref09_Scale.f (k + 1) a0 a1 a2) := by
 intro a0 a1 a2 k
 have ih0 := galoisref09_Scale.mono_l k
 unfold galoisref09_Scale.f
 repeat' first
  | (with_reducible apply ih0)
  | (with_reducible apply galoisref09_Trim.mono)
  | (with_reducible apply LeO.refl)
  | (with_reducible apply LeO.none)
  | (with_reducible refine LeO.ite ?_ ?_)
  | (with_reducible refine LeO.bind ?_ (fun _ => ?_))
set_option maxHeartbeats 8000000 in
set_option maxRecDepth 100000 in
theorem galoisref09_Scale.calls (k : Nat) (a0 : Int) (A1 : Option Addr) (c1 : Nat) (l1 : List Int) (a2 : Int) (r : List Int) (w : World) (hr1 : Kd.C (Kd.int .i64) w A1 l1.length l1) (hc1 : l1.length ≤ c1) (h : galoisref09_Scale.f k a0 l1 a2 = some r) :
 Calls Try.prog 45 #[.int .i64 a0, .slice A1 l1.length c1, .int .i64 a2] w fun e w' => ∃ v0_ : Value, e = .returned (v0_) ∧ Kd.V (Kd.int .i64) 3 w' w.heap.size (fun k_ => (w.heap.size ≤ k_)) v0_ r ∧ Below w.heap.size w w' := by
 have HR1 := ak hr1
 have HC1 := ak hc1
 clear hr1 hc1
 have HB := ak (Below.refl w.heap.size w)
 have H : ((galoisref04_Mod.f a2 a0).bind fun t426 => ((galoisref09_Copy.f l1).bind fun t427 => (galoisref09_Scale.l0 k a0 t426 t427 0))) = some r := h
 clear h
 replace H := Option.bind_eq_some_iff.mp H
 obtain ⟨t426, A40, H⟩ := H
 replace H : ((galoisref09_Copy.f l1).bind fun t427 => (galoisref09_Scale.l0 k a0 t426 t427 0)) = some r := H
 have A4 := ak A40
 clear A40
 replace H := Option.bind_eq_some_iff.mp H
 obtain ⟨t427, A50, H⟩ := H
 replace H : (galoisref09_Scale.l0 k a0 t426 t427 0) = some r := H
 have A5 := ak A50
 clear A50
 have H' := ak H
 clear H
 go_enter Try.func45, Try.ntmps45
 go_wp2_with (first | ((with_reducible refine gate_callee (f := 91) rfl ?_); refine goesL_ (some 11) rfl rfl Try.func91 (by kernel_rfl) rfl #[.int .i64 a2, .int .i64 a0] rfl mX ?_; (with_reducible refine (galoisref04_Mod.calls a2 a0 t426 _ A4.out).mono ?_); rintro e w' ⟨rfl, ⟨nd, rfl⟩⟩; refine ⟨_, rfl, ?_⟩) | ((with_reducible refine gate_callee (f := 84) rfl ?_); refine goesL_ (some 13) rfl rfl Try.func84 (by kernel_rfl) rfl #[.slice A1 l1.length c1] rfl mX ?_; (with_reducible refine (galoisref09_Copy.calls _ _ l1 t427 _ ?side1 ?side2 A5.out).mono ?_); (case side1 => repeat (first | exact HR1.out | (with_reducible first | apply cA | apply cB | apply cC))); (case side2 => exact HC1.out); rintro e w6 ⟨v428, rfl, ho0, hb⟩; refine ⟨_, rfl, ?_⟩; have n0_ := ak (Kd.R_lower (Kd.R_newM (M := fun k_ => (w.heap.size ≤ k_)) ho0 (below_size bX) (fun k_ h_ => h_)) (below_size bX)); have n1_ := ak (below_step bX hb); clear HB; have HO429 := n0_; have HB := n1_; clear n0_ n1_; (try clear hb); (try clear hb2); (try clear hk); (try clear hi); (try clear ho0)))
 go_loopg [8] k (fun kq v8 w' => ∃ (x7_1 : List Int) (x8_1 : Int), v8 = .int .i64 x8_1 ∧ Aside0 (galoisref09_Scale.l0 kq a0 t426 x7_1 x8_1 = some r) ∧ Aside0 (kq ≤ k) ∧ Aside0 (Kd.R (Kd.int .i64) 3 w' w.heap.size (fun k_ => (w.heap.size ≤ k_)) v428 x7_1) ∧ Aside0 (Below w.heap.size w w'))
 case atStart => exact ⟨(t427), (0), (by first | rfl | (simp; done) | (simp [*]; done)), H', ⟨Nat.le_refl _⟩, ⟨by (with_reducible repeat (first | apply Kd.R_alloc | apply Kd.R_drewN | apply Kd.R_drew)); exact Kd.R_mono HO429.out (fun _ hk => hk.1)⟩, ⟨by repeat (first | (with_reducible first | exact HB.out | apply bA | apply bB | apply bC) | exact HB.out)⟩⟩
 case round =>
  clear H'
  try clear c1
  try clear p2
  try clear c4
  obtain ⟨x7_1, x8_1, rfl, HA, HK1, HO_7, HB⟩ := hrel
  cases gk with
  | zero => exact absurd HA.out (by simp [galoisref09_Scale.l0])
  | succ k1 =>
    have H := HA.out
    clear HA
    simp only [galoisref09_Scale.l0] at H
    by_cases c7 : x8_1 < (x7_1.length : Int)
    · rw [if_pos c7] at H
      have c7b0 : decide (x8_1 < (x7_1.length : Int)) = true := decide_eq_true c7
      clear c7
      by_cases c8 : 0 ≤ x8_1
      · rw [if_pos c8] at H
        have c8b0 : decide (0 ≤ x8_1) = true := decide_eq_true c8
        clear c8
        by_cases c9 : a0 = 0
        · rw [if_pos c9] at H
          exact absurd H (by simp)
        · rw [if_neg c9] at H
          have c9b0 : (a0 == 0) = false := beq_eq_false_iff_ne.mpr c9
          have c9b1 : (a0 != 0) = true := bne_iff_ne.mpr c9
          obtain ⟨y431, hy431⟩ : ∃ y_ : List Int, y_ = (x7_1.set (x8_1 : Int).toNat (Int.tmod (wrap64 ((rd x7_1 x8_1) * t426)) a0)) := ⟨_, rfl⟩
          replace H : (galoisref09_Scale.l0 k1 a0 t426 y431 (wrap64 (x8_1 + 1))) = some r := by first | (rw [hy431]; with_reducible exact H) | (have H2_ := (Option.bind_some _ _).symm.trans H; rw [hy431]; with_reducible exact H2_) | (have H2_ := (Option.bind_some _ _).symm.trans H; with_reducible exact H2_) | with_reducible exact H | (rw [hy431]; exact H) | exact H
          have Ny431 := ak hy431
          clear hy431
          as_aux_lemma =>
           have H' := ak H
           clear H
           obtain ⟨Ao11, co11, eo11⟩ := Kd.R_slice HO_7.out
           subst eo11
           have p430 : 0 ≤ (x8_1 : Int) := of_decide_eq_true aX
           have q430 : x8_1 < (x7_1.length : Int) := of_decide_eq_true aX
           obtain ⟨ad430, e430, hx430_0⟩ := Kd.at_int (Kd.R_reads' HO_7.out).2.2 x8_1 p430 q430
           cases e430
           replace p430 := eq_true p430
           replace q430 := eq_true q430
           have p10 : 0 ≤ (x8_1 : Int) := of_decide_eq_true aX
           have q10 : (x8_1 : Int) < ((x7_1.length : Int) : Int) := of_decide_eq_true aX
           obtain ⟨go10, co10, eo10, gb10, gl10, cl10, HG10⟩ := Kd.R_form HO_7.out (by omega)
           (first | cases eo10 | (injection eo10 with ea_ en_ ec_; (first | subst ea_ | (injection ea_ with ea_; subst ea_)); subst ec_; clear en_))
           have GB10 := ak gb10
           have GG10 := ak HG10
           clear gb10 gl10 HG10
           (first | simp only [add_plain] at hx430_0 | skip)
           obtain ⟨hx10_0, hf10_0⟩ := Kd.R_celln 0 HO_7.out (x8_1 : Int) p10 q10
           replace p10 := eq_true p10
           replace q10 := eq_true q10
           have HP12 := Kd.R_putg HO_7.out (x8_1 : Int) (Int.tmod (wrap64 ((rd x7_1 x8_1) * t426)) a0)
           go_wp2_with (first | ((with_reducible refine gate_store (t := 3) (p := 30) rfl ?_); refine store_event (t := 3) (p := 30) (v := ?vo_w13) (w1 := (wr.setCell ⟨go10, (x8_1 : Int).toNat, none⟩ (.int .i64 (Int.tmod (wrap64 ((rd x7_1 x8_1) * t426)) a0)))) ?hg ?ho ?hn ?hr ?_; (case ho => rfl); (case hg => rfl); (case hn => rfl); (case hr => first | (go_simp; done) | (go_simp; rfl)); intro w13 hw; have hg : wr.grownBy w13 (some go10) := (by rw [hw]; exact HP12.2); have hp_ : Kd.R (Kd.int .i64) 3 w13 w.heap.size (fun k_ => (w.heap.size ≤ k_)) (.slice (some ⟨go10, 0, none⟩) x7_1.length co11) y431 := (by rw [hw, Ny431.out]; exact HP12.1); clear HP12; have n0_ := ak (hp_); have n1_ := ak ((by rw [hw]; exact below_set (HB.out) GB10.out : Below w.heap.size w w13)); clear HO_7; clear HB; have HO_7 := n0_; have HB := n1_; clear n0_ n1_; clear hg hw hp_))
           (first | go_roundg k1 | (refine Handed.intro k1 ?measure ?_; rotate_left; go_step; (repeat rw [add_plain]); (repeat apply Exists.intro); refine ⟨?rel, rfl⟩))
           case measure => have := HK1.out; omega
           case rel => exact ⟨(y431), (wrap64 (x8_1 + 1)), (by first | rfl | (simp; done) | (simp [*]; done)), H', ⟨by have := HK1.out; omega⟩, ⟨by (with_reducible repeat (first | apply Kd.R_alloc | apply Kd.R_drewN | apply Kd.R_drew)); exact HO_7.out⟩, ⟨by repeat (first | (with_reducible first | exact HB.out | apply bA | apply bB | apply bC) | exact HB.out)⟩⟩
      · rw [if_neg c8] at H
        exact absurd H (by simp)
    · rw [if_neg c7] at H
      have c7b0 : decide (x8_1 < (x7_1.length : Int)) = false := decide_eq_false c7
      clear c7
      replace H := Option.bind_eq_some_iff.mp H
      obtain ⟨t432, A140, H⟩ := H
      replace H : (some t432) = some r := H
      have A14 := ak A140
      clear A140
      as_aux_lemma =>
       obtain rfl := Option.some.inj H
       obtain ⟨Ao15, co15, eo15⟩ := Kd.R_slice HO_7.out
       subst eo15
       go_wp2_with (first | ((with_reducible refine gate_callee (f := 40) rfl ?_); refine goesL_ (some 32) rfl rfl Try.func40 (by kernel_rfl) rfl #[.slice Ao15 x7_1.length co15] rfl mX ?_; (with_reducible refine (galoisref09_Trim.calls k1 (fun k_ => some k_ = (.slice Ao15 x7_1.length co15 : Value).ownBlock) _ _ x7_1 t432 _ ?side1 A14.out).mono ?_); (case side1 => exact Kd.R_V (Kd.R_tight rfl (HO_7.out))); rintro e w16 ⟨v433, rfl, ho0, hb⟩; refine ⟨_, rfl, ?_⟩; have n0_ := ak (Kd.R_below (rX HO_7.out) hb); have n1_ := ak (Kd.V_lower (Kd.V_mono (ok' := fun k_ => (w.heap.size ≤ k_)) ho0 (fun k_ hk_ => Or.elim hk_ (fun hs_ => ((HO_7.out).1 k_ hs_.symm)) (fun hn_ => (Nat.le_trans (below_size bX) hn_)))) (below_size bX)); have n2_ := ak (below_step bX hb); clear HO_7; clear HB; have HO_7 := n0_; have HO434 := n1_; have HB := n2_; clear n0_ n1_ n2_; (try clear hb); (try clear hb2); (try clear hk); (try clear hi); (try clear ho0)))
       go_ret
       exact ⟨_, by first | rfl | (simp [errW_none, errW_some] <;> rfl) | (simp [*, errW_none, errW_some] <;> rfl), by (with_reducible repeat (first | apply vA | apply vB | apply vC)); exact HO434.out, by repeat (first | (with_reducible first | exact HB.out | apply bA | apply bB | apply bC) | exact HB.out)⟩

end Go.Proofs.Ytmknclgamadphaa.PPolymodPrimes
