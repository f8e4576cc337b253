-- WRITTEN BY sprint.py (a program of this repo, over the kit's print.py): nothing here is trusted, Lean checks it.
import Derived.Test.YtmknclgamadphaaPPolymodPrimesx0
import Derived.Test.YtmknclgamadphaaPPolymodPrimesx2
namespace Go.Proofs.Ytmknclgamadphaa.PPolymodPrimes
open Go.RowKit Go.Proofs.YtmknclgamadphaaW.PrintWords Go.Proofs.YtmknclgamadphaaW.PrintLast Go.Proofs.YtmknclgamadphaaW.PrintMore
attribute [local go_sem] max2_int min2_int max_two min_two max_three min_three max_four min_four   -- for this text's walks alone
set_option linter.unusedVariables false
set_option linter.unusedSimpArgs false

/-! ### fp_at: function 107 -/
def fp_at.f (l0 : List Int) (a1 : Int) : Option (Int) := if a1 < (l0.length : Int) then (if 0 ≤ a1 then (some (rd l0 a1)) else (none)) else (some 0)
set_option maxHeartbeats 8000000 in
set_option maxRecDepth 100000 in
theorem fp_at.calls (A0 : Option Addr) (c0 : Nat) (l0 : List Int) (a1 : Int) (r : Int) (w : World) (hr0 : Kd.C (Kd.int .i64) w A0 l0.length l0) (hc0 : l0.length ≤ c0) (h : fp_at.f l0 a1 = some r) :
 Calls Try.prog 107 #[.slice A0 l0.length c0, .int .i64 a1] w fun e w' => e = .returned (.int .i64 r) ∧ Drawn0 w w' := by
 have HR0 := ak hr0
 have HC0 := ak hc0
 clear hr0 hc0
 have H : (if a1 < (l0.length : Int) then (if 0 ≤ a1 then (some (rd l0 a1)) else (none)) else (some 0)) = some r := h
 clear h
 by_cases c3 : a1 < (l0.length : Int)
 · rw [if_pos c3] at H
   have c3b0 : decide (a1 < (l0.length : Int)) = true := decide_eq_true c3
   clear c3
   by_cases c4 : 0 ≤ a1
   · rw [if_pos c4] at H
     have c4b0 : decide (0 ≤ a1) = true := decide_eq_true c4
     clear c4
     as_aux_lemma =>
      obtain rfl := Option.some.inj H
      have p161 : 0 ≤ (a1 : Int) := of_decide_eq_true aX
      have q161 : a1 < (l0.length : Int) := of_decide_eq_true aX
      obtain ⟨ad161, e161, hx161_0⟩ := Kd.at_int HR0.out a1 p161 q161
      cases e161
      replace p161 := eq_true p161
      replace q161 := eq_true q161
      go_enter Try.func107, Try.ntmps107
      go_wp2
      go_ret
      exact ⟨by first | rfl | (simp; done) | (simp [*]; done), by repeat (first | exact Drawn0.refl _ | apply Drawn0.step)⟩
   · rw [if_neg c4] at H
     exact absurd H (by simp)
 · rw [if_neg c3] at H
   have c3b0 : decide (a1 < (l0.length : Int)) = false := decide_eq_false c3
   clear c3
   as_aux_lemma =>
    obtain rfl := Option.some.inj H
    go_enter Try.func107, Try.ntmps107
    go_wp2
    go_ret
    exact ⟨by first | rfl | (simp; done) | (simp [*]; done), by repeat (first | exact Drawn0.refl _ | apply Drawn0.step)⟩

/-! ### fp_Sub: function 73 -/
def fp_Sub.l0 : Nat → Int → List Int → List Int → List Int → Int → Int → Option (List Int)
 | 0, _, _, _, _, _, _ => none
 | k + 1, x0, x1, x2, x7, x16, x17 => if x17 < x16 then ((fp_at.f x1 x17).bind fun t165 => ((fp_at.f x2 x17).bind fun t166 => (if x0 = 0 then (none) else (if 0 ≤ x17 then (if x17 < (x7.length : Int) then (fp_Sub.l0 k x0 x1 x2 (x7.set (x17 : Int).toNat (Int.tmod (wrap64 ((wrap64 (t165 + x0)) - t166)) x0)) x16 (wrap64 (x17 + 1))) else (none)) else (none))))) else ((fp_Trim.f k x7).bind fun t168 => (some t168))
def fp_Sub.f (k : Nat) (a0 : Int) (l1 : List Int) (l2 : List Int) : Option (List Int) := if 0 ≤ (mx (l1.length : Int) (l2.length : Int)) then (if (mx (l1.length : Int) (l2.length : Int) : Int).toNat ≤ 35184372088832 then ((some (List.replicate (mx (l1.length : Int) (l2.length : Int) : Int).toNat 0 : List Int)).bind fun y162 => (fp_Sub.l0 k a0 l1 l2 y162 (y162.length : Int) 0)) else (none)) else (none)
theorem fp_Sub.mono_l : ∀ k, (∀ y0 y1 y2 y3 y4 y5, LeO (fp_Sub.l0 k y0 y1 y2 y3 y4 y5) (fp_Sub.l0 (k + 1) y0 y1 y2 y3 y4 y5))
 | 0 => fun _ _ _ _ _ _ r h => by simp [fp_Sub.l0] at h
 | k + 1 => by
   have ih0 := fp_Sub.mono_l k
   · intro y0 y1 y2 y3 y4 y5
     unfold fp_Sub.l0
     repeat' first
     | (with_reducible apply ih0)
     | (with_reducible apply fp_Trim.mono)
     | (with_reducible apply LeO.refl)
     | (with_reducible apply LeO.none)
     | (with_reducible refine LeO.ite ?_ ?_)
     | (with_reducible refine LeO.bind ?_ (fun _ => ?_))
theorem fp_Sub.mono : ∀ a0 a1 a2 k, LeO (fp_Sub.f k a0 a1 a2) (fp_Sub.f (k + 1) a0 a1 a2) := by
 intro a0 a1 a2 k
 have ih0 := fp_Sub.mono_l k
 unfold fp_Sub.f
 repeat' first
  | (with_reducible apply ih0)
  | (with_reducible apply fp_Trim.mono)
  | (with_reducible apply LeO.refl)
  | (with_reducible apply LeO.none)
  | (with_reducible refine LeO.ite ?_ ?_)
  | (with_reducible refine LeO.bind ?_ (fun _ => ?_))
set_option maxHeartbeats 8000000 in
set_option maxRecDepth 100000 in
theorem fp_Sub.calls (k : Nat) (a0 : Int) (A1 : Option Addr) (c1 : Nat) (l1 : List Int) (A2 : Option Addr) (c2 : Nat) (l2 : List Int) (r : List Int) (w : World) (hr1 : Kd.C (Kd.int .i64) w A1 l1.length l1) (hc1 : l1.length ≤ c1) (hr2 : Kd.C (Kd.int .i64) w A2 l2.length l2) (hc2 : l2.length ≤ c2) (h : fp_Sub.f k a0 l1 l2 = some r) :
 Calls Try.prog 73 #[.int .i64 a0, .slice A1 l1.length c1, .slice A2 l2.length c2] w fun e w' => ∃ v0_ : Value, e = .returned (v0_) ∧ Kd.V (Kd.int .i64) 3 w' w.heap.size (fun k_ => (w.heap.size ≤ k_)) v0_ r ∧ Below w.heap.size w w' := by
 have HR1 := ak hr1
 have HC1 := ak hc1
 clear hr1 hc1
 have HR2 := ak hr2
 have HC2 := ak hc2
 clear hr2 hc2
 have HB := ak (Below.refl w.heap.size w)
 have H : (if 0 ≤ (mx (l1.length : Int) (l2.length : Int)) then (if (mx (l1.length : Int) (l2.length : Int) : Int).toNat ≤ 35184372088832 then ((some (List.replicate (mx (l1.length : Int) (l2.length : Int) : Int).toNat 0 : List Int)).bind fun y162 => (fp_Sub.l0 k a0 l1 l2 y162 (y162.length : Int) 0)) else (none)) else (none)) = some r := h
 clear h
 obtain ⟨ji4, hji4⟩ : ∃ j_ : Int, (mx (l1.length : Int) (l2.length : Int)) = j_ := ⟨_, rfl⟩
 replace H : (if 0 ≤ (ji4) then (if (ji4 : Int).toNat ≤ 35184372088832 then ((some (List.replicate (ji4 : Int).toNat 0 : List Int)).bind fun y162 => (fp_Sub.l0 k a0 l1 l2 y162 (y162.length : Int) 0)) else (none)) else (none)) = some r := by first | (rw [hji4] at H; exact H) | (simp only [hji4] at H ⊢; exact H)
 (try (have hji4l : 0 ≤ ji4 := by (rw [← hji4]; unfold mx; (repeat' split) <;> omega)))
 (try (have hji4m : 0 ≤ ji4 := by omega))
 have hji4_ : (if (l1.length : Int) < (l2.length : Int) then (l2.length : Int) else (l1.length : Int)) = ji4 := hji4
 (try (have hji4n_ : (if l1.length < l2.length then (l2.length : Int) else (l1.length : Int)) = ji4 := by rw [← hji4_]; simp only [Int.ofNat_lt]))
 by_cases c5 : 0 ≤ (ji4)
 · rw [if_pos c5] at H
   have c5b0 := eq_true c5
   have c5b1 : decide (0 ≤ (ji4)) = true := decide_eq_true c5
   clear c5
   by_cases c6 : (ji4 : Int).toNat ≤ 35184372088832
   · rw [if_pos c6] at H
     have c6b0 := eq_true c6
     have c6b1 : decide ((ji4 : Int).toNat ≤ 35184372088832) = true := decide_eq_true c6
     clear c6
     obtain ⟨y162, hy162⟩ : ∃ y_ : List Int, y_ = (List.replicate (ji4 : Int).toNat 0) := ⟨_, rfl⟩
     replace H : (fp_Sub.l0 k a0 l1 l2 y162 (y162.length : Int) 0) = some r := by first | (rw [hy162]; with_reducible exact H) | (have H2_ := (Option.bind_some _ _).symm.trans H; rw [hy162]; with_reducible exact H2_) | (have H2_ := (Option.bind_some _ _).symm.trans H; with_reducible exact H2_) | with_reducible exact H | (rw [hy162]; exact H) | exact H
     have Ny162 := ak hy162
     clear hy162
     have H' := ak H
     clear H
     go_enter Try.func73, Try.ntmps73
     go_wp2_with (first | ((with_reducible refine gate_dst (N := 14) rfl ?_); refine Kd.R_make (Kd.int .i64) _ 3 rfl (N := 14) rfl 23 _ _ rfl ji4 rfl rfl Try.underlying23 (.int .i64 0) 8 info3 rfl (by decide) (by omega) 0 (ok := fun _ => True) (okp := fun _ => True) rfl (fun _ hk => hk) trivial (of_decide_eq_true aX) (Nat.le_trans (Nat.mul_le_mul_right _ (of_decide_eq_true aX : ji4.toNat ≤ 35184372088832)) (by omega)) (Below.refl _ _) (Nat.le_refl _) ?_; intro v163 w7 ho8 hb hg_ hnew_; clear hg_ hnew_; (first | rw [← Ny162.out] at ho8 | (simp only [Int.reduceToNat] at ho8; rw [← Ny162.out] at ho8)); have n0_ := ak (Kd.R_lower (Kd.R_newM (M := fun k_ => (w.heap.size ≤ k_)) ho8 (below_size bX) (fun k_ h_ => h_)) (below_size bX)); have n1_ := ak (below_step bX hb); clear HB; have HO164 := n0_; have HB := n1_; clear n0_ n1_; clear hb ho8; obtain ⟨Ao9, co9, eo9⟩ := Kd.R_slice HO164.out; subst eo9))
     go_loopg [17] k (fun kq v17 w' => ∃ (x7_1 : List Int) (x17_1 : Int), v17 = .int .i64 x17_1 ∧ Aside0 (fp_Sub.l0 kq a0 l1 l2 x7_1 (y162.length : Int) x17_1 = some r) ∧ Aside0 (kq ≤ k) ∧ Aside0 (Kd.R (Kd.int .i64) 3 w' w.heap.size (fun k_ => (w.heap.size ≤ k_)) (.slice Ao9 y162.length co9) x7_1) ∧ Aside0 (Below w.heap.size w w'))
     case atStart => exact ⟨(y162), (0), (by first | rfl | (simp; done) | (simp [*]; done)), H', ⟨Nat.le_refl _⟩, ⟨by (with_reducible repeat (first | apply Kd.R_alloc | apply Kd.R_drewN | apply Kd.R_drew)); exact Kd.R_mono HO164.out (fun _ hk => hk.1)⟩, ⟨by repeat (first | (with_reducible first | exact HB.out | apply bA | apply bB | apply bC) | exact HB.out)⟩⟩
     case round =>
      clear H'
      try clear c1
      try clear c2
      try clear p2
      try clear c5
      try clear c5b0
      try clear c5b1
      try clear c6
      try clear c6b0
      try clear c6b1
      try clear c7
      obtain ⟨x7_1, x17_1, rfl, HA, HK1, HO_7, HB⟩ := hrel
      have hl7_1 := (Kd.R_reads' HO_7.out).1
      rw [hl7_1] at HO_7
      (try simp only [hl7_1])
      cases gk with
      | zero => exact absurd HA.out (by simp [fp_Sub.l0])
      | succ k1 =>
        have H := HA.out
        clear HA
        simp only [fp_Sub.l0] at H
        by_cases c10 : x17_1 < (y162.length : Int)
        · rw [if_pos c10] at H
          have c10b0 : decide (x17_1 < (y162.length : Int)) = true := decide_eq_true c10
          (try rw [hl7_1] at c10b0)
          clear c10
          replace H := Option.bind_eq_some_iff.mp H
          obtain ⟨t165, A110, H⟩ := H
          replace H : ((fp_at.f l2 x17_1).bind fun t166 => (if a0 = 0 then (none) else (if 0 ≤ x17_1 then (if x17_1 < (x7_1.length : Int) then (fp_Sub.l0 k1 a0 l1 l2 (x7_1.set (x17_1 : Int).toNat (Int.tmod (wrap64 ((wrap64 (t165 + a0)) - t166)) a0)) (y162.length : Int) (wrap64 (x17_1 + 1))) else (none)) else (none)))) = some r := H
          have A11 := ak A110
          clear A110
          replace H := Option.bind_eq_some_iff.mp H
          obtain ⟨t166, A120, H⟩ := H
          replace H : (if a0 = 0 then (none) else (if 0 ≤ x17_1 then (if x17_1 < (x7_1.length : Int) then (fp_Sub.l0 k1 a0 l1 l2 (x7_1.set (x17_1 : Int).toNat (Int.tmod (wrap64 ((wrap64 (t165 + a0)) - t166)) a0)) (y162.length : Int) (wrap64 (x17_1 + 1))) else (none)) else (none))) = some r := H
          have A12 := ak A120
          clear A120
          by_cases c13 : a0 = 0
          · rw [if_pos c13] at H
            exact absurd H (by simp)
          · rw [if_neg c13] at H
            have c13b0 : (a0 == 0) = false := beq_eq_false_iff_ne.mpr c13
            have c13b1 : (a0 != 0) = true := bne_iff_ne.mpr c13
            by_cases c14 : 0 ≤ x17_1
            · rw [if_pos c14] at H
              have c14b0 : decide (0 ≤ x17_1) = true := decide_eq_true c14
              clear c14
              by_cases c15 : x17_1 < (x7_1.length : Int)
              · rw [if_pos c15] at H
                have c15b0 : decide (x17_1 < (x7_1.length : Int)) = true := decide_eq_true c15
                clear c15
                obtain ⟨y167, hy167⟩ : ∃ y_ : List Int, y_ = (x7_1.set (x17_1 : Int).toNat (Int.tmod (wrap64 ((wrap64 (t165 + a0)) - t166)) a0)) := ⟨_, rfl⟩
                replace H : (fp_Sub.l0 k1 a0 l1 l2 y167 (y162.length : Int) (wrap64 (x17_1 + 1))) = some r := by first | (rw [hy167]; with_reducible exact H) | (have H2_ := (Option.bind_some _ _).symm.trans H; rw [hy167]; with_reducible exact H2_) | (have H2_ := (Option.bind_some _ _).symm.trans H; with_reducible exact H2_) | with_reducible exact H | (rw [hy167]; exact H) | exact H
                have Ny167 := ak hy167
                clear hy167
                as_aux_lemma =>
                 have H' := ak H
                 clear H
                 go_wp2_with (first | ((with_reducible refine gate_callee (f := 107) rfl ?_); refine goesL_ (some 24) rfl rfl Try.func107 (by kernel_rfl) rfl #[.slice A1 l1.length c1, .int .i64 x17_1] rfl mX ?_; (with_reducible refine (fp_at.calls _ _ l1 x17_1 t165 _ ?side1 ?side2 A11.out).mono ?_); (case side1 => exact cX (Kd.C_below HR1.out HB.out)); (case side2 => exact HC1.out); rintro e w' ⟨rfl, ⟨nd, rfl⟩⟩; refine ⟨_, rfl, ?_⟩; (try (rw [drewN_self wr]; generalize hq_ : World.drewN wr _ = wr; have n0_ : Aside0 (Kd.R (Kd.int .i64) 3 wr w.heap.size (fun k_ => (w.heap.size ≤ k_)) (.slice Ao9 x7_1.length co9) x7_1) := ⟨by rw [← hq_]; exact (rX HO_7.out)⟩; have n1_ : Aside0 (Below w.heap.size w wr) := ⟨by rw [← hq_]; exact bX⟩; clear HO_7 HB hq_; have HO_7 := n0_; have HB := n1_; clear n0_ n1_))) | ((with_reducible refine gate_callee (f := 107) rfl ?_); refine goesL_ (some 29) rfl rfl Try.func107 (by kernel_rfl) rfl #[.slice A2 l2.length c2, .int .i64 x17_1] rfl mX ?_; (with_reducible refine (fp_at.calls _ _ l2 x17_1 t166 _ ?side1 ?side2 A12.out).mono ?_); (case side1 => exact cX (Kd.C_below HR2.out HB.out)); (case side2 => exact HC2.out); rintro e w' ⟨rfl, ⟨nd, rfl⟩⟩; refine ⟨_, rfl, ?_⟩; (try (rw [drewN_self wr]; generalize hq_ : World.drewN wr _ = wr; have n0_ : Aside0 (Kd.R (Kd.int .i64) 3 wr w.heap.size (fun k_ => (w.heap.size ≤ k_)) (.slice Ao9 x7_1.length co9) x7_1) := ⟨by rw [← hq_]; exact (rX HO_7.out)⟩; have n1_ : Aside0 (Below w.heap.size w wr) := ⟨by rw [← hq_]; exact bX⟩; clear HO_7 HB hq_; have HO_7 := n0_; have HB := n1_; clear n0_ n1_)); have p16 : 0 ≤ (x17_1 : Int) := of_decide_eq_true aX; have q16 : (x17_1 : Int) < ((x7_1.length : Int) : Int) := of_decide_eq_true aX; obtain ⟨go16, co16, eo16, gb16, gl16, cl16, HG16⟩ := Kd.R_form HO_7.out (by omega); (first | cases eo16 | (injection eo16 with ea_ en_ ec_; (first | subst ea_ | (injection ea_ with ea_; subst ea_)); subst ec_; clear en_)); have GB16 := ak gb16; have GG16 := ak HG16; clear gb16 gl16 HG16; obtain ⟨hx16_0, hf16_0⟩ := Kd.R_celln 0 HO_7.out (x17_1 : Int) p16 q16; replace p16 := eq_true p16; replace q16 := eq_true q16; obtain ⟨hy17_, hz17_⟩ := Kd.R_celln 0 HO_7.out (x17_1 : Int) (of_decide_eq_true aX) (of_decide_eq_true aX); have HP17 := Kd.R_putg HO_7.out (x17_1 : Int) (Int.tmod (wrap64 ((wrap64 (t165 + a0)) - t166)) a0)) | ((with_reducible refine gate_store (t := 3) (p := 33) rfl ?_); refine store_event (t := 3) (p := 33) (v := ?vo_w18) (w1 := (wr.setCell ⟨go16, (x17_1 : Int).toNat, none⟩ (.int .i64 (Int.tmod (wrap64 ((wrap64 (t165 + a0)) - t166)) a0)))) ?hg ?ho ?hn ?hr ?_; (case ho => rfl); (case hg => rfl); (case hn => rfl); (case hr => first | (go_simp; done) | (go_simp; rfl)); intro w18 hw; have hg : wr.grownBy w18 (some go16) := (by rw [hw]; exact HP17.2); have hp_ : Kd.R (Kd.int .i64) 3 w18 w.heap.size (fun k_ => (w.heap.size ≤ k_)) (.slice (some ⟨go16, 0, none⟩) x7_1.length co9) y167 := (by rw [hw, Ny167.out]; exact HP17.1); clear HP17; have n0_ := ak (hp_); have n1_ := ak ((by rw [hw]; exact below_set (HB.out) GB16.out : Below w.heap.size w w18)); clear HO_7; clear HB; have HO_7 := n0_; have HB := n1_; clear n0_ n1_; clear hg hw hp_))
                 (try simp only [← hl7_1])
                 (first | go_roundg k1 | (refine Handed.intro k1 ?measure ?_; rotate_left; go_step; (repeat rw [add_plain]); (repeat apply Exists.intro); refine ⟨?rel, rfl⟩))
                 case measure => have := HK1.out; omega
                 case rel => exact ⟨(y167), (wrap64 (x17_1 + 1)), (by first | rfl | (simp; done) | (simp [*]; done)), H', ⟨by have := HK1.out; omega⟩, ⟨by (try simp only [hl7_1]); (with_reducible repeat (first | apply Kd.R_alloc | apply Kd.R_drewN | apply Kd.R_drew)); exact HO_7.out⟩, ⟨by repeat (first | (with_reducible first | exact HB.out | apply bA | apply bB | apply bC) | exact HB.out)⟩⟩
              · rw [if_neg c15] at H
                exact absurd H (by simp)
            · rw [if_neg c14] at H
              exact absurd H (by simp)
        · rw [if_neg c10] at H
          have c10b0 : decide (x17_1 < (y162.length : Int)) = false := decide_eq_false c10
          (try rw [hl7_1] at c10b0)
          clear c10
          replace H := Option.bind_eq_some_iff.mp H
          obtain ⟨t168, A190, H⟩ := H
          replace H : (some t168) = some r := H
          have A19 := ak A190
          clear A190
          as_aux_lemma =>
           obtain rfl := Option.some.inj H
           go_wp2_with (first | ((with_reducible refine gate_callee (f := 88) rfl ?_); refine goesL_ (some 36) rfl rfl Try.func88 (by kernel_rfl) rfl #[.slice Ao9 x7_1.length co9] rfl mX ?_; (with_reducible refine (fp_Trim.calls k1 (fun k_ => some k_ = (.slice Ao9 x7_1.length co9 : Value).ownBlock) _ _ x7_1 t168 _ ?side1 A19.out).mono ?_); (case side1 => exact Kd.R_V (Kd.R_tight rfl (HO_7.out))); rintro e w20 ⟨v169, rfl, ho0, hb⟩; refine ⟨_, rfl, ?_⟩; have n0_ := ak (Kd.R_below (rX HO_7.out) hb); have n1_ := ak (Kd.V_lower (Kd.V_mono (ok' := fun k_ => (w.heap.size ≤ k_)) ho0 (fun k_ hk_ => Or.elim hk_ (fun hs_ => ((HO_7.out).1 k_ hs_.symm)) (fun hn_ => (Nat.le_trans (below_size bX) hn_)))) (below_size bX)); have n2_ := ak (below_step bX hb); clear HO_7; clear HB; have HO_7 := n0_; have HO170 := n1_; have HB := n2_; clear n0_ n1_ n2_; (try clear hb); (try clear hb2); (try clear hk); (try clear hi); (try clear ho0)))
           go_ret
           exact ⟨_, by first | rfl | (simp [errW_none, errW_some] <;> rfl) | (simp only [← hji4]; first | rfl | (simp [errW_none, errW_some] <;> rfl)) | (simp [*, errW_none, errW_some] <;> rfl), by (with_reducible repeat (first | apply vA | apply vB | apply vC)); exact HO170.out, by repeat (first | (with_reducible first | exact HB.out | apply bA | apply bB | apply bC) | exact HB.out)⟩
   · rw [if_neg c6] at H
     exact absurd H (by simp)
 · rw [if_neg c5] at H
   exact absurd H (by simp)

/-! ### fp_Scale: function 90 -/
def fp_Scale.l0 : Nat → Int → Int → List Int → List Int → Int → Int → Option (List Int)
 | 0, _, _, _, _, _, _ => none
 | k + 1, x0, x2, x7, x13, x14, x15 => if x15 < x14 then (if 0 ≤ x15 then (if x15 < (x13.length : Int) then (if x0 = 0 then (none) else (if x15 < (x7.length : Int) then (fp_Scale.l0 k x0 x2 (x7.set (x15 : Int).toNat (Int.tmod (wrap64 ((rd x13 x15) * x2)) x0)) x13 x14 (wrap64 (x15 + 1))) else (none))) else (none)) else (none)) else ((fp_Trim.f k x7).bind fun t176 => (some t176))
def fp_Scale.f (k : Nat) (a0 : Int) (l1 : List Int) (a2 : Int) : Option (List Int) := if 0 ≤ (l1.length : Int) then (if ((l1.length : Int) : Int).toNat ≤ 35184372088832 then (fp_Scale.l0 k a0 a2 (List.replicate ((l1.length : Int) : Int).toNat 0) l1 (l1.length : Int) 0) else (none)) else (none)
theorem fp_Scale.mono_l : ∀ k, (∀ y0 y1 y2 y3 y4 y5, LeO (fp_Scale.l0 k y0 y1 y2 y3 y4 y5) (fp_Scale.l0 (k + 1) y0 y1 y2 y3 y4 y5))
 | 0 => fun _ _ _ _ _ _ r h => by simp [fp_Scale.l0] at h
 | k + 1 => by
   have ih0 := fp_Scale.mono_l k
   · intro y0 y1 y2 y3 y4 y5
     unfold fp_Scale.l0
     repeat' first
     | (with_reducible apply ih0)
     | (with_reducible apply fp_Trim.mono)
     | (with_reducible apply LeO.refl)
     | (with_reducible apply LeO.none)
     | (with_reducible refine LeO.ite ?_ ?_)
     | (with_reducible refine LeO.bind ?_ (fun _ => ?_))
theorem fp_Scale.mono : ∀ a0 a1 a2 k, LeO (fp_Scale.f k a0 a1 a2) (fp_Scale.f (k + 1) a0 a1 a2) := by
 intro a0 a1 a2 k
 have ih0 := fp_Scale.mono_l k
 unfold fp_Scale.f
 repeat' first
  | (with_reducible apply ih0)
  | (with_reducible apply fp_Trim.mono)
  | (with_reducible apply LeO.refl)
  | (with_reducible apply LeO.none)
  | (with_reducible refine LeO.ite ?_ ?_)
  | (with_reducible refine LeO.bind ?_ (fun _ => ?_))
set_option maxHeartbeats 8000000 in
set_option maxRecDepth 100000 in
theorem fp_Scale.calls (k : Nat) (a0 : Int) (A1 : Option Addr) (c1 : Nat) (l1 : List Int) (a2 : Int) (r : List Int) (w : World) (hr1 : Kd.C (Kd.int .i64) w A1 l1.length l1) (hc1 : l1.length ≤ c1) (h : fp_Scale.f k a0 l1 a2 = some r) :
 Calls Try.prog 90 #[.int .i64 a0, .slice A1 l1.length c1, .int .i64 a2] w fun e w' => ∃ v0_ : Value, e = .returned (v0_) ∧ Kd.V (Kd.int .i64) 3 w' w.heap.size (fun k_ => (w.heap.size ≤ k_)) v0_ r ∧ Below w.heap.size w w' := by
 have HR1 := ak hr1
 have HC1 := ak hc1
 clear hr1 hc1
 have HB := ak (Below.refl w.heap.size w)
 have H : (if 0 ≤ (l1.length : Int) then (if ((l1.length : Int) : Int).toNat ≤ 35184372088832 then (fp_Scale.l0 k a0 a2 (List.replicate ((l1.length : Int) : Int).toNat 0) l1 (l1.length : Int) 0) else (none)) else (none)) = some r := h
 clear h
 by_cases c4 : 0 ≤ (l1.length : Int)
 · rw [if_pos c4] at H
   have c4b0 := eq_true c4
   have c4b1 : decide (0 ≤ (l1.length : Int)) = true := decide_eq_true c4
   clear c4
   by_cases c5 : ((l1.length : Int) : Int).toNat ≤ 35184372088832
   · rw [if_pos c5] at H
     have c5b0 := eq_true c5
     have c5b1 : decide (((l1.length : Int) : Int).toNat ≤ 35184372088832) = true := decide_eq_true c5
     clear c5
     obtain ⟨y171, hy171⟩ : ∃ y_ : List Int, y_ = (List.replicate ((l1.length : Int) : Int).toNat 0) := ⟨_, rfl⟩
     replace H : (fp_Scale.l0 k a0 a2 y171 l1 (l1.length : Int) 0) = some r := by first | (rw [hy171]; with_reducible exact H) | (have H2_ := (Option.bind_some _ _).symm.trans H; rw [hy171]; with_reducible exact H2_) | (have H2_ := (Option.bind_some _ _).symm.trans H; with_reducible exact H2_) | with_reducible exact H | (rw [hy171]; exact H) | exact H
     have Ny171 := ak hy171
     clear hy171
     have H' := ak H
     clear H
     go_enter Try.func90, Try.ntmps90
     go_wp2_with (first | ((with_reducible refine gate_dst (N := 12) rfl ?_); refine Kd.R_make (Kd.int .i64) _ 3 rfl (N := 12) rfl 23 _ _ rfl (l1.length : Int) rfl rfl Try.underlying23 (.int .i64 0) 8 info3 rfl (by decide) (by omega) 0 (ok := fun _ => True) (okp := fun _ => True) rfl (fun _ hk => hk) trivial (of_decide_eq_true aX) (Nat.le_trans (Nat.mul_le_mul_right _ (of_decide_eq_true aX : (l1.length : Int).toNat ≤ 35184372088832)) (by omega)) (Below.refl _ _) (Nat.le_refl _) ?_; intro v172 w6 ho7 hb hg_ hnew_; clear hg_ hnew_; (first | rw [← Ny171.out] at ho7 | (simp only [Int.reduceToNat] at ho7; rw [← Ny171.out] at ho7)); have n0_ := ak (Kd.R_lower (Kd.R_newM (M := fun k_ => (w.heap.size ≤ k_)) ho7 (below_size bX) (fun k_ h_ => h_)) (below_size bX)); have n1_ := ak (below_step bX hb); clear HB; have HO173 := n0_; have HB := n1_; clear n0_ n1_; clear hb ho7))
     go_loopg [15] k (fun kq v15 w' => ∃ (x7_1 : List Int) (x15_1 : Int), v15 = .int .i64 x15_1 ∧ Aside0 (fp_Scale.l0 kq a0 a2 x7_1 l1 (l1.length : Int) x15_1 = some r) ∧ Aside0 (kq ≤ k) ∧ Aside0 (Kd.R (Kd.int .i64) 3 w' w.heap.size (fun k_ => (w.heap.size ≤ k_)) v172 x7_1) ∧ Aside0 (Below w.heap.size w w'))
     case atStart => exact ⟨(y171), (0), (by first | rfl | (simp; done) | (simp [*]; done)), H', ⟨Nat.le_refl _⟩, ⟨by (with_reducible repeat (first | apply Kd.R_alloc | apply Kd.R_drewN | apply Kd.R_drew)); exact Kd.R_mono HO173.out (fun _ hk => hk.1)⟩, ⟨by repeat (first | (with_reducible first | exact HB.out | apply bA | apply bB | apply bC) | exact HB.out)⟩⟩
     case round =>
      clear H'
      try clear c1
      try clear p2
      try clear c4
      try clear c4b0
      try clear c4b1
      try clear c5
      try clear c5b0
      try clear c5b1
      obtain ⟨x7_1, x15_1, rfl, HA, HK1, HO_7, HB⟩ := hrel
      cases gk with
      | zero => exact absurd HA.out (by simp [fp_Scale.l0])
      | succ k1 =>
        have H := HA.out
        clear HA
        simp only [fp_Scale.l0] at H
        by_cases c8 : x15_1 < (l1.length : Int)
        · rw [if_pos c8] at H
          have c8b0 : decide (x15_1 < (l1.length : Int)) = true := decide_eq_true c8
          clear c8
          by_cases c9 : 0 ≤ x15_1
          · rw [if_pos c9] at H
            have c9b0 : decide (0 ≤ x15_1) = true := decide_eq_true c9
            clear c9
            by_cases c10 : x15_1 < (l1.length : Int)
            · rw [if_pos c10] at H
              have c10b0 : decide (x15_1 < (l1.length : Int)) = true := decide_eq_true c10
              clear c10
              by_cases c11 : a0 = 0
              · rw [if_pos c11] at H
                exact absurd H (by simp)
              · rw [if_neg c11] at H
                have c11b0 : (a0 == 0) = false := beq_eq_false_iff_ne.mpr c11
                have c11b1 : (a0 != 0) = true := bne_iff_ne.mpr c11
                by_cases c12 : x15_1 < (x7_1.length : Int)
                · rw [if_pos c12] at H
                  have c12b0 : decide (x15_1 < (x7_1.length : Int)) = true := decide_eq_true c12
                  clear c12
                  obtain ⟨y175, hy175⟩ : ∃ y_ : List Int, y_ = (x7_1.set (x15_1 : Int).toNat (Int.tmod (wrap64 ((rd l1 x15_1) * a2)) a0)) := ⟨_, rfl⟩
                  replace H : (fp_Scale.l0 k1 a0 a2 y175 l1 (l1.length : Int) (wrap64 (x15_1 + 1))) = some r := by first | (rw [hy175]; with_reducible exact H) | (have H2_ := (Option.bind_some _ _).symm.trans H; rw [hy175]; with_reducible exact H2_) | (have H2_ := (Option.bind_some _ _).symm.trans H; with_reducible exact H2_) | with_reducible exact H | (rw [hy175]; exact H) | exact H
                  have Ny175 := ak hy175
                  clear hy175
                  as_aux_lemma =>
                   have H' := ak H
                   clear H
                   have p174 : 0 ≤ (x15_1 : Int) := of_decide_eq_true aX
                   have q174 : x15_1 < (l1.length : Int) := of_decide_eq_true aX
                   obtain ⟨ad174, e174, hx174_0⟩ := Kd.at_int HR1.out x15_1 p174 q174
                   cases e174
                   replace hx174_0 := (HB.out.cell (World.block_lt_of_cell? w _ hx174_0)).trans hx174_0
                   replace p174 := eq_true p174
                   replace q174 := eq_true q174
                   have p13 : 0 ≤ (x15_1 : Int) := of_decide_eq_true aX
                   have q13 : (x15_1 : Int) < ((x7_1.length : Int) : Int) := of_decide_eq_true aX
                   obtain ⟨go13, co13, eo13, gb13, gl13, cl13, HG13⟩ := Kd.R_form HO_7.out (by omega)
                   (first | cases eo13 | (injection eo13 with ea_ en_ ec_; (first | subst ea_ | (injection ea_ with ea_; subst ea_)); subst ec_; clear en_))
                   have GB13 := ak gb13
                   have GG13 := ak HG13
                   clear gb13 gl13 HG13
                   obtain ⟨hx13_0, hf13_0⟩ := Kd.R_celln 0 HO_7.out (x15_1 : Int) p13 q13
                   replace p13 := eq_true p13
                   replace q13 := eq_true q13
                   have HP14 := Kd.R_putg HO_7.out (x15_1 : Int) (Int.tmod (wrap64 ((rd l1 x15_1) * a2)) a0)
                   go_wp2_with (first | ((with_reducible refine gate_store (t := 3) (p := 27) rfl ?_); refine store_event (t := 3) (p := 27) (v := ?vo_w15) (w1 := (wr.setCell ⟨go13, (x15_1 : Int).toNat, none⟩ (.int .i64 (Int.tmod (wrap64 ((rd l1 x15_1) * a2)) a0)))) ?hg ?ho ?hn ?hr ?_; (case ho => rfl); (case hg => rfl); (case hn => rfl); (case hr => first | (go_simp; done) | (go_simp; rfl)); intro w15 hw; have hg : wr.grownBy w15 (some go13) := (by rw [hw]; exact HP14.2); have hp_ : Kd.R (Kd.int .i64) 3 w15 w.heap.size (fun k_ => (w.heap.size ≤ k_)) (.slice (some ⟨go13, 0, none⟩) x7_1.length co13) y175 := (by rw [hw, Ny175.out]; exact HP14.1); clear HP14; have n0_ := ak (hp_); have n1_ := ak ((by rw [hw]; exact below_set (HB.out) GB13.out : Below w.heap.size w w15)); clear HO_7; clear HB; have HO_7 := n0_; have HB := n1_; clear n0_ n1_; clear hg hw hp_))
                   (first | go_roundg k1 | (refine Handed.intro k1 ?measure ?_; rotate_left; go_step; (repeat rw [add_plain]); (repeat apply Exists.intro); refine ⟨?rel, rfl⟩))
                   case measure => have := HK1.out; omega
                   case rel => exact ⟨(y175), (wrap64 (x15_1 + 1)), (by first | rfl | (simp; done) | (simp [*]; done)), H', ⟨by have := HK1.out; omega⟩, ⟨by (with_reducible repeat (first | apply Kd.R_alloc | apply Kd.R_drewN | apply Kd.R_drew)); exact HO_7.out⟩, ⟨by repeat (first | (with_reducible first | exact HB.out | apply bA | apply bB | apply bC) | exact HB.out)⟩⟩
                · rw [if_neg c12] at H
                  exact absurd H (by simp)
            · rw [if_neg c10] at H
              exact absurd H (by simp)
          · rw [if_neg c9] at H
            exact absurd H (by simp)
        · rw [if_neg c8] at H
          have c8b0 : decide (x15_1 < (l1.length : Int)) = false := decide_eq_false c8
          clear c8
          replace H := Option.bind_eq_some_iff.mp H
          obtain ⟨t176, A160, H⟩ := H
          replace H : (some t176) = some r := H
          have A16 := ak A160
          clear A160
          as_aux_lemma =>
           obtain rfl := Option.some.inj H
           obtain ⟨Ao17, co17, eo17⟩ := Kd.R_slice HO_7.out
           subst eo17
           go_wp2_with (first | ((with_reducible refine gate_callee (f := 88) rfl ?_); refine goesL_ (some 30) rfl rfl Try.func88 (by kernel_rfl) rfl #[.slice Ao17 x7_1.length co17] rfl mX ?_; (with_reducible refine (fp_Trim.calls k1 (fun k_ => some k_ = (.slice Ao17 x7_1.length co17 : Value).ownBlock) _ _ x7_1 t176 _ ?side1 A16.out).mono ?_); (case side1 => exact Kd.R_V (Kd.R_tight rfl (HO_7.out))); rintro e w18 ⟨v177, rfl, ho0, hb⟩; refine ⟨_, rfl, ?_⟩; have n0_ := ak (Kd.R_below (rX HO_7.out) hb); have n1_ := ak (Kd.V_lower (Kd.V_mono (ok' := fun k_ => (w.heap.size ≤ k_)) ho0 (fun k_ hk_ => Or.elim hk_ (fun hs_ => ((HO_7.out).1 k_ hs_.symm)) (fun hn_ => (Nat.le_trans (below_size bX) hn_)))) (below_size bX)); have n2_ := ak (below_step bX hb); clear HO_7; clear HB; have HO_7 := n0_; have HO178 := n1_; have HB := n2_; clear n0_ n1_ n2_; (try clear hb); (try clear hb2); (try clear hk); (try clear hi); (try clear ho0)))
           go_ret
           exact ⟨_, by first | rfl | (simp [errW_none, errW_some] <;> rfl) | (simp [*, errW_none, errW_some] <;> rfl), by (with_reducible repeat (first | apply vA | apply vB | apply vC)); exact HO178.out, by repeat (first | (with_reducible first | exact HB.out | apply bA | apply bB | apply bC) | exact HB.out)⟩
   · rw [if_neg c5] at H
     exact absurd H (by simp)
 · rw [if_neg c4] at H
   exact absurd H (by simp)

/-! ### fp_Monic: function 80 -/
def fp_Monic.f (k : Nat) (a0 : Int) (l1 : List Int) : Option (List Int) := if (l1.length : Int) = 0 then (some ([] : List Int)) else (if 0 ≤ (wrap64 ((l1.length : Int) - 1)) then (if (wrap64 ((l1.length : Int) - 1)) < (l1.length : Int) then ((fp_Inv.f k a0 (rd l1 (wrap64 ((l1.length : Int) - 1)))).bind fun t180 => ((fp_Scale.f k a0 l1 t180).bind fun t181 => (some t181))) else (none)) else (none))
theorem fp_Monic.mono : ∀ a0 a1 k, LeO (fp_Monic.f k a0 a1) (fp_Monic.f (k + 1) a0 a1) := by
 intro a0 a1 k
 unfold fp_Monic.f
 repeat' first
  | (with_reducible apply fp_Inv.mono)
  | (with_reducible apply fp_Scale.mono)
  | (with_reducible apply LeO.refl)
  | (with_reducible apply LeO.none)
  | (with_reducible refine LeO.ite ?_ ?_)
  | (with_reducible refine LeO.bind ?_ (fun _ => ?_))
set_option maxHeartbeats 8000000 in
set_option maxRecDepth 100000 in
theorem fp_Monic.calls (k : Nat) (a0 : Int) (A1 : Option Addr) (c1 : Nat) (l1 : List Int) (r : List Int) (w : World) (hr1 : Kd.C (Kd.int .i64) w A1 l1.length l1) (hc1 : l1.length ≤ c1) (h : fp_Monic.f k a0 l1 = some r) :
 Calls Try.prog 80 #[.int .i64 a0, .slice A1 l1.length c1] w fun e w' => ∃ v0_ : Value, e = .returned (v0_) ∧ Kd.V (Kd.int .i64) 3 w' w.heap.size (fun k_ => (w.heap.size ≤ k_)) v0_ r ∧ Below w.heap.size w w' := by
 have HR1 := ak hr1
 have HC1 := ak hc1
 clear hr1 hc1
 have HB := ak (Below.refl w.heap.size w)
 have H : (if (l1.length : Int) = 0 then (some ([] : List Int)) else (if 0 ≤ (wrap64 ((l1.length : Int) - 1)) then (if (wrap64 ((l1.length : Int) - 1)) < (l1.length : Int) then ((fp_Inv.f k a0 (rd l1 (wrap64 ((l1.length : Int) - 1)))).bind fun t180 => ((fp_Scale.f k a0 l1 t180).bind fun t181 => (some t181))) else (none)) else (none))) = some r := h
 clear h
 by_cases c3 : (l1.length : Int) = 0
 · rw [if_pos c3] at H
   have c3b0 : ((l1.length : Int) == 0) = true := beq_iff_eq.mpr c3
   have c3b1 : ((l1.length : Int) != 0) = false := bne_eq_false_iff_eq.mpr c3
   clear c3
   as_aux_lemma =>
    obtain rfl := Option.some.inj H
    go_enter Try.func80, Try.ntmps80
    go_wp2
    go_ret
    exact ⟨(.slice none 0 0), by first | rfl | (simp [errW_none, errW_some] <;> rfl) | (simp [*, errW_none, errW_some] <;> rfl), (Kd.V_nil _ _ _ _ _), by repeat (first | (with_reducible first | exact HB.out | apply bA | apply bB | apply bC) | exact HB.out)⟩
 · rw [if_neg c3] at H
   have c3b0 : ((l1.length : Int) == 0) = false := beq_eq_false_iff_ne.mpr c3
   have c3b1 : ((l1.length : Int) != 0) = true := bne_iff_ne.mpr c3
   have c3b2 : ¬ (l1 = []) := fun h_ => c3 (by rw [h_]; rfl)
   obtain ⟨ji4, hji4⟩ : ∃ j_ : Int, (wrap64 ((l1.length : Int) - 1)) = j_ := ⟨_, rfl⟩
   replace H : (if 0 ≤ (ji4) then (if (ji4) < (l1.length : Int) then ((fp_Inv.f k a0 (rd l1 (ji4))).bind fun t180 => ((fp_Scale.f k a0 l1 t180).bind fun t181 => (some t181))) else (none)) else (none)) = some r := by first | (rw [hji4] at H; exact H) | (simp only [hji4] at H ⊢; exact H)
   have hji4w : (IntKind.i64.wrap ((l1.length : Int) - 1)) = ji4 := (i64_w _).trans hji4
   by_cases c5 : 0 ≤ (ji4)
   · rw [if_pos c5] at H
     have c5b0 : decide (0 ≤ (ji4)) = true := decide_eq_true c5
     clear c5
     by_cases c6 : (ji4) < (l1.length : Int)
     · rw [if_pos c6] at H
       have c6b0 : decide ((ji4) < (l1.length : Int)) = true := decide_eq_true c6
       clear c6
       replace H := Option.bind_eq_some_iff.mp H
       obtain ⟨t180, A70, H⟩ := H
       replace H : ((fp_Scale.f k a0 l1 t180).bind fun t181 => (some t181)) = some r := H
       have A7 := ak A70
       clear A70
       replace H := Option.bind_eq_some_iff.mp H
       obtain ⟨t181, A80, H⟩ := H
       replace H : (some t181) = some r := H
       have A8 := ak A80
       clear A80
       as_aux_lemma =>
        obtain rfl := Option.some.inj H
        have p179 : 0 ≤ ((ji4) : Int) := of_decide_eq_true aX
        have q179 : (ji4) < (l1.length : Int) := of_decide_eq_true aX
        obtain ⟨ad179, e179, hx179_0⟩ := Kd.at_int HR1.out (ji4) p179 q179
        cases e179
        replace p179 := eq_true p179
        replace q179 := eq_true q179
        go_enter Try.func80, Try.ntmps80
        go_wp2_with (first | ((with_reducible refine gate_callee (f := 108) rfl ?_); refine goesL_ (some 17) rfl rfl Try.func108 (by kernel_rfl) rfl #[.int .i64 a0, .int .i64 (rd l1 (ji4))] rfl (by (try simp only [List.map_toArray, List.map_cons, List.map_nil]); first | done | (simp only [hji4]; rfl) | rfl | (simp only [List.length_drop, List.length_take]; rfl)) ?_; (with_reducible refine (fp_Inv.calls k a0 (rd l1 (ji4)) t180 _ A7.out).mono ?_); rintro e w' ⟨rfl, ⟨nd, rfl⟩⟩; refine ⟨_, rfl, ?_⟩) | ((with_reducible refine gate_callee (f := 90) rfl ?_); refine goesL_ (some 18) rfl rfl Try.func90 (by kernel_rfl) rfl #[.int .i64 a0, .slice (some ad179) l1.length c1, .int .i64 t180] rfl mX ?_; (with_reducible refine (fp_Scale.calls k a0 _ _ l1 t180 t181 _ ?side1 ?side2 A8.out).mono ?_); (case side1 => repeat (first | exact HR1.out | (with_reducible first | apply cA | apply cB | apply cC))); (case side2 => exact HC1.out); rintro e w9 ⟨v182, rfl, ho0, hb⟩; refine ⟨_, rfl, ?_⟩; have n0_ := ak (Kd.V_lower (Kd.V_mono (ok' := fun k_ => (w.heap.size ≤ k_)) ho0 (fun k_ hk_ => (Nat.le_trans (below_size bX) hk_))) (below_size bX)); have n1_ := ak (below_step bX hb); clear HB; have HO183 := n0_; have HB := n1_; clear n0_ n1_; (try clear hb); (try clear hb2); (try clear hk); (try clear hi); (try clear ho0)))
        go_ret
        exact ⟨_, by first | rfl | (simp [errW_none, errW_some] <;> rfl) | (simp only [← hji4]; first | rfl | (simp [errW_none, errW_some] <;> rfl)) | (simp [*, errW_none, errW_some] <;> rfl), by (with_reducible repeat (first | apply vA | apply vB | apply vC)); exact HO183.out, by repeat (first | (with_reducible first | exact HB.out | apply bA | apply bB | apply bC) | exact HB.out)⟩
     · rw [if_neg c6] at H
       exact absurd H (by simp)
   · rw [if_neg c5] at H
     exact absurd H (by simp)

/-! ### fp_Gcd: function 81 -/
def fp_Gcd.l0 : Nat → Int → List Int → List Int → Option (List Int)
 | 0, _, _, _ => none
 | k + 1, x0, x1, x2 => if (x2.length : Int) > 0 then ((fp_Rem.f k x0 x1 x2).bind fun t184 => (fp_Gcd.l0 k x0 x2 t184)) else ((fp_Monic.f k x0 x1).bind fun t187 => (some t187))
def fp_Gcd.f (k : Nat) (a0 : Int) (l1 : List Int) (l2 : List Int) : Option (List Int) := fp_Gcd.l0 k a0 l1 l2
theorem fp_Gcd.mono_l : ∀ k, (∀ y0 y1 y2, LeO (fp_Gcd.l0 k y0 y1 y2) (fp_Gcd.l0 (k + 1) y0 y1 y2))
 | 0 => fun _ _ _ r h => by simp [fp_Gcd.l0] at h
 | k + 1 => by
   have ih0 := fp_Gcd.mono_l k
   · intro y0 y1 y2
     unfold fp_Gcd.l0
     repeat' first
     | (with_reducible apply ih0)
     | (with_reducible apply fp_Monic.mono)
     | (with_reducible apply fp_Rem.mono)
     | (with_reducible apply LeO.refl)
     | (with_reducible apply LeO.none)
     | (with_reducible refine LeO.ite ?_ ?_)
     | (with_reducible refine LeO.bind ?_ (fun _ => ?_))
theorem fp_Gcd.mono : ∀ a0 a1 a2 k, LeO (fp_Gcd.f k a0 a1 a2) (fp_Gcd.f (k + 1) a0 a1 a2) := by
 intro a0 a1 a2 k
 have ih0 := fp_Gcd.mono_l k
 unfold fp_Gcd.f
 repeat' first
  | (with_reducible apply ih0)
  | (with_reducible apply fp_Monic.mono)
  | (with_reducible apply fp_Rem.mono)
  | (with_reducible apply LeO.refl)
  | (with_reducible apply LeO.none)
  | (with_reducible refine LeO.ite ?_ ?_)
  | (with_reducible refine LeO.bind ?_ (fun _ => ?_))
set_option maxHeartbeats 8000000 in
set_option maxRecDepth 100000 in
theorem fp_Gcd.calls (k : Nat) (a0 : Int) (P1_ : Nat → Prop) (A1 : Option Addr) (c1 : Nat) (l1 : List Int) (P2_ : Nat → Prop) (A2 : Option Addr) (c2 : Nat) (l2 : List Int) (r : List Int) (w : World) (hs1 : Kd.V (Kd.int .i64) 3 w w.heap.size (fun k_ => P1_ k_) (.slice A1 l1.length c1) l1) (hs2 : Kd.V (Kd.int .i64) 3 w w.heap.size (fun k_ => P2_ k_) (.slice A2 l2.length c2) l2) (h : fp_Gcd.f k a0 l1 l2 = some r) :
 Calls Try.prog 81 #[.int .i64 a0, .slice A1 l1.length c1, .slice A2 l2.length c2] w fun e w' => ∃ v0_ : Value, e = .returned (v0_) ∧ Kd.V (Kd.int .i64) 3 w' w.heap.size (fun k_ => ((P1_ k_ ∨ P2_ k_) ∨ w.heap.size ≤ k_)) v0_ r ∧ Below w.heap.size w w' := by
 have HO1 := ak (show Kd.V (Kd.int .i64) 3 w w.heap.size (fun k_ => ((P1_ k_ ∨ P2_ k_) ∨ w.heap.size ≤ k_)) (.slice A1 l1.length c1) l1 from Kd.V_mono hs1 (fun k_ hk => .inl (.inl hk)))
 have HO2 := ak (show Kd.V (Kd.int .i64) 3 w w.heap.size (fun k_ => ((P1_ k_ ∨ P2_ k_) ∨ w.heap.size ≤ k_)) (.slice A2 l2.length c2) l2 from Kd.V_mono hs2 (fun k_ hk => .inl (.inr hk)))
 have HB := ak (Below.refl w.heap.size w)
 have H : (fp_Gcd.l0 k a0 l1 l2) = some r := h
 clear h
 have H' := ak H
 clear H
 go_enter Try.func81, Try.ntmps81
 go_wp2
 go_loopg [1, 2] k (fun kq v1 v2 w' => ∃ (x1_1 : List Int) (x2_1 : List Int), Aside0 (fp_Gcd.l0 kq a0 x1_1 x2_1 = some r) ∧ Aside0 (kq ≤ k) ∧ Aside0 (Kd.V (Kd.int .i64) 3 w' w.heap.size (fun k_ => ((P1_ k_ ∨ P2_ k_) ∨ w.heap.size ≤ k_)) v1 x1_1) ∧ Aside0 (Kd.V (Kd.int .i64) 3 w' w.heap.size (fun k_ => ((P1_ k_ ∨ P2_ k_) ∨ w.heap.size ≤ k_)) v2 x2_1) ∧ Aside0 (Below w.heap.size w w'))
 case atStart => exact ⟨(l1), (l2), H', ⟨Nat.le_refl _⟩, ⟨by (with_reducible repeat (first | apply vA | apply vB | apply vC)); exact HO1.out⟩, ⟨by (with_reducible repeat (first | apply vA | apply vB | apply vC)); exact HO2.out⟩, ⟨by repeat (first | (with_reducible first | exact HB.out | apply bA | apply bB | apply bC) | exact HB.out)⟩⟩
 case round =>
  clear H'
  try clear c1
  try clear c2
  try clear p2
  obtain ⟨x1_1, x2_1, HA, HK1, HO_1, HO_2, HB⟩ := hrel
  cases gk with
  | zero => exact absurd HA.out (by simp [fp_Gcd.l0])
  | succ k1 =>
    have H := HA.out
    clear HA
    simp only [fp_Gcd.l0] at H
    by_cases c4 : (x2_1.length : Int) > 0
    · rw [if_pos c4] at H
      have c4b0 : decide (0 < (x2_1.length : Int)) = true := decide_eq_true c4
      have c4b1 : decide (0 < x2_1.length) = true := decide_eq_true (by omega)
      clear c4
      replace H := Option.bind_eq_some_iff.mp H
      obtain ⟨t184, A50, H⟩ := H
      replace H : (fp_Gcd.l0 k1 a0 x2_1 t184) = some r := H
      have A5 := ak A50
      clear A50
      as_aux_lemma =>
       have H' := ak H
       clear H
       obtain ⟨Ao6, co6, eo6⟩ := Kd.V_slice HO_2.out
       subst eo6
       obtain ⟨Ao7, co7, eo7⟩ := Kd.V_slice HO_1.out
       subst eo7
       go_wp2_with (first | ((with_reducible refine gate_callee (f := 70) rfl ?_); refine goesL_ (some 14) rfl rfl Try.func70 (by kernel_rfl) rfl #[.int .i64 a0, .slice Ao7 x1_1.length co7, .slice Ao6 x2_1.length co6] rfl mX ?_; (with_reducible refine (fp_Rem.calls k1 a0 _ _ x1_1 _ _ x2_1 t184 _ ?side1 ?side2 ?side3 ?side4 A5.out).mono ?_); (case side1 => exact cX (Kd.V_reads' HO_1.out).2.2); (case side2 => exact (Kd.V_reads' HO_1.out).2.1); (case side3 => exact cX (Kd.V_reads' HO_2.out).2.2); (case side4 => exact (Kd.V_reads' HO_2.out).2.1); rintro e w8 ⟨v185, rfl, ho0, hb⟩; refine ⟨_, rfl, ?_⟩; have n0_ := ak (Kd.V_below (vX HO_1.out) hb); have n1_ := ak (Kd.V_below (vX HO_2.out) hb); have n2_ := ak (Kd.V_lower (Kd.V_mono (ok' := fun k_ => ((P1_ k_ ∨ P2_ k_) ∨ w.heap.size ≤ k_)) ho0 (fun k_ hk_ => (.inr (Nat.le_trans (below_size bX) hk_)))) (below_size bX)); have n3_ := ak (below_step bX hb); clear HO_1; clear HO_2; clear HB; have HO_1 := n0_; have HO_2 := n1_; have HO186 := n2_; have HB := n3_; clear n0_ n1_ n2_ n3_; (try clear hb); (try clear hb2); (try clear hk); (try clear hi); (try clear ho0)))
       (first | go_roundg k1 | (refine Handed.intro k1 ?measure ?_; rotate_left; go_step; (repeat rw [add_plain]); (repeat apply Exists.intro); refine ⟨?rel, rfl⟩))
       case measure => have := HK1.out; omega
       case rel => exact ⟨(x2_1), (t184), H', ⟨by have := HK1.out; omega⟩, ⟨by (with_reducible repeat (first | apply vA | apply vB | apply vC)); exact HO_2.out⟩, ⟨by (with_reducible repeat (first | apply vA | apply vB | apply vC)); exact HO186.out⟩, ⟨by repeat (first | (with_reducible first | exact HB.out | apply bA | apply bB | apply bC) | exact HB.out)⟩⟩
    · rw [if_neg c4] at H
      have c4b0 : decide (0 < (x2_1.length : Int)) = false := decide_eq_false c4
      have c4b1 : decide (0 < x2_1.length) = false := decide_eq_false (by omega)
      clear c4
      replace H := Option.bind_eq_some_iff.mp H
      obtain ⟨t187, A90, H⟩ := H
      replace H : (some t187) = some r := H
      have A9 := ak A90
      clear A90
      as_aux_lemma =>
       obtain rfl := Option.some.inj H
       obtain ⟨Ao10, co10, eo10⟩ := Kd.V_slice HO_2.out
       subst eo10
       obtain ⟨Ao11, co11, eo11⟩ := Kd.V_slice HO_1.out
       subst eo11
       go_wp2_with (first | ((with_reducible refine gate_callee (f := 80) rfl ?_); refine goesL_ (some 17) rfl rfl Try.func80 (by kernel_rfl) rfl #[.int .i64 a0, .slice Ao11 x1_1.length co11] rfl mX ?_; (with_reducible refine (fp_Monic.calls k1 a0 _ _ x1_1 t187 _ ?side1 ?side2 A9.out).mono ?_); (case side1 => exact cX (Kd.V_reads' HO_1.out).2.2); (case side2 => exact (Kd.V_reads' HO_1.out).2.1); rintro e w12 ⟨v188, rfl, ho0, hb⟩; refine ⟨_, rfl, ?_⟩; have n0_ := ak (Kd.V_below (vX HO_1.out) hb); have n1_ := ak (Kd.V_below (vX HO_2.out) hb); have n2_ := ak (Kd.V_lower (Kd.V_mono (ok' := fun k_ => ((P1_ k_ ∨ P2_ k_) ∨ w.heap.size ≤ k_)) ho0 (fun k_ hk_ => (.inr (Nat.le_trans (below_size bX) hk_)))) (below_size bX)); have n3_ := ak (below_step bX hb); clear HO_1; clear HO_2; clear HB; have HO_1 := n0_; have HO_2 := n1_; have HO189 := n2_; have HB := n3_; clear n0_ n1_ n2_ n3_; (try clear hb); (try clear hb2); (try clear hk); (try clear hi); (try clear ho0)))
       go_ret
       exact ⟨_, by first | rfl | (simp [errW_none, errW_some] <;> rfl) | (simp [*, errW_none, errW_some] <;> rfl), by (with_reducible repeat (first | apply vA | apply vB | apply vC)); exact HO189.out, by repeat (first | (with_reducible first | exact HB.out | apply bA | apply bB | apply bC) | exact HB.out)⟩

end Go.Proofs.Ytmknclgamadphaa.PPolymodPrimes
