-- WRITTEN BY sprint.py (a program of this repo, over the kit's print.py): nothing here is trusted, Lean checks it.
import Derived.Test.YtmknclgamadphaaPPolymodSumsx0
import Derived.Test.YtmknclgamadphaaPPolymodSumsx8
import Derived.Test.YtmknclgamadphaaPPolymodSumsx9
namespace Go.Proofs.Ytmknclgamadphaa.PPolymodSums
open Go.RowKit Go.Proofs.YtmknclgamadphaaW.PrintWords Go.Proofs.YtmknclgamadphaaW.PrintLast Go.Proofs.YtmknclgamadphaaW.PrintMore
attribute [local go_sem] max2_int min2_int max_two min_two max_three min_three max_four min_four   -- for this text's walks alone
set_option linter.unusedVariables false
set_option linter.unusedSimpArgs false

/-! ### galoisref09_Copy: function 84 -/
def galoisref09_Copy.f (l0 : List Int) : Option (List Int) := (some (([] : List Int) : List Int)).bind fun y427 => (if y427.length + l0.length < 17592186044416 then (some (y427 ++ l0)) else (none))
set_option maxHeartbeats 8000000 in
set_option maxRecDepth 100000 in
theorem galoisref09_Copy.calls (A0 : Option Addr) (c0 : Nat) (l0 : List Int) (r : List Int) (w : World) (hr0 : Kd.C (Kd.int .i64) w A0 l0.length l0) (hc0 : l0.length ≤ c0) (h : galoisref09_Copy.f l0 = some r) :
 Calls Try.prog 84 #[.slice A0 l0.length c0] w fun e w' => ∃ v0_ : Value, e = .returned (v0_) ∧ Kd.R (Kd.int .i64) 3 w' w.heap.size (fun _ => True) v0_ r ∧ Below w.heap.size w w' := by
 have HR0 := Aside0.mk hr0
 have HC0 := Aside0.mk hc0
 clear hr0 hc0
 have HB := Aside0.mk (Below.refl w.heap.size w)
 have H : ((some (([] : List Int) : List Int)).bind fun y427 => (if y427.length + l0.length < 17592186044416 then (some (y427 ++ l0)) else (none))) = some r := h
 clear h
 obtain ⟨y427, hy427⟩ : ∃ y_ : List Int, y_ = (([] : List Int)) := ⟨_, rfl⟩
 replace H : (if y427.length + l0.length < 17592186044416 then (some (y427 ++ l0)) else (none)) = some r := by first | (rw [hy427]; with_reducible exact H) | (have H2_ := (Option.bind_some _ _).symm.trans H; rw [hy427]; with_reducible exact H2_) | (have H2_ := (Option.bind_some _ _).symm.trans H; with_reducible exact H2_) | with_reducible exact H | (rw [hy427]; exact H) | exact H
 have Ny427 := Aside0.mk hy427
 clear hy427
 by_cases c2 : y427.length + l0.length < 17592186044416
 · rw [if_pos c2] at H
   have LMc2 := Aside0.mk c2
   clear c2
   obtain ⟨y430, hy430⟩ : ∃ y_ : List Int, y_ = (y427 ++ l0) := ⟨_, rfl⟩
   replace H : (some y430) = some r := by first | (rw [hy430]; with_reducible exact H) | (have H2_ := (Option.bind_some _ _).symm.trans H; rw [hy430]; with_reducible exact H2_) | (have H2_ := (Option.bind_some _ _).symm.trans H; with_reducible exact H2_) | with_reducible exact H | (rw [hy430]; exact H) | exact H
   have Ny430 := Aside0.mk hy430
   clear hy430
   obtain rfl := Option.some.inj H
   go_enter Try.func84, Try.ntmps84
   go_wp2_with (first | ((with_reducible refine gate_dst (N := 3) rfl ?_); refine Kd.R_lit (Kd.int .i64) _ 3 ?hg (N := 3) ?hd (xs := ([] : List Int)) (inner := []) (ok := fun _ => True) (okp := fun _ => True) ?hr ?hp (fun _ hk => hk) trivial (Below.refl _ _) (Nat.le_refl _) (by simp) ?_; (case hd => rfl); (case hg => rfl); (case hr => first | (go_simp; done) | (go_simp; rfl)); (case hp => exact (Reps.none _ _)); intro v428 w3 ho4 hb hg_ hnew_; clear hg_ hnew_; (first | rw [← Ny427.out] at ho4 | (simp only [Int.reduceToNat] at ho4; rw [← Ny427.out] at ho4)); have n0_ := Aside0.mk (Kd.R_lower ho4 (below_size (by with_reducible repeat (first | exact HB.out | apply bA | apply bB | apply bC)))); have n1_ := Aside0.mk (below_step (by with_reducible repeat (first | exact HB.out | apply bA | apply bB | apply bC)) hb); clear HB; have HO429 := n0_; have HB := n1_; clear n0_ n1_; clear hb ho4) | ((with_reducible refine gate_builtin (b := .append) (xs := #[.tmp 3, .tmp 4]) rfl ?_); at_builtin; refine Kd.R_append_rows (Kd.int .i64) (w0 := w) w.heap.size rfl (.tmp 3) (.tmp 4) 23 3 (.int .i64 0) 8 rfl Try.underlying23 info3 rfl (by decide) (by omega) v428 y427 l0 _ _ _ (fun _ => True) (fun _ => False) rfl rfl ?aO ?aR (fun _ _ h => h) (fun _ h => h.elim) ?aF ?aB ?aS ?aL ?_; (case aR => repeat (first | exact (Kd.C_below HR0.out HB.out) | (with_reducible refine Kd.C_alloc ?_ _) | (with_reducible refine Kd.C_drewN ?_ _) | (with_reducible refine Kd.C_drew ?_))); (case aB => exact (by with_reducible repeat (first | exact HB.out | apply bA | apply bB | apply bC))); (case aF => exact (fun _ _ => trivial)); (case aO => exact (by (with_reducible repeat (first | apply Kd.R_alloc | apply Kd.R_drewN | apply Kd.R_drew)); exact HO429.out)); (case aS => exact (below_size (by with_reducible repeat (first | exact HB.out | apply bA | apply bB | apply bC)))); (case aL => have := LMc2.out; omega); intro v431 w5 ho hb hg hat; rw [← Ny430.out] at ho; have n0_ := Aside0.mk (hb); have n1_ := Aside0.mk (ho); clear HB; clear HO429; have HB := n0_; have HO432 := n1_; clear n0_ n1_; clear ho hb hg hat))
   go_ret
   exact ⟨_, by first | rfl | (simp [errW_none, errW_some] <;> rfl) | (simp [*, errW_none, errW_some] <;> rfl), by (with_reducible repeat (first | apply Kd.R_alloc | apply Kd.R_drewN | apply Kd.R_drew)); exact HO432.out, by with_reducible repeat (first | exact HB.out | apply bA | apply bB | apply bC)⟩
 · rw [if_neg c2] at H
   exact absurd H (by simp)

/-! ### galoisref04_Mod: function 91 -/
def galoisref04_Mod.f (a0 : Int) (a1 : Int) : Option (Int) := if a1 = 0 then (none) else (some (Int.tmod (wrap64 ((Int.tmod a0 a1) + a1)) a1))
set_option maxHeartbeats 8000000 in
set_option maxRecDepth 100000 in
theorem galoisref04_Mod.calls (a0 : Int) (a1 : Int) (r : Int) (w : World) (h : galoisref04_Mod.f a0 a1 = some r) :
 Calls Try.prog 91 #[.int .i64 a0, .int .i64 a1] w fun e w' => e = .returned (.int .i64 r) ∧ Drawn0 w w' := by
 have H : (if a1 = 0 then (none) else (some (Int.tmod (wrap64 ((Int.tmod a0 a1) + a1)) a1))) = some r := h
 clear h
 by_cases c3 : a1 = 0
 · rw [if_pos c3] at H
   exact absurd H (by simp)
 · rw [if_neg c3] at H
   have c3b0 : (a1 == 0) = false := beq_eq_false_iff_ne.mpr c3
   have c3b1 : (a1 != 0) = true := bne_iff_ne.mpr c3
   obtain rfl := Option.some.inj H
   go_enter Try.func91, Try.ntmps91
   go_wp2
   go_ret
   exact ⟨by first | rfl | (simp; done) | (simp [*]; done), by repeat (first | exact Drawn0.refl _ | apply Drawn0.step)⟩

/-! ### galoisref09_Scale: function 45 -/
def galoisref09_Scale.l0 : Nat → Int → Int → List Int → Int → Option (List Int)
 | 0, _, _, _, _ => none
 | k + 1, x0, x2, x7, x8 => if x8 < (x7.length : Int) then (if 0 ≤ x8 then (if x0 = 0 then (none) else (galoisref09_Scale.l0 k x0 x2 (x7.set (x8 : Int).toNat (Int.tmod (wrap64 ((rd x7 x8) * x2)) x0)) (wrap64 (x8 + 1)))) else (none)) else ((galoisref09_Trim.f k x7).bind fun t439 => (some t439))
def galoisref09_Scale.f (k : Nat) (a0 : Int) (l1 : List Int) (a2 : Int) : Option (List Int) := (galoisref04_Mod.f a2 a0).bind fun t433 => ((galoisref09_Copy.f l1).bind fun t434 => (galoisref09_Scale.l0 k a0 t433 t434 0))
theorem galoisref09_Scale.mono_l : ∀ k, (∀ y0 y1 y2 y3, LeO (galoisref09_Scale.l0 k y0 y1 y2 y3) (galoisref09_Scale.l0 (k + 1) y0 y1 y2 y3))
 | 0 => fun _ _ _ _ r h => by simp [galoisref09_Scale.l0] at h
 | k + 1 => by
   have ih0 := galoisref09_Scale.mono_l k
   · intro y0 y1 y2 y3
     unfold galoisref09_Scale.l0
     repeat' first
     | (with_reducible apply ih0)
     | (with_reducible apply galoisref09_Trim.mono)
     | (with_reducible apply LeO.refl)
     | (with_reducible apply LeO.none)
     | (with_reducible refine LeO.ite ?_ ?_)
     | (with_reducible refine LeO.bind ?_ (fun _ => ?_))
theorem galoisref09_Scale.mono : ∀ a0 a1 a2 k, LeO (galoisref09_Scale.f k a0 a1 a2) (galoisref09_Scale.f (k + 1) a0 a1 a2) := by
 intro a0 a1 a2 k
 have ih0 := galoisref09_Scale.mono_l k
 unfold galoisref09_Scale.f
 repeat' first
  | (with_reducible apply ih0)
  | (with_reducible apply galoisref09_Trim.mono)
  | (with_reducible apply LeO.refl)
  | (with_reducible apply LeO.none)
  | (with_reducible refine LeO.ite ?_ ?_)
  | (with_reducible refine LeO.bind ?_ (fun _ => ?_))
set_option maxHeartbeats 8000000 in
set_option maxRecDepth 100000 in
theorem galoisref09_Scale.calls (k : Nat) (a0 : Int) (A1 : Option Addr) (c1 : Nat) (l1 : List Int) (a2 : Int) (r : List Int) (w : World) (hr1 : Kd.C (Kd.int .i64) w A1 l1.length l1) (hc1 : l1.length ≤ c1) (h : galoisref09_Scale.f k a0 l1 a2 = some r) :
 Calls Try.prog 45 #[.int .i64 a0, .slice A1 l1.length c1, .int .i64 a2] w fun e w' => ∃ v0_ : Value, e = .returned (v0_) ∧ Kd.V (Kd.int .i64) 3 w' w.heap.size (fun k_ => (w.heap.size ≤ k_)) v0_ r ∧ Below w.heap.size w w' := by
 have HR1 := Aside0.mk hr1
 have HC1 := Aside0.mk hc1
 clear hr1 hc1
 have HB := Aside0.mk (Below.refl w.heap.size w)
 have H : ((galoisref04_Mod.f a2 a0).bind fun t433 => ((galoisref09_Copy.f l1).bind fun t434 => (galoisref09_Scale.l0 k a0 t433 t434 0))) = some r := h
 clear h
 replace H := Option.bind_eq_some_iff.mp H
 obtain ⟨t433, A40, H⟩ := H
 replace H : ((galoisref09_Copy.f l1).bind fun t434 => (galoisref09_Scale.l0 k a0 t433 t434 0)) = some r := H
 have A4 := Aside0.mk A40
 clear A40
 replace H := Option.bind_eq_some_iff.mp H
 obtain ⟨t434, A50, H⟩ := H
 replace H : (galoisref09_Scale.l0 k a0 t433 t434 0) = some r := H
 have A5 := Aside0.mk A50
 clear A50
 have H' := Aside0.mk H
 clear H
 go_enter Try.func45, Try.ntmps45
 go_wp2_with (first | ((with_reducible refine gate_callee (f := 91) rfl ?_); refine goesL_ (some 11) rfl rfl Try.func91 (by kernel_rfl) rfl #[.int .i64 a2, .int .i64 a0] rfl (by (try simp only [mA, mB, mC]); first | done | rfl | (simp only [lD, lT]; rfl)) ?_; (with_reducible refine (galoisref04_Mod.calls a2 a0 t433 _ A4.out).mono ?_); rintro e w' ⟨rfl, ⟨nd, rfl⟩⟩; refine ⟨_, rfl, ?_⟩) | ((with_reducible refine gate_callee (f := 84) rfl ?_); refine goesL_ (some 13) rfl rfl Try.func84 (by kernel_rfl) rfl #[.slice A1 l1.length c1] rfl (by (try simp only [mA, mB, mC]); first | done | rfl | (simp only [lD, lT]; rfl)) ?_; (with_reducible refine (galoisref09_Copy.calls _ _ l1 t434 _ ?side1 ?side2 A5.out).mono ?_); (case side1 => repeat (first | exact HR1.out | (with_reducible refine Kd.C_alloc ?_ _) | (with_reducible refine Kd.C_drewN ?_ _) | (with_reducible refine Kd.C_drew ?_))); (case side2 => exact HC1.out); rintro e w6 ⟨v435, rfl, ho0, hb⟩; refine ⟨_, rfl, ?_⟩; have n0_ := Aside0.mk (Kd.R_lower (Kd.R_newM (M := fun k_ => (w.heap.size ≤ k_)) ho0 (below_size (by with_reducible repeat (first | exact HB.out | apply bA | apply bB | apply bC))) (fun k_ h_ => h_)) (below_size (by with_reducible repeat (first | exact HB.out | apply bA | apply bB | apply bC)))); have n1_ := Aside0.mk (below_step (by with_reducible repeat (first | exact HB.out | apply bA | apply bB | apply bC)) hb); clear HB; have HO436 := n0_; have HB := n1_; clear n0_ n1_; (try clear hb); (try clear hb2); (try clear hk); (try clear hi); (try clear ho0)))
 go_loopg [8] k (fun kq v8 w' => ∃ (x7_1 : List Int) (x8_1 : Int), v8 = .int .i64 x8_1 ∧ Aside0 (galoisref09_Scale.l0 kq a0 t433 x7_1 x8_1 = some r) ∧ Aside0 (kq ≤ k) ∧ Aside0 (Kd.R (Kd.int .i64) 3 w' w.heap.size (fun k_ => (w.heap.size ≤ k_)) v435 x7_1) ∧ Aside0 (Below w.heap.size w w'))
 case atStart => exact ⟨(t434), (0), (by first | rfl | (simp; done) | (simp [*]; done)), H', ⟨Nat.le_refl _⟩, ⟨by (with_reducible repeat (first | apply Kd.R_alloc | apply Kd.R_drewN | apply Kd.R_drew)); exact Kd.R_mono HO436.out (fun _ hk => hk.1)⟩, ⟨by with_reducible repeat (first | exact HB.out | apply bA | apply bB | apply bC)⟩⟩
 case round =>
  clear H'
  try clear c1
  try clear p2
  try clear c4
  obtain ⟨x7_1, x8_1, rfl, HA, HK1, HO_7, HB⟩ := hrel
  cases gk with
  | zero => exact absurd HA.out (by simp [galoisref09_Scale.l0])
  | succ k1 =>
    have H := HA.out
    clear HA
    simp only [galoisref09_Scale.l0] at H
    by_cases c7 : x8_1 < (x7_1.length : Int)
    · rw [if_pos c7] at H
      have c7b0 : decide (x8_1 < (x7_1.length : Int)) = true := decide_eq_true c7
      clear c7
      by_cases c8 : 0 ≤ x8_1
      · rw [if_pos c8] at H
        have c8b0 : decide (0 ≤ x8_1) = true := decide_eq_true c8
        clear c8
        by_cases c9 : a0 = 0
        · rw [if_pos c9] at H
          exact absurd H (by simp)
        · rw [if_neg c9] at H
          have c9b0 : (a0 == 0) = false := beq_eq_false_iff_ne.mpr c9
          have c9b1 : (a0 != 0) = true := bne_iff_ne.mpr c9
          obtain ⟨y438, hy438⟩ : ∃ y_ : List Int, y_ = (x7_1.set (x8_1 : Int).toNat (Int.tmod (wrap64 ((rd x7_1 x8_1) * t433)) a0)) := ⟨_, rfl⟩
          replace H : (galoisref09_Scale.l0 k1 a0 t433 y438 (wrap64 (x8_1 + 1))) = some r := by first | (rw [hy438]; with_reducible exact H) | (have H2_ := (Option.bind_some _ _).symm.trans H; rw [hy438]; with_reducible exact H2_) | (have H2_ := (Option.bind_some _ _).symm.trans H; with_reducible exact H2_) | with_reducible exact H | (rw [hy438]; exact H) | exact H
          have Ny438 := Aside0.mk hy438
          clear hy438
          have H' := Aside0.mk H
          clear H
          obtain ⟨Ao11, co11, eo11⟩ := Kd.R_slice HO_7.out
          subst eo11
          have p437 : 0 ≤ (x8_1 : Int) := of_decide_eq_true (by first | (with_reducible assumption) | assumption)
          have q437 : x8_1 < (x7_1.length : Int) := of_decide_eq_true (by first | (with_reducible assumption) | assumption)
          obtain ⟨ad437, e437, hx437_0⟩ := Kd.at_int (Kd.R_reads' HO_7.out).2.2 x8_1 p437 q437
          cases e437
          replace p437 := eq_true p437
          replace q437 := eq_true q437
          have p10 : 0 ≤ (x8_1 : Int) := of_decide_eq_true (by first | (with_reducible assumption) | assumption)
          have q10 : (x8_1 : Int) < ((x7_1.length : Int) : Int) := of_decide_eq_true (by first | (with_reducible assumption) | assumption)
          obtain ⟨go10, co10, eo10, gb10, gl10, cl10, HG10⟩ := Kd.R_form HO_7.out (by omega)
          (first | cases eo10 | (injection eo10 with ea_ en_ ec_; (first | subst ea_ | (injection ea_ with ea_; subst ea_)); subst ec_; clear en_))
          have GB10 := Aside0.mk gb10
          have GG10 := Aside0.mk HG10
          clear gb10 gl10 HG10
          (first | simp only [add_plain] at hx437_0 | skip)
          obtain ⟨hx10_0, hf10_0⟩ := Kd.R_celln 0 HO_7.out (x8_1 : Int) p10 q10
          replace p10 := eq_true p10
          replace q10 := eq_true q10
          have HP12 := Kd.R_putg HO_7.out (x8_1 : Int) (Int.tmod (wrap64 ((rd x7_1 x8_1) * t433)) a0)
          go_wp2_with (first | ((with_reducible refine gate_store (t := 3) (p := 30) rfl ?_); refine store_event (t := 3) (p := 30) (v := ?vo_w13) (w1 := (wr.setCell ⟨go10, (x8_1 : Int).toNat, none⟩ (.int .i64 (Int.tmod (wrap64 ((rd x7_1 x8_1) * t433)) a0)))) ?hg ?ho ?hn ?hr ?_; (case ho => rfl); (case hg => rfl); (case hn => rfl); (case hr => first | (go_simp; done) | (go_simp; rfl)); intro w13 hw; have hg : wr.grownBy w13 (some go10) := (by rw [hw]; exact HP12.2); have hp_ : Kd.R (Kd.int .i64) 3 w13 w.heap.size (fun k_ => (w.heap.size ≤ k_)) (.slice (some ⟨go10, 0, none⟩) x7_1.length co11) y438 := (by rw [hw, Ny438.out]; exact HP12.1); clear HP12; have n0_ := Aside0.mk (hp_); have n1_ := Aside0.mk ((by rw [hw]; exact below_set (HB.out) GB10.out : Below w.heap.size w w13)); clear HO_7; clear HB; have HO_7 := n0_; have HB := n1_; clear n0_ n1_; clear hg hw hp_))
          (first | go_roundg k1 | (refine Handed.intro k1 ?measure ?_; rotate_left; go_step; (repeat rw [add_plain]); (repeat apply Exists.intro); refine ⟨?rel, rfl⟩))
          case measure => have := HK1.out; omega
          case rel => exact ⟨(y438), (wrap64 (x8_1 + 1)), (by first | rfl | (simp; done) | (simp [*]; done)), H', ⟨by have := HK1.out; omega⟩, ⟨by (with_reducible repeat (first | apply Kd.R_alloc | apply Kd.R_drewN | apply Kd.R_drew)); exact HO_7.out⟩, ⟨by with_reducible repeat (first | exact HB.out | apply bA | apply bB | apply bC)⟩⟩
      · rw [if_neg c8] at H
        exact absurd H (by simp)
    · rw [if_neg c7] at H
      have c7b0 : decide (x8_1 < (x7_1.length : Int)) = false := decide_eq_false c7
      clear c7
      replace H := Option.bind_eq_some_iff.mp H
      obtain ⟨t439, A140, H⟩ := H
      replace H : (some t439) = some r := H
      have A14 := Aside0.mk A140
      clear A140
      obtain rfl := Option.some.inj H
      obtain ⟨Ao15, co15, eo15⟩ := Kd.R_slice HO_7.out
      subst eo15
      go_wp2_with (first | ((with_reducible refine gate_callee (f := 40) rfl ?_); refine goesL_ (some 32) rfl rfl Try.func40 (by kernel_rfl) rfl #[.slice Ao15 x7_1.length co15] rfl (by (try simp only [mA, mB, mC]); first | done | rfl | (simp only [lD, lT]; rfl)) ?_; (with_reducible refine (galoisref09_Trim.calls k1 (fun k_ => some k_ = (.slice Ao15 x7_1.length co15 : Value).ownBlock) _ _ x7_1 t439 _ ?side1 A14.out).mono ?_); (case side1 => exact Kd.R_V (Kd.R_tight rfl (HO_7.out))); rintro e w16 ⟨v440, rfl, ho0, hb⟩; refine ⟨_, rfl, ?_⟩; have n0_ := Aside0.mk (Kd.R_below (by (with_reducible repeat (first | apply Kd.R_alloc | apply Kd.R_drewN | apply Kd.R_drew)); exact HO_7.out) hb); have n1_ := Aside0.mk (Kd.V_lower (Kd.V_mono (ok' := fun k_ => (w.heap.size ≤ k_)) ho0 (fun k_ hk_ => Or.elim hk_ (fun hs_ => ((HO_7.out).1 k_ hs_.symm)) (fun hn_ => (Nat.le_trans (below_size (by with_reducible repeat (first | exact HB.out | apply bA | apply bB | apply bC))) hn_)))) (below_size (by with_reducible repeat (first | exact HB.out | apply bA | apply bB | apply bC)))); have n2_ := Aside0.mk (below_step (by with_reducible repeat (first | exact HB.out | apply bA | apply bB | apply bC)) hb); clear HO_7; clear HB; have HO_7 := n0_; have HO441 := n1_; have HB := n2_; clear n0_ n1_ n2_; (try clear hb); (try clear hb2); (try clear hk); (try clear hi); (try clear ho0)))
      go_ret
      exact ⟨_, by first | rfl | (simp [errW_none, errW_some] <;> rfl) | (simp [*, errW_none, errW_some] <;> rfl), by (with_reducible repeat (first | apply vA | apply vB | apply vC)); exact HO441.out, by with_reducible repeat (first | exact HB.out | apply bA | apply bB | apply bC)⟩

/-! ### galoisref09_Sub: function 51 -/
def galoisref09_Sub.f (k : Nat) (a0 : Int) (l1 : List Int) (l2 : List Int) : Option (List Int) := (galoisref09_Scale.f k a0 l2 (-1)).bind fun t442 => ((galoisref09_Add.f k a0 l1 t442).bind fun t445 => (some t445))
theorem galoisref09_Sub.mono : ∀ a0 a1 a2 k, LeO (galoisref09_Sub.f k a0 a1 a2) (galoisref09_Sub.f (k + 1) a0 a1 a2) := by
 intro a0 a1 a2 k
 unfold galoisref09_Sub.f
 repeat' first
  | (with_reducible apply galoisref09_Add.mono)
  | (with_reducible apply galoisref09_Scale.mono)
  | (with_reducible apply LeO.refl)
  | (with_reducible apply LeO.none)
  | (with_reducible refine LeO.ite ?_ ?_)
  | (with_reducible refine LeO.bind ?_ (fun _ => ?_))
set_option maxHeartbeats 8000000 in
set_option maxRecDepth 100000 in
theorem galoisref09_Sub.calls (k : Nat) (a0 : Int) (A1 : Option Addr) (c1 : Nat) (l1 : List Int) (A2 : Option Addr) (c2 : Nat) (l2 : List Int) (r : List Int) (w : World) (hr1 : Kd.C (Kd.int .i64) w A1 l1.length l1) (hc1 : l1.length ≤ c1) (hr2 : Kd.C (Kd.int .i64) w A2 l2.length l2) (hc2 : l2.length ≤ c2) (h : galoisref09_Sub.f k a0 l1 l2 = some r) :
 Calls Try.prog 51 #[.int .i64 a0, .slice A1 l1.length c1, .slice A2 l2.length c2] w fun e w' => ∃ v0_ : Value, e = .returned (v0_) ∧ Kd.V (Kd.int .i64) 3 w' w.heap.size (fun k_ => (w.heap.size ≤ k_)) v0_ r ∧ Below w.heap.size w w' := by
 have HR1 := Aside0.mk hr1
 have HC1 := Aside0.mk hc1
 clear hr1 hc1
 have HR2 := Aside0.mk hr2
 have HC2 := Aside0.mk hc2
 clear hr2 hc2
 have HB := Aside0.mk (Below.refl w.heap.size w)
 have H : ((galoisref09_Scale.f k a0 l2 (-1)).bind fun t442 => ((galoisref09_Add.f k a0 l1 t442).bind fun t445 => (some t445))) = some r := h
 clear h
 replace H := Option.bind_eq_some_iff.mp H
 obtain ⟨t442, A40, H⟩ := H
 replace H : ((galoisref09_Add.f k a0 l1 t442).bind fun t445 => (some t445)) = some r := H
 have A4 := Aside0.mk A40
 clear A40
 replace H := Option.bind_eq_some_iff.mp H
 obtain ⟨t445, A50, H⟩ := H
 replace H : (some t445) = some r := H
 have A5 := Aside0.mk A50
 clear A50
 obtain rfl := Option.some.inj H
 go_enter Try.func51, Try.ntmps51
 go_wp2_with (first | ((with_reducible refine gate_callee (f := 45) rfl ?_); refine goesL_ (some 11) rfl rfl Try.func45 (by kernel_rfl) rfl #[.int .i64 a0, .slice A2 l2.length c2, .int .i64 (-1)] rfl (by (try simp only [mA, mB, mC]); first | done | rfl | (simp only [lD, lT]; rfl)) ?_; (with_reducible refine (galoisref09_Scale.calls k a0 _ _ l2 (-1) t442 _ ?side1 ?side2 A4.out).mono ?_); (case side1 => repeat (first | exact HR2.out | (with_reducible refine Kd.C_alloc ?_ _) | (with_reducible refine Kd.C_drewN ?_ _) | (with_reducible refine Kd.C_drew ?_))); (case side2 => exact HC2.out); rintro e w6 ⟨v443, rfl, ho0, hb⟩; refine ⟨_, rfl, ?_⟩; have n0_ := Aside0.mk (Kd.V_lower (Kd.V_mono (ok' := fun k_ => (w.heap.size ≤ k_)) ho0 (fun k_ hk_ => (Nat.le_trans (below_size (by with_reducible repeat (first | exact HB.out | apply bA | apply bB | apply bC))) hk_))) (below_size (by with_reducible repeat (first | exact HB.out | apply bA | apply bB | apply bC)))); have n1_ := Aside0.mk (below_step (by with_reducible repeat (first | exact HB.out | apply bA | apply bB | apply bC)) hb); clear HB; have HO444 := n0_; have HB := n1_; clear n0_ n1_; (try clear hb); (try clear hb2); (try clear hk); (try clear hi); (try clear ho0); obtain ⟨Ao7, co7, eo7⟩ := Kd.V_slice HO444.out; subst eo7) | ((with_reducible refine gate_callee (f := 50) rfl ?_); refine goesL_ (some 12) rfl rfl Try.func50 (by kernel_rfl) rfl #[.int .i64 a0, .slice A1 l1.length c1, .slice Ao7 t442.length co7] rfl (by (try simp only [mA, mB, mC]); first | done | rfl | (simp only [lD, lT]; rfl)) ?_; (with_reducible refine (galoisref09_Add.calls k a0 _ _ l1 _ _ t442 t445 _ ?side1 ?side2 ?side3 ?side4 A5.out).mono ?_); (case side1 => repeat (first | exact (Kd.C_below HR1.out HB.out) | (with_reducible refine Kd.C_alloc ?_ _) | (with_reducible refine Kd.C_drewN ?_ _) | (with_reducible refine Kd.C_drew ?_))); (case side2 => exact HC1.out); (case side3 => repeat (first | exact (Kd.V_reads' HO444.out).2.2 | (with_reducible refine Kd.C_alloc ?_ _) | (with_reducible refine Kd.C_drewN ?_ _) | (with_reducible refine Kd.C_drew ?_))); (case side4 => exact (Kd.V_reads' HO444.out).2.1); rintro e w8 ⟨v446, rfl, ho0, hb⟩; refine ⟨_, rfl, ?_⟩; have n0_ := Aside0.mk (Kd.V_below (by (with_reducible repeat (first | apply vA | apply vB | apply vC)); exact HO444.out) hb); have n1_ := Aside0.mk (Kd.V_lower (Kd.V_mono (ok' := fun k_ => (w.heap.size ≤ k_)) ho0 (fun k_ hk_ => (Nat.le_trans (below_size (by with_reducible repeat (first | exact HB.out | apply bA | apply bB | apply bC))) hk_))) (below_size (by with_reducible repeat (first | exact HB.out | apply bA | apply bB | apply bC)))); have n2_ := Aside0.mk (below_step (by with_reducible repeat (first | exact HB.out | apply bA | apply bB | apply bC)) hb); clear HO444; clear HB; have HO444 := n0_; have HO447 := n1_; have HB := n2_; clear n0_ n1_ n2_; (try clear hb); (try clear hb2); (try clear hk); (try clear hi); (try clear ho0)))
 go_ret
 exact ⟨_, by first | rfl | (simp [errW_none, errW_some] <;> rfl) | (simp [*, errW_none, errW_some] <;> rfl), by (with_reducible repeat (first | apply vA | apply vB | apply vC)); exact HO447.out, by with_reducible repeat (first | exact HB.out | apply bA | apply bB | apply bC)⟩

/-! ### galoisref09_Mul: function 52 -/
mutual
def galoisref09_Mul.j0 : Nat → Int → List Int → List Int → Bool → Option (List Int)
 | 0, _, _, _, _ => none
 | k + 1, x0, x1, x2, x17 => if x17 = true then (some ([] : List Int)) else (if 0 ≤ (wrap64 ((wrap64 ((x1.length : Int) + (x2.length : Int))) - 1)) then (if (wrap64 ((wrap64 ((x1.length : Int) + (x2.length : Int))) - 1) : Int).toNat ≤ 35184372088832 then (galoisref09_Mul.l0 k x0 x1 x2 (List.replicate (wrap64 ((wrap64 ((x1.length : Int) + (x2.length : Int))) - 1) : Int).toNat 0) 0) else (none)) else (none))
def galoisref09_Mul.l0 : Nat → Int → List Int → List Int → List Int → Int → Option (List Int)
 | 0, _, _, _, _, _ => none
 | k + 1, x0, x1, x2, x7, x8 => if x8 < (x1.length : Int) then (galoisref09_Mul.l1 k x0 x1 x2 x7 x8 0) else ((galoisref09_Trim.f k x7).bind fun t451 => (some t451))
def galoisref09_Mul.l1 : Nat → Int → List Int → List Int → List Int → Int → Int → Option (List Int)
 | 0, _, _, _, _, _, _ => none
 | k + 1, x0, x1, x2, x7, x8, x9 => if x9 < (x2.length : Int) then (if 0 ≤ (wrap64 (x8 + x9)) then (if (wrap64 (x8 + x9)) < (x7.length : Int) then (if 0 ≤ x8 then (if x8 < (x1.length : Int) then (if 0 ≤ x9 then (if x0 = 0 then (none) else (galoisref09_Mul.l1 k x0 x1 x2 (x7.set ((wrap64 (x8 + x9)) : Int).toNat (Int.tmod (wrap64 ((rd x7 (wrap64 (x8 + x9))) + (wrap64 ((rd x1 x8) * (rd x2 x9))))) x0)) x8 (wrap64 (x9 + 1)))) else (none)) else (none)) else (none)) else (none)) else (none)) else (galoisref09_Mul.l0 k x0 x1 x2 x7 (wrap64 (x8 + 1)))
end
def galoisref09_Mul.f (k : Nat) (a0 : Int) (l1 : List Int) (l2 : List Int) : Option (List Int) := if (l1.length : Int) = 0 then (galoisref09_Mul.j0 k a0 l1 l2 true) else (galoisref09_Mul.j0 k a0 l1 l2 ((l2.length : Int) == 0))
theorem galoisref09_Mul.mono_l : ∀ k, (∀ y0 y1 y2 y3, LeO (galoisref09_Mul.j0 k y0 y1 y2 y3) (galoisref09_Mul.j0 (k + 1) y0 y1 y2 y3)) ∧ (∀ y0 y1 y2 y3 y4, LeO (galoisref09_Mul.l0 k y0 y1 y2 y3 y4) (galoisref09_Mul.l0 (k + 1) y0 y1 y2 y3 y4)) ∧ (∀ y0 y1 y2 y3 y4 y5, LeO (galoisref09_Mul.l1 k y0 y1 y2 y3 y4 y5) (galoisref09_Mul.l1 (k + 1) y0 y1 y2 y3 y4 y5))
 | 0 => ⟨fun _ _ _ _ r h => by simp [galoisref09_Mul.j0] at h, fun _ _ _ _ _ r h => by simp [galoisref09_Mul.l0] at h, fun _ _ _ _ _ _ r h => by simp [galoisref09_Mul.l1] at h⟩
 | k + 1 => by
   obtain ⟨ih0, ih1, ih2⟩ := galoisref09_Mul.mono_l k
   refine ⟨?_, ?_, ?_⟩
   · intro y0 y1 y2 y3
     unfold galoisref09_Mul.j0
     repeat' first
     | (with_reducible apply ih0)
     | (with_reducible apply ih1)
     | (with_reducible apply ih2)
     | (with_reducible apply galoisref09_Trim.mono)
     | (with_reducible apply LeO.refl)
     | (with_reducible apply LeO.none)
     | (with_reducible refine LeO.ite ?_ ?_)
     | (with_reducible refine LeO.bind ?_ (fun _ => ?_))
   · intro y0 y1 y2 y3 y4
     unfold galoisref09_Mul.l0
     repeat' first
     | (with_reducible apply ih0)
     | (with_reducible apply ih1)
     | (with_reducible apply ih2)
     | (with_reducible apply galoisref09_Trim.mono)
     | (with_reducible apply LeO.refl)
     | (with_reducible apply LeO.none)
     | (with_reducible refine LeO.ite ?_ ?_)
     | (with_reducible refine LeO.bind ?_ (fun _ => ?_))
   · intro y0 y1 y2 y3 y4 y5
     unfold galoisref09_Mul.l1
     repeat' first
     | (with_reducible apply ih0)
     | (with_reducible apply ih1)
     | (with_reducible apply ih2)
     | (with_reducible apply galoisref09_Trim.mono)
     | (with_reducible apply LeO.refl)
     | (with_reducible apply LeO.none)
     | (with_reducible refine LeO.ite ?_ ?_)
     | (with_reducible refine LeO.bind ?_ (fun _ => ?_))
theorem galoisref09_Mul.mono : ∀ a0 a1 a2 k, LeO (galoisref09_Mul.f k a0 a1 a2) (galoisref09_Mul.f (k + 1) a0 a1 a2) := by
 intro a0 a1 a2 k
 obtain ⟨ih0, ih1, ih2⟩ := galoisref09_Mul.mono_l k
 unfold galoisref09_Mul.f
 repeat' first
  | (with_reducible apply ih0)
  | (with_reducible apply ih1)
  | (with_reducible apply ih2)
  | (with_reducible apply galoisref09_Trim.mono)
  | (with_reducible apply LeO.refl)
  | (with_reducible apply LeO.none)
  | (with_reducible refine LeO.ite ?_ ?_)
  | (with_reducible refine LeO.bind ?_ (fun _ => ?_))
def galoisref09_Mul.T10 : Bool × List (List Nat × List Nat) := (true, [([], []), ([], []), ([], []), ([1, 2], [1, 2]), ([], []), ([], []), ([], []), ([5, 6], [5, 6]), ([4, 7], [4, 7]), ([8], [8]), ([], []), ([], []), ([10, 11], [10, 11]), ([12], [12]), ([], []), ([], []), ([14, 15], [14, 15]), ([16], [16]), ([13, 17], [13, 17]), ([9, 18], [9, 18]), ([], []), ([19, 20], [19, 20]), ([0, 3, 0, 1, 2, 3, 4, 5, 6, 7, 8, 9, 10, 11, 12, 13, 14, 15, 16, 17, 18, 19, 20, 21], [0, 3]), ([22, 21, 0, 1, 2, 3, 4, 5, 6, 7, 8, 9, 10, 11, 12, 13, 14, 15, 16, 17, 18, 19, 20, 21], [21, 22])])
def galoisref09_Mul.B10 : List Nat := [0, 0, 0, 6, 0, 0, 0, 96, 240, 496, 0, 0, 3072, 7168, 0, 0, 49152, 114688, 261120, 524272, 0, 2097136, 4194303, 8388607]
theorem galoisref09_Mul.tab10 : rtab .any (opsOf Try.f52 10) = galoisref09_Mul.T10 := by kernel_rfl
theorem galoisref09_Mul.bits10 : waitsOk galoisref09_Mul.T10.2 galoisref09_Mul.B10 = true := by kernel_rfl
set_option maxHeartbeats 8000000 in
set_option maxRecDepth 100000 in
theorem galoisref09_Mul.calls (k : Nat) (a0 : Int) (A1 : Option Addr) (c1 : Nat) (l1 : List Int) (A2 : Option Addr) (c2 : Nat) (l2 : List Int) (r : List Int) (w : World) (hr1 : Kd.C (Kd.int .i64) w A1 l1.length l1) (hc1 : l1.length ≤ c1) (hr2 : Kd.C (Kd.int .i64) w A2 l2.length l2) (hc2 : l2.length ≤ c2) (h : galoisref09_Mul.f k a0 l1 l2 = some r) :
 Calls Try.prog 52 #[.int .i64 a0, .slice A1 l1.length c1, .slice A2 l2.length c2] w fun e w' => ∃ v0_ : Value, e = .returned (v0_) ∧ Kd.V (Kd.int .i64) 3 w' w.heap.size (fun k_ => (w.heap.size ≤ k_)) v0_ r ∧ Below w.heap.size w w' := by
 have HR1 := Aside0.mk hr1
 have HC1 := Aside0.mk hc1
 clear hr1 hc1
 have HR2 := Aside0.mk hr2
 have HC2 := Aside0.mk hc2
 clear hr2 hc2
 have HB := Aside0.mk (Below.refl w.heap.size w)
 have H : (if (l1.length : Int) = 0 then (galoisref09_Mul.j0 k a0 l1 l2 true) else (galoisref09_Mul.j0 k a0 l1 l2 ((l2.length : Int) == 0))) = some r := h
 clear h
 have HC4 := Aside0.mk H
 clear H
 go_enter Try.func52, Try.ntmps52
 go_upto_region 1 with (fail)
 go_cut [17] (fun v17 wc => ∃ (kq : Nat) (x17_3 : Bool), v17 = .bool x17_3 ∧ Aside0 (galoisref09_Mul.j0 kq a0 l1 l2 x17_3 = some r) ∧ Aside0 (kq ≤ k) ∧ Aside0 (Below w.heap.size w wc))
 case first =>
  have H := HC4.out
  clear HC4
  by_cases c5 : (l1.length : Int) = 0
  · rw [if_pos c5] at H
    have c5b0 : ((l1.length : Int) == 0) = true := beq_iff_eq.mpr c5
    have c5b1 : ((l1.length : Int) != 0) = false := bne_eq_false_iff_eq.mpr c5
    clear c5
    (first | rw [c5b0] | (simp only [i64_w, i32_w]; rw [c5b0]) | skip)
    have H' := Aside0.mk H
    clear H
    go_wp2
    go_meet
    case rel => exact ⟨_, (true), (by first | rfl | (simp; done) | (simp [*]; done)), H', ⟨by first | omega | exact Nat.le_refl _⟩, ⟨by with_reducible repeat (first | exact HB.out | apply bA | apply bB | apply bC)⟩⟩
  · rw [if_neg c5] at H
    have c5b0 : ((l1.length : Int) == 0) = false := beq_eq_false_iff_ne.mpr c5
    have c5b1 : ((l1.length : Int) != 0) = true := bne_iff_ne.mpr c5
    have c5b2 : ¬ (l1 = []) := fun h_ => c5 (by rw [h_]; rfl)
    (first | rw [c5b0] | (simp only [i64_w, i32_w]; rw [c5b0]) | skip)
    have H' := Aside0.mk H
    clear H
    go_wp2
    go_meet
    case rel => exact ⟨_, (((l2.length : Int) == 0)), (by first | rfl | (simp; done) | (simp [*]; done)), H', ⟨by first | omega | exact Nat.le_refl _⟩, ⟨by with_reducible repeat (first | exact HB.out | apply bA | apply bB | apply bC)⟩⟩
 case rest =>
  clear HC4
  try clear c1
  try clear c2
  try clear p2
  try clear c5
  try clear c5b0
  try clear c5b1
  try clear c5b2
  obtain ⟨kq, x17_3, rfl, HA, HJ3, HB⟩ := hcut
  cases kq with
  | zero => exact absurd HA.out (by simp [galoisref09_Mul.j0])
  | succ kj3 =>
    have H := HA.out
    clear HA
    simp only [galoisref09_Mul.j0] at H
    by_cases c6 : x17_3 = true
    · subst c6
      have H1 : (some ([] : List Int)) = some r := by rw [if_pos rfl] at H; exact H
      clear H
      have H := H1
      clear H1
      obtain rfl := Option.some.inj H
      go_wp2
      go_ret
      exact ⟨(.slice none 0 0), by first | rfl | (simp [errW_none, errW_some] <;> rfl) | (simp [*, errW_none, errW_some] <;> rfl), (Kd.V_nil _ _ _ _ _), by with_reducible repeat (first | exact HB.out | apply bA | apply bB | apply bC)⟩
    · replace c6 := Bool.eq_false_iff.mpr c6
      subst c6
      have H1 : (if 0 ≤ (wrap64 ((wrap64 ((l1.length : Int) + (l2.length : Int))) - 1)) then (if (wrap64 ((wrap64 ((l1.length : Int) + (l2.length : Int))) - 1) : Int).toNat ≤ 35184372088832 then (galoisref09_Mul.l0 kj3 a0 l1 l2 (List.replicate (wrap64 ((wrap64 ((l1.length : Int) + (l2.length : Int))) - 1) : Int).toNat 0) 0) else (none)) else (none)) = some r := by rw [if_neg (show ¬ (false = true) by decide)] at H; exact H
      clear H
      have H := H1
      clear H1
      obtain ⟨ji7, hji7⟩ : ∃ j_ : Int, (wrap64 ((wrap64 ((l1.length : Int) + (l2.length : Int))) - 1)) = j_ := ⟨_, rfl⟩
      replace H : (if 0 ≤ (ji7) then (if (ji7 : Int).toNat ≤ 35184372088832 then (galoisref09_Mul.l0 kj3 a0 l1 l2 (List.replicate (ji7 : Int).toNat 0) 0) else (none)) else (none)) = some r := by first | (rw [hji7] at H; exact H) | (simp only [hji7] at H ⊢; exact H)
      have hji7w : (IntKind.i64.wrap ((wrap64 ((l1.length : Int) + (l2.length : Int))) - 1)) = ji7 := (i64_w _).trans hji7
      by_cases c8 : 0 ≤ (ji7)
      · rw [if_pos c8] at H
        have c8b0 := eq_true c8
        have c8b1 : decide (0 ≤ (ji7)) = true := decide_eq_true c8
        clear c8
        by_cases c9 : (ji7 : Int).toNat ≤ 35184372088832
        · rw [if_pos c9] at H
          have c9b0 := eq_true c9
          have c9b1 : decide ((ji7 : Int).toNat ≤ 35184372088832) = true := decide_eq_true c9
          clear c9
          obtain ⟨y448, hy448⟩ : ∃ y_ : List Int, y_ = (List.replicate (ji7 : Int).toNat 0) := ⟨_, rfl⟩
          replace H : (galoisref09_Mul.l0 kj3 a0 l1 l2 y448 0) = some r := by first | (rw [hy448]; with_reducible exact H) | (have H2_ := (Option.bind_some _ _).symm.trans H; rw [hy448]; with_reducible exact H2_) | (have H2_ := (Option.bind_some _ _).symm.trans H; with_reducible exact H2_) | with_reducible exact H | (rw [hy448]; exact H) | exact H
          have Ny448 := Aside0.mk hy448
          clear hy448
          have H' := Aside0.mk H
          clear H
          go_wp2_with (first | ((with_reducible refine gate_dst (N := 24) rfl ?_); (try (refine gate_guard (by rfl) ?_; dsimp only)); refine Kd.R_make (Kd.int .i64) _ 3 rfl (N := 24) rfl 23 _ _ rfl ji7 rfl rfl Try.underlying23 (.int .i64 0) 8 info3 rfl (by decide) (by omega) 0 (ok := fun _ => True) (okp := fun _ => True) rfl (fun _ hk => hk) trivial (of_decide_eq_true (by first | (with_reducible assumption) | assumption)) (Nat.le_trans (Nat.mul_le_mul_right _ (of_decide_eq_true (by first | (with_reducible assumption) | assumption) : ji7.toNat ≤ 35184372088832)) (by omega)) (Below.refl _ _) (Nat.le_refl _) ?_; intro v449 w10 ho11 hb hg_ hnew_; clear hg_ hnew_; (first | rw [← Ny448.out] at ho11 | (simp only [Int.reduceToNat] at ho11; rw [← Ny448.out] at ho11)); have n0_ := Aside0.mk (Kd.R_lower (Kd.R_newM (M := fun k_ => (w.heap.size ≤ k_)) ho11 (below_size (by with_reducible repeat (first | exact HB.out | apply bA | apply bB | apply bC))) (fun k_ h_ => h_)) (below_size (by with_reducible repeat (first | exact HB.out | apply bA | apply bB | apply bC)))); have n1_ := Aside0.mk (below_step (by with_reducible repeat (first | exact HB.out | apply bA | apply bB | apply bC)) hb); clear HB; have HO450 := n0_; have HB := n1_; clear n0_ n1_; clear hb ho11))
          go_loopg [8] kj3 (fun kq v8 w' => ∃ (x7_2 : List Int) (x8_2 : Int), v8 = .int .i64 x8_2 ∧ Aside0 (galoisref09_Mul.l0 kq a0 l1 l2 x7_2 x8_2 = some r) ∧ Aside0 (kq ≤ kj3) ∧ Aside0 (Kd.R (Kd.int .i64) 3 w' w.heap.size (fun k_ => (w.heap.size ≤ k_)) v449 x7_2) ∧ Aside0 (Below w.heap.size w w'))
          case atStart => exact ⟨(y448), (0), (by first | rfl | (simp; done) | (simp [*]; done)), H', ⟨Nat.le_refl _⟩, ⟨by (with_reducible repeat (first | apply Kd.R_alloc | apply Kd.R_drewN | apply Kd.R_drew)); exact Kd.R_mono HO450.out (fun _ hk => hk.1)⟩, ⟨by with_reducible repeat (first | exact HB.out | apply bA | apply bB | apply bC)⟩⟩
          case round =>
           clear H'
           try clear c1
           try clear c2
           try clear p2
           try clear c5
           try clear c5b0
           try clear c5b1
           try clear c5b2
           try clear c6
           try clear p6
           try clear c8
           try clear c8b0
           try clear c8b1
           try clear c9
           try clear c9b0
           try clear c9b1
           try clear p2
           obtain ⟨x7_2, x8_2, rfl, HA, HK2, HO_7, HB⟩ := hrel
           cases gk with
           | zero => exact absurd HA.out (by simp [galoisref09_Mul.l0])
           | succ k2 =>
             have H := HA.out
             clear HA
             simp only [galoisref09_Mul.l0] at H
             by_cases c12 : x8_2 < (l1.length : Int)
             · rw [if_pos c12] at H
               have c12b0 : decide (x8_2 < (l1.length : Int)) = true := decide_eq_true c12
               clear c12
               have H' := Aside0.mk H
               clear H
               go_wp2
               go_loopg [9] k2 (fun kq v9 w' => ∃ (x7_3 : List Int) (x9_3 : Int), v9 = .int .i64 x9_3 ∧ Aside0 (galoisref09_Mul.l1 kq a0 l1 l2 x7_3 x8_2 x9_3 = some r) ∧ Aside0 (kq ≤ k2) ∧ Aside0 (Kd.R (Kd.int .i64) 3 w' w.heap.size (fun k_ => (w.heap.size ≤ k_)) v449 x7_3) ∧ Aside0 (Below w.heap.size w w'))
               case atStart => exact ⟨(x7_2), (0), (by first | rfl | (simp; done) | (simp [*]; done)), H', ⟨Nat.le_refl _⟩, ⟨by (with_reducible repeat (first | apply Kd.R_alloc | apply Kd.R_drewN | apply Kd.R_drew)); exact HO_7.out⟩, ⟨by with_reducible repeat (first | exact HB.out | apply bA | apply bB | apply bC)⟩⟩
               case round =>
                clear H'
                try clear c1
                try clear c2
                try clear p2
                try clear c5
                try clear c5b0
                try clear c5b1
                try clear c5b2
                try clear c6
                try clear p6
                try clear c8
                try clear c8b0
                try clear c8b1
                try clear c9
                try clear c9b0
                try clear c9b1
                try clear c12
                try clear c12b0
                try clear p2
                try clear p6
                obtain ⟨x7_3, x9_3, rfl, HA, HK3, HO_7, HB⟩ := hrel
                cases gk with
                | zero => exact absurd HA.out (by simp [galoisref09_Mul.l1])
                | succ k3 =>
                  have H := HA.out
                  clear HA
                  simp only [galoisref09_Mul.l1] at H
                  by_cases c13 : x9_3 < (l2.length : Int)
                  · rw [if_pos c13] at H
                    have c13b0 : decide (x9_3 < (l2.length : Int)) = true := decide_eq_true c13
                    clear c13
                    obtain ⟨ji14, hji14⟩ : ∃ j_ : Int, (wrap64 (x8_2 + x9_3)) = j_ := ⟨_, rfl⟩
                    replace H : (if 0 ≤ (ji14) then (if (ji14) < (x7_3.length : Int) then (if 0 ≤ x8_2 then (if x8_2 < (l1.length : Int) then (if 0 ≤ x9_3 then (if a0 = 0 then (none) else (galoisref09_Mul.l1 k3 a0 l1 l2 (x7_3.set ((ji14) : Int).toNat (Int.tmod (wrap64 ((rd x7_3 (ji14)) + (wrap64 ((rd l1 x8_2) * (rd l2 x9_3))))) a0)) x8_2 (wrap64 (x9_3 + 1)))) else (none)) else (none)) else (none)) else (none)) else (none)) = some r := by first | (rw [hji14] at H; exact H) | (simp only [hji14] at H ⊢; exact H)
                    have hji14w : (IntKind.i64.wrap (x8_2 + x9_3)) = ji14 := (i64_w _).trans hji14
                    by_cases c15 : 0 ≤ (ji14)
                    · rw [if_pos c15] at H
                      have c15b0 : decide (0 ≤ (ji14)) = true := decide_eq_true c15
                      clear c15
                      by_cases c16 : (ji14) < (x7_3.length : Int)
                      · rw [if_pos c16] at H
                        have c16b0 : decide ((ji14) < (x7_3.length : Int)) = true := decide_eq_true c16
                        clear c16
                        by_cases c17 : 0 ≤ x8_2
                        · rw [if_pos c17] at H
                          have c17b0 : decide (0 ≤ x8_2) = true := decide_eq_true c17
                          clear c17
                          by_cases c18 : x8_2 < (l1.length : Int)
                          · rw [if_pos c18] at H
                            have c18b0 : decide (x8_2 < (l1.length : Int)) = true := decide_eq_true c18
                            clear c18
                            by_cases c19 : 0 ≤ x9_3
                            · rw [if_pos c19] at H
                              have c19b0 : decide (0 ≤ x9_3) = true := decide_eq_true c19
                              clear c19
                              by_cases c20 : a0 = 0
                              · rw [if_pos c20] at H
                                exact absurd H (by simp)
                              · rw [if_neg c20] at H
                                have c20b0 : (a0 == 0) = false := beq_eq_false_iff_ne.mpr c20
                                have c20b1 : (a0 != 0) = true := bne_iff_ne.mpr c20
                                obtain ⟨y457, hy457⟩ : ∃ y_ : List Int, y_ = (x7_3.set ((ji14) : Int).toNat (Int.tmod (wrap64 ((rd x7_3 (ji14)) + (wrap64 ((rd l1 x8_2) * (rd l2 x9_3))))) a0)) := ⟨_, rfl⟩
                                replace H : (galoisref09_Mul.l1 k3 a0 l1 l2 y457 x8_2 (wrap64 (x9_3 + 1))) = some r := by first | (rw [hy457]; with_reducible exact H) | (have H2_ := (Option.bind_some _ _).symm.trans H; rw [hy457]; with_reducible exact H2_) | (have H2_ := (Option.bind_some _ _).symm.trans H; with_reducible exact H2_) | with_reducible exact H | (rw [hy457]; exact H) | exact H
                                have Ny457 := Aside0.mk hy457
                                clear hy457
                                have H' := Aside0.mk H
                                clear H
                                try go_wp2
                                have n0_ := Aside0.mk (Kd.R_drew HO_7.out)
                                have n1_ := Aside0.mk (below_drew1 HB.out)
                                clear HO_7
                                clear HB
                                have HO_7 := n0_
                                have HB := n1_
                                clear n0_ n1_
                                obtain ⟨Ao23, co23, eo23⟩ := Kd.R_slice HO_7.out
                                (first | subst eo23 | (injection eo23 with f1_ f2_ f3_; have f4_ := f1_.symm; have f5_ := f3_.symm; clear f1_ f2_ f3_; subst f4_; subst f5_))
                                have p454 : 0 ≤ ((ji14) : Int) := of_decide_eq_true (by first | (with_reducible assumption) | assumption)
                                have q454 : (ji14) < (x7_3.length : Int) := of_decide_eq_true (by first | (with_reducible assumption) | assumption)
                                obtain ⟨ad454, e454, hx454_0⟩ := Kd.at_int (Kd.R_reads' HO_7.out).2.2 (ji14) p454 q454
                                cases e454
                                replace p454 := eq_true p454
                                replace q454 := eq_true q454
                                have p455 : 0 ≤ (x8_2 : Int) := of_decide_eq_true (by first | (with_reducible assumption) | assumption)
                                have q455 : x8_2 < (l1.length : Int) := of_decide_eq_true (by first | (with_reducible assumption) | assumption)
                                obtain ⟨ad455, e455, hx455_0⟩ := Kd.at_int HR1.out x8_2 p455 q455
                                have hw455_0 := hx455_0
                                cases e455
                                replace hx455_0 := (HB.out.cell (World.block_lt_of_cell? w _ hx455_0)).trans hx455_0
                                replace p455 := eq_true p455
                                replace q455 := eq_true q455
                                have p456 : 0 ≤ (x9_3 : Int) := of_decide_eq_true (by first | (with_reducible assumption) | assumption)
                                have q456 : x9_3 < (l2.length : Int) := of_decide_eq_true (by first | (with_reducible assumption) | assumption)
                                obtain ⟨ad456, e456, hx456_0⟩ := Kd.at_int HR2.out x9_3 p456 q456
                                have hw456_0 := hx456_0
                                cases e456
                                replace hx456_0 := (HB.out.cell (World.block_lt_of_cell? w _ hx456_0)).trans hx456_0
                                replace p456 := eq_true p456
                                replace q456 := eq_true q456
                                have p21 : 0 ≤ ((ji14) : Int) := of_decide_eq_true (by first | (with_reducible assumption) | assumption)
                                have q21 : ((ji14) : Int) < ((x7_3.length : Int) : Int) := of_decide_eq_true (by first | (with_reducible assumption) | assumption)
                                obtain ⟨go21, co21, eo21, gb21, gl21, cl21, HG21⟩ := Kd.R_form HO_7.out (by omega)
                                (first | cases eo21 | (injection eo21 with ea_ en_ ec_; (first | subst ea_ | (injection ea_ with ea_; subst ea_)); subst ec_; clear en_))
                                have GB21 := Aside0.mk gb21
                                have GG21 := Aside0.mk HG21
                                clear gb21 gl21 HG21
                                (first | simp only [add_plain] at hx454_0 | skip)
                                obtain ⟨hx21_0, hf21_0⟩ := Kd.R_celln 0 HO_7.out ((ji14) : Int) p21 q21
                                replace p21 := eq_true p21
                                replace q21 := eq_true q21
                                have HP24 := Kd.R_putn HO_7.out ((ji14) : Int) (Int.tmod (wrap64 ((rd x7_3 (ji14)) + (wrap64 ((rd l1 x8_2) * (rd l2 x9_3))))) a0)
                                rw [← Ny457.out] at HP24
                                have HQ24 := Aside0.mk HP24
                                clear HP24
                                refine start_ (n := 24) (S := fun w' => w'.cell? ⟨go21, ((ji14)).toNat, none⟩ = some (.int .i64 (rd x7_3 (ji14))) ∧ w'.cell? (ad455.add (x8_2).toNat) = some (.int .i64 (rd l1 x8_2)) ∧ w'.cell? (ad456.add (x9_3).toNat) = some (.int .i64 (rd l2 x9_3))) (ds := [23]) #[false, false, false, false, false, false, false, false, false, false, false, false, false, false, false, false, false, false, false, false, false, false, false, false] (by kernel_rfl) rfl rfl ⟨hx454_0, ((HB.out.cell (World.block_lt_of_cell? w _ hw455_0)).trans hw455_0), ((HB.out.cell (World.block_lt_of_cell? w _ hw456_0)).trans hw456_0)⟩ (fun hHeld => ?_); refine with_tabW galoisref09_Mul.tab10 galoisref09_Mul.bits10 (fun HT_ HW_ => ?_)
                                generalize wr.drew = w22 at HO_7 HB GG21 HQ24 hf21_0 hx21_0 hx454_0 hx455_0 hx456_0 hHeld ⊢
                                refine pure_ (i := 0) (N := some 37) (v := ?_) (a' := ?_) #[true, false, false, false, false, false, false, false, false, false, false, false, false, false, false, false, false, false, false, false, false, false, false, false] rfl rfl (any_of HT_.out (by kernel_rfl)) (fun _ _ _ h => h) (Or.inl ⟨by rfl, ?_⟩) ?_ ?_
                                rotate_left
                                · intro w'
                                  go_simp
                                  with_reducible rfl
                                rotate_left
                                · simp only [Act.put, List.setIfInBounds_toArray, List.set_cons_zero, List.set_cons_succ, i64_w, i32_w]
                                  rfl
                                refine pure_ (i := 1) (N := some 38) (v := ?_) (a' := ?_) #[true, true, false, false, false, false, false, false, false, false, false, false, false, false, false, false, false, false, false, false, false, false, false, false] rfl rfl (any_of HT_.out (by kernel_rfl)) (fun _ _ _ h => h) (Or.inl ⟨by rfl, ?_⟩) ?_ ?_
                                rotate_left
                                · intro w'
                                  go_simp
                                  with_reducible rfl
                                rotate_left
                                · simp only [Act.put, List.setIfInBounds_toArray, List.set_cons_zero, List.set_cons_succ, i64_w, i32_w]
                                  rfl
                                refine pure_ (i := 2) (N := some 39) (v := ?_) (a' := ?_) #[true, true, true, false, false, false, false, false, false, false, false, false, false, false, false, false, false, false, false, false, false, false, false, false] rfl rfl (any_of HT_.out (by kernel_rfl)) (fun _ _ _ h => h) (Or.inl ⟨by rfl, ?_⟩) ?_ ?_
                                rotate_left
                                · intro w'
                                  go_simp
                                  with_reducible rfl
                                rotate_left
                                · simp only [Act.put, List.setIfInBounds_toArray, List.set_cons_zero, List.set_cons_succ, i64_w, i32_w]
                                  rfl
                                refine pure_ (i := 3) (N := some 40) (v := ?_) (a' := ?_) #[true, true, true, true, false, false, false, false, false, false, false, false, false, false, false, false, false, false, false, false, false, false, false, false] rfl rfl (any_of HT_.out (by kernel_rfl)) (fun _ _ _ h => h) (Or.inl ⟨by rfl, ?_⟩) ?_ ?_
                                rotate_left
                                · intro w'
                                  go_simp
                                  with_reducible rfl
                                rotate_left
                                · simp only [Act.put, List.setIfInBounds_toArray, List.set_cons_zero, List.set_cons_succ, i64_w, i32_w]
                                  rfl
                                refine pure_ (i := 4) (N := some 41) (v := ?_) (a' := ?_) #[true, true, true, true, true, false, false, false, false, false, false, false, false, false, false, false, false, false, false, false, false, false, false, false] rfl rfl (any_of HT_.out (by kernel_rfl)) (fun _ _ _ h => h) (Or.inl ⟨by rfl, ?_⟩) ?_ ?_
                                rotate_left
                                · intro w'
                                  go_simp
                                  with_reducible rfl
                                rotate_left
                                · simp only [Act.put, List.setIfInBounds_toArray, List.set_cons_zero, List.set_cons_succ, i64_w, i32_w]
                                  rfl
                                refine pure_ (i := 5) (N := some 42) (v := ?_) (a' := ?_) #[true, true, true, true, true, true, false, false, false, false, false, false, false, false, false, false, false, false, false, false, false, false, false, false] rfl rfl (any_of HT_.out (by kernel_rfl)) (fun _ _ _ h => h) (Or.inl ⟨by rfl, ?_⟩) ?_ ?_
                                rotate_left
                                · intro w'
                                  go_simp
                                  with_reducible rfl
                                rotate_left
                                · simp only [Act.put, List.setIfInBounds_toArray, List.set_cons_zero, List.set_cons_succ, i64_w, i32_w]
                                  rfl
                                refine pure_ (i := 6) (N := some 43) (v := ?_) (a' := ?_) #[true, true, true, true, true, true, true, false, false, false, false, false, false, false, false, false, false, false, false, false, false, false, false, false] rfl rfl (any_of HT_.out (by kernel_rfl)) (fun _ _ _ h => h) (Or.inl ⟨by rfl, ?_⟩) ?_ ?_
                                rotate_left
                                · intro w'
                                  go_simp
                                  with_reducible rfl
                                rotate_left
                                · simp only [Act.put, List.setIfInBounds_toArray, List.set_cons_zero, List.set_cons_succ, i64_w, i32_w]
                                  rfl
                                refine pure_ (i := 7) (N := some 44) (v := ?_) (a' := ?_) #[true, true, true, true, true, true, true, true, false, false, false, false, false, false, false, false, false, false, false, false, false, false, false, false] rfl rfl (any_of HT_.out (by kernel_rfl)) (fun _ _ _ h => h) (Or.inl ⟨by rfl, ?_⟩) ?_ ?_
                                rotate_left
                                · intro w'
                                  go_simp
                                  with_reducible rfl
                                rotate_left
                                · simp only [Act.put, List.setIfInBounds_toArray, List.set_cons_zero, List.set_cons_succ, i64_w, i32_w]
                                  rfl
                                refine pure_ (i := 8) (N := some 45) (v := ?_) (a' := ?_) #[true, true, true, true, true, true, true, true, true, false, false, false, false, false, false, false, false, false, false, false, false, false, false, false] rfl rfl (any_of HT_.out (by kernel_rfl)) (fun _ _ _ h => h) (Or.inl ⟨by rfl, ?_⟩) ?_ ?_
                                rotate_left
                                · intro w'
                                  go_simp
                                  with_reducible rfl
                                rotate_left
                                · simp only [Act.put, List.setIfInBounds_toArray, List.set_cons_zero, List.set_cons_succ, i64_w, i32_w]
                                  rfl
                                refine pure_ (i := 10) (N := some 47) (v := ?_) (a' := ?_) #[true, true, true, true, true, true, true, true, true, false, true, false, false, false, false, false, false, false, false, false, false, false, false, false] rfl rfl (any_of HT_.out (by kernel_rfl)) (fun _ _ _ h => h) (Or.inl ⟨by rfl, ?_⟩) ?_ ?_
                                rotate_left
                                · intro w'
                                  go_simp
                                  with_reducible rfl
                                rotate_left
                                · simp only [Act.put, List.setIfInBounds_toArray, List.set_cons_zero, List.set_cons_succ, i64_w, i32_w]
                                  rfl
                                refine pure_ (i := 11) (N := some 48) (v := ?_) (a' := ?_) #[true, true, true, true, true, true, true, true, true, false, true, true, false, false, false, false, false, false, false, false, false, false, false, false] rfl rfl (any_of HT_.out (by kernel_rfl)) (fun _ _ _ h => h) (Or.inl ⟨by rfl, ?_⟩) ?_ ?_
                                rotate_left
                                · intro w'
                                  go_simp
                                  with_reducible rfl
                                rotate_left
                                · simp only [Act.put, List.setIfInBounds_toArray, List.set_cons_zero, List.set_cons_succ, i64_w, i32_w]
                                  rfl
                                refine pure_ (i := 12) (N := some 49) (v := ?_) (a' := ?_) #[true, true, true, true, true, true, true, true, true, false, true, true, true, false, false, false, false, false, false, false, false, false, false, false] rfl rfl (any_of HT_.out (by kernel_rfl)) (fun _ _ _ h => h) (Or.inl ⟨by rfl, ?_⟩) ?_ ?_
                                rotate_left
                                · intro w'
                                  go_simp
                                  with_reducible rfl
                                rotate_left
                                · simp only [Act.put, List.setIfInBounds_toArray, List.set_cons_zero, List.set_cons_succ, i64_w, i32_w]
                                  rfl
                                refine pure_ (i := 14) (N := some 51) (v := ?_) (a' := ?_) #[true, true, true, true, true, true, true, true, true, false, true, true, true, false, true, false, false, false, false, false, false, false, false, false] rfl rfl (any_of HT_.out (by kernel_rfl)) (fun _ _ _ h => h) (Or.inl ⟨by rfl, ?_⟩) ?_ ?_
                                rotate_left
                                · intro w'
                                  go_simp
                                  with_reducible rfl
                                rotate_left
                                · simp only [Act.put, List.setIfInBounds_toArray, List.set_cons_zero, List.set_cons_succ, i64_w, i32_w]
                                  rfl
                                refine pure_ (i := 15) (N := some 52) (v := ?_) (a' := ?_) #[true, true, true, true, true, true, true, true, true, false, true, true, true, false, true, true, false, false, false, false, false, false, false, false] rfl rfl (any_of HT_.out (by kernel_rfl)) (fun _ _ _ h => h) (Or.inl ⟨by rfl, ?_⟩) ?_ ?_
                                rotate_left
                                · intro w'
                                  go_simp
                                  with_reducible rfl
                                rotate_left
                                · simp only [Act.put, List.setIfInBounds_toArray, List.set_cons_zero, List.set_cons_succ, i64_w, i32_w]
                                  rfl
                                refine pure_ (i := 16) (N := some 53) (v := ?_) (a' := ?_) #[true, true, true, true, true, true, true, true, true, false, true, true, true, false, true, true, true, false, false, false, false, false, false, false] rfl rfl (any_of HT_.out (by kernel_rfl)) (fun _ _ _ h => h) (Or.inl ⟨by rfl, ?_⟩) ?_ ?_
                                rotate_left
                                · intro w'
                                  go_simp
                                  with_reducible rfl
                                rotate_left
                                · simp only [Act.put, List.setIfInBounds_toArray, List.set_cons_zero, List.set_cons_succ, i64_w, i32_w]
                                  rfl
                                refine pure_ (i := 20) (N := some 57) (v := ?_) (a' := ?_) #[true, true, true, true, true, true, true, true, true, false, true, true, true, false, true, true, true, false, false, false, true, false, false, false] rfl rfl (any_of HT_.out (by kernel_rfl)) (fun _ _ _ h => h) (Or.inl ⟨by rfl, ?_⟩) ?_ ?_
                                rotate_left
                                · intro w'
                                  go_simp
                                  with_reducible rfl
                                rotate_left
                                · simp only [Act.put, List.setIfInBounds_toArray, List.set_cons_zero, List.set_cons_succ, i64_w, i32_w]
                                  rfl
                                refine take_ (i := 9) (N := some 46) (v := ?_) (a' := ?_) #[true, true, true, true, true, true, true, true, true, true, true, true, true, false, true, true, true, false, false, false, true, false, false, false] rfl rfl (take_ofW HT_.out HW_.out (by kernel_rfl)) (fun _ _ _ h => h) (Or.inl ⟨by rfl, ?_⟩) hHeld ?_ ?_
                                rotate_left
                                · rintro w' ⟨s0, s1, s2⟩
                                  go_simp
                                  with_reducible rfl
                                rotate_left
                                · simp only [Act.put, List.setIfInBounds_toArray, List.set_cons_zero, List.set_cons_succ, i64_w, i32_w]
                                  rfl
                                refine take_ (i := 13) (N := some 50) (v := ?_) (a' := ?_) #[true, true, true, true, true, true, true, true, true, true, true, true, true, true, true, true, true, false, false, false, true, false, false, false] rfl rfl (take_ofW HT_.out HW_.out (by kernel_rfl)) (fun _ _ _ h => h) (Or.inl ⟨by rfl, ?_⟩) hHeld ?_ ?_
                                rotate_left
                                · rintro w' ⟨s0, s1, s2⟩
                                  go_simp
                                  with_reducible rfl
                                rotate_left
                                · simp only [Act.put, List.setIfInBounds_toArray, List.set_cons_zero, List.set_cons_succ, i64_w, i32_w]
                                  rfl
                                refine take_ (i := 17) (N := some 54) (v := ?_) (a' := ?_) #[true, true, true, true, true, true, true, true, true, true, true, true, true, true, true, true, true, true, false, false, true, false, false, false] rfl rfl (take_ofW HT_.out HW_.out (by kernel_rfl)) (fun _ _ _ h => h) (Or.inl ⟨by rfl, ?_⟩) hHeld ?_ ?_
                                rotate_left
                                · rintro w' ⟨s0, s1, s2⟩
                                  go_simp
                                  with_reducible rfl
                                rotate_left
                                · simp only [Act.put, List.setIfInBounds_toArray, List.set_cons_zero, List.set_cons_succ, i64_w, i32_w]
                                  rfl
                                refine pure_ (i := 18) (N := some 55) (v := ?_) (a' := ?_) #[true, true, true, true, true, true, true, true, true, true, true, true, true, true, true, true, true, true, true, false, true, false, false, false] rfl rfl (any_of HT_.out (by kernel_rfl)) (fun _ _ _ h => h) (Or.inl ⟨by rfl, ?_⟩) ?_ ?_
                                rotate_left
                                · intro w'
                                  go_simp
                                  with_reducible rfl
                                rotate_left
                                · simp only [Act.put, List.setIfInBounds_toArray, List.set_cons_zero, List.set_cons_succ, i64_w, i32_w]
                                  rfl
                                refine pure_ (i := 19) (N := some 56) (v := ?_) (a' := ?_) #[true, true, true, true, true, true, true, true, true, true, true, true, true, true, true, true, true, true, true, true, true, false, false, false] rfl rfl (any_of HT_.out (by kernel_rfl)) (fun _ _ _ h => h) (Or.inl ⟨by rfl, ?_⟩) ?_ ?_
                                rotate_left
                                · intro w'
                                  go_simp
                                  with_reducible rfl
                                rotate_left
                                · simp only [Act.put, List.setIfInBounds_toArray, List.set_cons_zero, List.set_cons_succ, i64_w, i32_w]
                                  rfl
                                refine pure_ (i := 21) (N := some 58) (v := ?_) (a' := ?_) #[true, true, true, true, true, true, true, true, true, true, true, true, true, true, true, true, true, true, true, true, true, true, false, false] rfl rfl (any_of HT_.out (by kernel_rfl)) (fun _ _ _ h => h) (Or.inl ⟨by rfl, ?_⟩) ?_ ?_
                                rotate_left
                                · intro w'
                                  go_simp
                                  with_reducible rfl
                                rotate_left
                                · simp only [Act.put, List.setIfInBounds_toArray, List.set_cons_zero, List.set_cons_succ, i64_w, i32_w]
                                  rfl
                                refine pure_ (i := 22) (N := some 59) (v := ?_) (a' := ?_) #[true, true, true, true, true, true, true, true, true, true, true, true, true, true, true, true, true, true, true, true, true, true, true, false] rfl rfl (any_of HT_.out (by kernel_rfl)) (fun _ _ _ h => h) (Or.inl ⟨by rfl, ?_⟩) ?_ ?_
                                rotate_left
                                · intro w'
                                  go_simp
                                  with_reducible rfl
                                rotate_left
                                · simp only [Act.put, List.setIfInBounds_toArray, List.set_cons_zero, List.set_cons_succ, i64_w, i32_w]
                                  rfl
                                refine last_ (i := 23) (N := none) #[true, true, true, true, true, true, true, true, true, true, true, true, true, true, true, true, true, true, true, true, true, true, true, true] rfl rfl (one_of HT_.out (by kernel_rfl)) (by decide) (fun K hK => ?_)
                                refine skip_ (w1 := ?_) (by rfl) rfl ?_ ?_
                                rotate_left
                                · go_simp
                                  rfl
                                refine hK.out _ _ ?_
                                clear hK K
                                refine done_ (done_of HT_.out (by kernel_rfl)) ?_
                                try go_wp2
                                (first | go_roundg k3 | (refine Handed.intro k3 ?measure ?_; rotate_left; go_step; (repeat rw [add_plain]); (repeat apply Exists.intro); refine ⟨?rel, rfl⟩))
                                case measure => have := HJ3.out; have := HK2.out; have := HK3.out; omega
                                case rel => exact ⟨(y457), (wrap64 (x9_3 + 1)), (by first | rfl | (simp; done) | (simp [*]; done)), H', ⟨by have := HJ3.out; have := HK2.out; have := HK3.out; omega⟩, ⟨by (with_reducible repeat (first | apply Kd.R_alloc | apply Kd.R_drewN | apply Kd.R_drew)); exact HQ24.out⟩, ⟨by repeat (first | (with_reducible first | exact HB.out | apply below_alloc | apply pw_below_drewN | apply below_drew1 | refine below_set ?_ GB21.out) | exact HB.out)⟩⟩
                            · rw [if_neg c19] at H
                              exact absurd H (by simp)
                          · rw [if_neg c18] at H
                            exact absurd H (by simp)
                        · rw [if_neg c17] at H
                          exact absurd H (by simp)
                      · rw [if_neg c16] at H
                        exact absurd H (by simp)
                    · rw [if_neg c15] at H
                      exact absurd H (by simp)
                  · rw [if_neg c13] at H
                    have c13b0 : decide (x9_3 < (l2.length : Int)) = false := decide_eq_false c13
                    clear c13
                    have H' := Aside0.mk H
                    clear H
                    go_wp2
                    (first | go_roundg k3 | (refine Handed.intro k3 ?measure ?_; rotate_left; go_step; (repeat rw [add_plain]); (repeat apply Exists.intro); refine ⟨?rel, rfl⟩))
                    case measure => have := HJ3.out; have := HK2.out; have := HK3.out; omega
                    case rel => exact ⟨(x7_3), (wrap64 (x8_2 + 1)), (by first | rfl | (simp; done) | (simp [*]; done)), H', ⟨by have := HJ3.out; have := HK2.out; have := HK3.out; omega⟩, ⟨by (with_reducible repeat (first | apply Kd.R_alloc | apply Kd.R_drewN | apply Kd.R_drew)); exact HO_7.out⟩, ⟨by with_reducible repeat (first | exact HB.out | apply bA | apply bB | apply bC)⟩⟩
             · rw [if_neg c12] at H
               have c12b0 : decide (x8_2 < (l1.length : Int)) = false := decide_eq_false c12
               clear c12
               replace H := Option.bind_eq_some_iff.mp H
               obtain ⟨t451, A250, H⟩ := H
               replace H : (some t451) = some r := H
               have A25 := Aside0.mk A250
               clear A250
               obtain rfl := Option.some.inj H
               obtain ⟨Ao26, co26, eo26⟩ := Kd.R_slice HO_7.out
               subst eo26
               go_wp2_with (first | ((with_reducible refine gate_callee (f := 40) rfl ?_); refine goesL_ (some 61) rfl rfl Try.func40 (by kernel_rfl) rfl #[.slice Ao26 x7_2.length co26] rfl (by (try simp only [mA, mB, mC]); first | done | rfl | (simp only [lD, lT]; rfl)) ?_; (with_reducible refine (galoisref09_Trim.calls k2 (fun k_ => some k_ = (.slice Ao26 x7_2.length co26 : Value).ownBlock) _ _ x7_2 t451 _ ?side1 A25.out).mono ?_); (case side1 => exact Kd.R_V (Kd.R_tight rfl (HO_7.out))); rintro e w27 ⟨v452, rfl, ho0, hb⟩; refine ⟨_, rfl, ?_⟩; have n0_ := Aside0.mk (Kd.R_below (by (with_reducible repeat (first | apply Kd.R_alloc | apply Kd.R_drewN | apply Kd.R_drew)); exact HO_7.out) hb); have n1_ := Aside0.mk (Kd.V_lower (Kd.V_mono (ok' := fun k_ => (w.heap.size ≤ k_)) ho0 (fun k_ hk_ => Or.elim hk_ (fun hs_ => ((HO_7.out).1 k_ hs_.symm)) (fun hn_ => (Nat.le_trans (below_size (by with_reducible repeat (first | exact HB.out | apply bA | apply bB | apply bC))) hn_)))) (below_size (by with_reducible repeat (first | exact HB.out | apply bA | apply bB | apply bC)))); have n2_ := Aside0.mk (below_step (by with_reducible repeat (first | exact HB.out | apply bA | apply bB | apply bC)) hb); clear HO_7; clear HB; have HO_7 := n0_; have HO453 := n1_; have HB := n2_; clear n0_ n1_ n2_; (try clear hb); (try clear hb2); (try clear hk); (try clear hi); (try clear ho0)))
               go_ret
               exact ⟨_, by first | rfl | (simp [errW_none, errW_some] <;> rfl) | (simp only [← hji7]; first | rfl | (simp [errW_none, errW_some] <;> rfl)) | (simp [*, errW_none, errW_some] <;> rfl), by (with_reducible repeat (first | apply vA | apply vB | apply vC)); exact HO453.out, by with_reducible repeat (first | exact HB.out | apply bA | apply bB | apply bC)⟩
        · rw [if_neg c9] at H
          exact absurd H (by simp)
      · rw [if_neg c8] at H
        exact absurd H (by simp)

end Go.Proofs.Ytmknclgamadphaa.PPolymodSums
