-- WRITTEN BY sprint.py (a program of this repo, over the kit's print.py): nothing here is trusted, Lean checks it.
import Derived.Test.YtmknclgamadphaaPPolymodPrimesx0
import Derived.Test.YtmknclgamadphaaPPolymodPrimesx1
import Derived.Test.YtmknclgamadphaaPPolymodPrimesx2
import Derived.Test.YtmknclgamadphaaPPolymodPrimesx3
import Derived.Test.YtmknclgamadphaaPPolymodPrimesx4
namespace Go.Proofs.Ytmknclgamadphaa.PPolymodPrimes
open Go.RowKit Go.Proofs.YtmknclgamadphaaW.PrintWords Go.Proofs.YtmknclgamadphaaW.PrintLast Go.Proofs.YtmknclgamadphaaW.PrintMore
attribute [local go_sem] max2_int min2_int max_two min_two max_three min_three max_four min_four   -- for this text's walks alone
set_option linter.unusedVariables false
set_option linter.unusedSimpArgs false

/-! ### fp_Irreducible: function 61 -/
def fp_Irreducible.l0 : Nat → Int → List Int → Int → List Int → List Int → Int → Option (Bool)
 | 0, _, _, _, _, _, _ => none
 | k + 1, x0, x1, x5, x6, x7, x8 => if x8 ≤ x5 then ((fp_Power.f k x0 x7 x1).bind fun t233 => ((fp_Rem.f k x0 x6 x1).bind fun t236 => ((fp_Sub.f k x0 t233 t236).bind fun t239 => (if x8 = x5 then (some ((t239.length : Int) == 0)) else (if x8 = 0 then (none) else (if (Int.tmod x5 x8) = 0 then ((fp_Gcd.f k x0 t239 x1).bind fun t242 => (if (t242.length : Int) = 1 then (fp_Irreducible.l0 k x0 x1 x5 x6 t233 (wrap64 (x8 + 1))) else (some false))) else (fp_Irreducible.l0 k x0 x1 x5 x6 t233 (wrap64 (x8 + 1))))))))) else (some false)
def fp_Irreducible.f (k : Nat) (a0 : Int) (l1 : List Int) : Option (Bool) := if (wrap64 ((l1.length : Int) - 1)) < 1 then (some false) else ((some (([0, 1] : List Int) : List Int)).bind fun y227 => ((fp_Rem.f k a0 y227 l1).bind fun t230 => (fp_Irreducible.l0 k a0 l1 (wrap64 ((l1.length : Int) - 1)) y227 t230 1)))
theorem fp_Irreducible.mono_l : ∀ k, (∀ y0 y1 y2 y3 y4 y5, LeO (fp_Irreducible.l0 k y0 y1 y2 y3 y4 y5) (fp_Irreducible.l0 (k + 1) y0 y1 y2 y3 y4 y5))
 | 0 => fun _ _ _ _ _ _ r h => by simp [fp_Irreducible.l0] at h
 | k + 1 => by
   have ih0 := fp_Irreducible.mono_l k
   · intro y0 y1 y2 y3 y4 y5
     unfold fp_Irreducible.l0
     repeat' first
     | (with_reducible apply ih0)
     | (with_reducible apply fp_Gcd.mono)
     | (with_reducible apply fp_Power.mono)
     | (with_reducible apply fp_Rem.mono)
     | (with_reducible apply fp_Sub.mono)
     | (with_reducible apply LeO.refl)
     | (with_reducible apply LeO.none)
     | (with_reducible refine LeO.ite ?_ ?_)
     | (with_reducible refine LeO.bind ?_ (fun _ => ?_))
theorem fp_Irreducible.mono : ∀ a0 a1 k, LeO (fp_Irreducible.f k a0 a1) (fp_Irreducible.f (k + 1) a0 a1) := by
 intro a0 a1 k
 have ih0 := fp_Irreducible.mono_l k
 unfold fp_Irreducible.f
 repeat' first
  | (with_reducible apply ih0)
  | (with_reducible apply fp_Gcd.mono)
  | (with_reducible apply fp_Power.mono)
  | (with_reducible apply fp_Rem.mono)
  | (with_reducible apply fp_Sub.mono)
  | (with_reducible apply LeO.refl)
  | (with_reducible apply LeO.none)
  | (with_reducible refine LeO.ite ?_ ?_)
  | (with_reducible refine LeO.bind ?_ (fun _ => ?_))
set_option maxHeartbeats 8000000 in
set_option maxRecDepth 100000 in
theorem fp_Irreducible.calls (k : Nat) (a0 : Int) (A1 : Option Addr) (c1 : Nat) (l1 : List Int) (r : Bool) (w : World) (hr1 : Kd.C (Kd.int .i64) w A1 l1.length l1) (hc1 : l1.length ≤ c1) (h : fp_Irreducible.f k a0 l1 = some r) :
 Calls Try.prog 61 #[.int .i64 a0, .slice A1 l1.length c1] w fun e w' => e = .returned (.bool r) ∧ Below w.heap.size w w' := by
 have HR1 := ak hr1
 have HC1 := ak hc1
 clear hr1 hc1
 have HB := ak (Below.refl w.heap.size w)
 have H : (if (wrap64 ((l1.length : Int) - 1)) < 1 then (some false) else ((some (([0, 1] : List Int) : List Int)).bind fun y227 => ((fp_Rem.f k a0 y227 l1).bind fun t230 => (fp_Irreducible.l0 k a0 l1 (wrap64 ((l1.length : Int) - 1)) y227 t230 1)))) = some r := h
 clear h
 by_cases c3 : (wrap64 ((l1.length : Int) - 1)) < 1
 · rw [if_pos c3] at H
   have c3b0 : decide ((wrap64 ((l1.length : Int) - 1)) < 1) = true := decide_eq_true c3
   clear c3
   as_aux_lemma =>
    obtain rfl := Option.some.inj H
    go_enter Try.func61, Try.ntmps61
    go_wp2
    go_ret
    exact ⟨by first | rfl | (simp [errW_none, errW_some] <;> rfl) | (simp [*, errW_none, errW_some] <;> rfl), by repeat (first | (with_reducible first | exact HB.out | apply bA | apply bB | apply bC) | exact HB.out)⟩
 · rw [if_neg c3] at H
   have c3b0 : decide ((wrap64 ((l1.length : Int) - 1)) < 1) = false := decide_eq_false c3
   clear c3
   obtain ⟨y227, hy227⟩ : ∃ y_ : List Int, y_ = (([0, 1] : List Int)) := ⟨_, rfl⟩
   replace H : ((fp_Rem.f k a0 y227 l1).bind fun t230 => (fp_Irreducible.l0 k a0 l1 (wrap64 ((l1.length : Int) - 1)) y227 t230 1)) = some r := by first | (rw [hy227]; with_reducible exact H) | (have H2_ := (Option.bind_some _ _).symm.trans H; rw [hy227]; with_reducible exact H2_) | (have H2_ := (Option.bind_some _ _).symm.trans H; with_reducible exact H2_) | with_reducible exact H | (rw [hy227]; exact H) | exact H
   have Ny227 := ak hy227
   clear hy227
   replace H := Option.bind_eq_some_iff.mp H
   obtain ⟨t230, A40, H⟩ := H
   replace H : (fp_Irreducible.l0 k a0 l1 (wrap64 ((l1.length : Int) - 1)) y227 t230 1) = some r := H
   have A4 := ak A40
   clear A40
   have H' := ak H
   clear H
   go_enter Try.func61, Try.ntmps61
   go_wp2_with (first | ((with_reducible refine gate_dst (N := 15) rfl ?_); (try (refine gate_guard (by rfl) ?_; dsimp only)); refine Kd.R_lit (Kd.int .i64) _ 3 ?hg (N := 15) ?hd (xs := ([0, 1] : List Int)) (inner := [.int .i64 0, .int .i64 1]) (ok := fun _ => True) (okp := fun _ => True) ?hr ?hp (fun _ hk => hk) trivial (Below.refl _ _) (Nat.le_refl _) (by simp) ?_; (case hd => rfl); (case hg => rfl); (case hr => first | (go_simp; done) | (go_simp; rfl)); (case hp => exact (Reps.one (show Kd.M (Kd.int .i64) _ _ _ 0 [.int .i64 0] from rfl) (Reps.one (show Kd.M (Kd.int .i64) _ _ _ 1 [.int .i64 1] from rfl) (Reps.none _ _)))); intro v228 w5 ho6 hb hg_ hnew_; clear hg_ hnew_; (first | rw [← Ny227.out] at ho6 | (simp only [Int.reduceToNat] at ho6; rw [← Ny227.out] at ho6)); have n0_ := ak (Kd.R_lower ho6 (below_size bX)); have n1_ := ak (below_step bX hb); clear HB; have HO229 := n0_; have HB := n1_; clear n0_ n1_; clear hb ho6; obtain ⟨Ao7, co7, eo7⟩ := Kd.R_slice HO229.out; subst eo7) | ((with_reducible refine gate_callee (f := 70) rfl ?_); refine goesL_ (some 19) rfl rfl Try.func70 (by kernel_rfl) rfl #[.int .i64 a0, .slice Ao7 y227.length co7, .slice A1 l1.length c1] rfl mX ?_; (with_reducible refine (fp_Rem.calls k a0 _ _ y227 _ _ l1 t230 _ ?side1 ?side2 ?side3 ?side4 A4.out).mono ?_); (case side1 => exact cX (Kd.R_reads' HO229.out).2.2); (case side2 => exact (Kd.R_reads' HO229.out).2.1); (case side3 => exact cX (Kd.C_below HR1.out HB.out)); (case side4 => exact HC1.out); rintro e w8 ⟨v231, rfl, ho0, hb⟩; refine ⟨_, rfl, ?_⟩; have n0_ := ak (Kd.R_below (rX HO229.out) hb); have n1_ := ak (Kd.V_lower (Kd.V_mono (ok' := fun k_ => some k_ ≠ (.slice Ao7 y227.length co7 : Value).ownBlock) ho0 (fun k_ hk_ => (Kd.fresh' (Kd.R_lt (rX HO229.out)) k_ hk_))) (below_size bX)); have n2_ := ak (below_step bX hb); clear HO229; clear HB; have HO229 := n0_; have HO232 := n1_; have HB := n2_; clear n0_ n1_ n2_; (try clear hb); (try clear hb2); (try clear hk); (try clear hi); (try clear ho0)))
   go_loopg [7, 8] k (fun kq v7 v8 w' => ∃ (x7_1 : List Int) (x8_1 : Int), v8 = .int .i64 x8_1 ∧ Aside0 (fp_Irreducible.l0 kq a0 l1 (wrap64 ((l1.length : Int) - 1)) y227 x7_1 x8_1 = some r) ∧ Aside0 (kq ≤ k) ∧ Aside0 (Kd.R (Kd.int .i64) 3 w' w.heap.size (fun _ => True) (.slice Ao7 y227.length co7) y227) ∧ Aside0 (Kd.V (Kd.int .i64) 3 w' w.heap.size (fun k_ => some k_ ≠ ((.slice Ao7 y227.length co7) : Value).ownBlock) v7 x7_1) ∧ Aside0 (Below w.heap.size w w'))
   case atStart => exact ⟨(t230), (1), (by first | rfl | (simp; done) | (simp [*]; done)), H', ⟨Nat.le_refl _⟩, ⟨by (with_reducible repeat (first | apply Kd.R_alloc | apply Kd.R_drewN | apply Kd.R_drew)); exact HO229.out⟩, ⟨by (with_reducible repeat (first | apply vA | apply vB | apply vC)); exact HO232.out⟩, ⟨by repeat (first | (with_reducible first | exact HB.out | apply bA | apply bB | apply bC) | exact HB.out)⟩⟩
   case round =>
    clear H'
    try clear c1
    try clear p2
    try clear c3
    try clear c3b0
    try clear c6
    try clear p6
    try clear c7
    obtain ⟨x7_1, x8_1, rfl, HA, HK1, HO_6, HO_7, HB⟩ := hrel
    cases gk with
    | zero => exact absurd HA.out (by simp [fp_Irreducible.l0])
    | succ k1 =>
      have H := HA.out
      clear HA
      simp only [fp_Irreducible.l0] at H
      by_cases c9 : x8_1 ≤ (wrap64 ((l1.length : Int) - 1))
      · rw [if_pos c9] at H
        have c9b0 : decide (x8_1 ≤ (wrap64 ((l1.length : Int) - 1))) = true := decide_eq_true c9
        clear c9
        replace H := Option.bind_eq_some_iff.mp H
        obtain ⟨t233, A100, H⟩ := H
        replace H : ((fp_Rem.f k1 a0 y227 l1).bind fun t236 => ((fp_Sub.f k1 a0 t233 t236).bind fun t239 => (if x8_1 = (wrap64 ((l1.length : Int) - 1)) then (some ((t239.length : Int) == 0)) else (if x8_1 = 0 then (none) else (if (Int.tmod (wrap64 ((l1.length : Int) - 1)) x8_1) = 0 then ((fp_Gcd.f k1 a0 t239 l1).bind fun t242 => (if (t242.length : Int) = 1 then (fp_Irreducible.l0 k1 a0 l1 (wrap64 ((l1.length : Int) - 1)) y227 t233 (wrap64 (x8_1 + 1))) else (some false))) else (fp_Irreducible.l0 k1 a0 l1 (wrap64 ((l1.length : Int) - 1)) y227 t233 (wrap64 (x8_1 + 1)))))))) = some r := H
        have A10 := ak A100
        clear A100
        replace H := Option.bind_eq_some_iff.mp H
        obtain ⟨t236, A110, H⟩ := H
        replace H : ((fp_Sub.f k1 a0 t233 t236).bind fun t239 => (if x8_1 = (wrap64 ((l1.length : Int) - 1)) then (some ((t239.length : Int) == 0)) else (if x8_1 = 0 then (none) else (if (Int.tmod (wrap64 ((l1.length : Int) - 1)) x8_1) = 0 then ((fp_Gcd.f k1 a0 t239 l1).bind fun t242 => (if (t242.length : Int) = 1 then (fp_Irreducible.l0 k1 a0 l1 (wrap64 ((l1.length : Int) - 1)) y227 t233 (wrap64 (x8_1 + 1))) else (some false))) else (fp_Irreducible.l0 k1 a0 l1 (wrap64 ((l1.length : Int) - 1)) y227 t233 (wrap64 (x8_1 + 1))))))) = some r := H
        have A11 := ak A110
        clear A110
        replace H := Option.bind_eq_some_iff.mp H
        obtain ⟨t239, A120, H⟩ := H
        replace H : (if x8_1 = (wrap64 ((l1.length : Int) - 1)) then (some ((t239.length : Int) == 0)) else (if x8_1 = 0 then (none) else (if (Int.tmod (wrap64 ((l1.length : Int) - 1)) x8_1) = 0 then ((fp_Gcd.f k1 a0 t239 l1).bind fun t242 => (if (t242.length : Int) = 1 then (fp_Irreducible.l0 k1 a0 l1 (wrap64 ((l1.length : Int) - 1)) y227 t233 (wrap64 (x8_1 + 1))) else (some false))) else (fp_Irreducible.l0 k1 a0 l1 (wrap64 ((l1.length : Int) - 1)) y227 t233 (wrap64 (x8_1 + 1)))))) = some r := H
        have A12 := ak A120
        clear A120
        by_cases c13 : x8_1 = (wrap64 ((l1.length : Int) - 1))
        · rw [if_pos c13] at H
          have c13b0 : (x8_1 == (wrap64 ((l1.length : Int) - 1))) = true := beq_iff_eq.mpr c13
          have c13b1 : (x8_1 != (wrap64 ((l1.length : Int) - 1))) = false := bne_eq_false_iff_eq.mpr c13
          clear c13
          as_aux_lemma =>
           obtain rfl := Option.some.inj H
           obtain ⟨Ao14, co14, eo14⟩ := Kd.V_slice HO_7.out
           subst eo14
           go_wp2_with (first | ((with_reducible refine gate_callee (f := 104) rfl ?_); refine goesL_ (some 28) rfl rfl Try.func104 (by kernel_rfl) rfl #[.int .i64 a0, .slice Ao14 x7_1.length co14, .slice A1 l1.length c1] rfl mX ?_; (with_reducible refine (fp_Power.calls k1 a0 _ _ x7_1 _ _ l1 t233 _ ?side1 ?side2 ?side3 ?side4 A10.out).mono ?_); (case side1 => exact cX (Kd.V_reads' HO_7.out).2.2); (case side2 => exact (Kd.V_reads' HO_7.out).2.1); (case side3 => exact cX (Kd.C_below HR1.out HB.out)); (case side4 => exact HC1.out); rintro e w15 ⟨v234, rfl, ho0, hb⟩; refine ⟨_, rfl, ?_⟩; have n0_ := ak (Kd.R_below (rX HO_6.out) hb); have n1_ := ak (Kd.V_below (vX HO_7.out) hb); have n2_ := ak (Kd.V_lower (Kd.V_mono (ok' := fun k_ => some k_ ≠ (.slice Ao7 y227.length co7 : Value).ownBlock) ho0 (fun k_ hk_ => (Kd.fresh' (Kd.R_lt (rX HO_6.out)) k_ hk_))) (below_size bX)); have n3_ := ak (below_step bX hb); clear HO_6; clear HO_7; clear HB; have HO_6 := n0_; have HO_7 := n1_; have HO235 := n2_; have HB := n3_; clear n0_ n1_ n2_ n3_; (try clear hb); (try clear hb2); (try clear hk); (try clear hi); (try clear ho0)) | ((with_reducible refine gate_callee (f := 70) rfl ?_); refine goesL_ (some 34) rfl rfl Try.func70 (by kernel_rfl) rfl #[.int .i64 a0, .slice Ao7 y227.length co7, .slice A1 l1.length c1] rfl mX ?_; (with_reducible refine (fp_Rem.calls k1 a0 _ _ y227 _ _ l1 t236 _ ?side1 ?side2 ?side3 ?side4 A11.out).mono ?_); (case side1 => exact cX (Kd.R_reads' HO_6.out).2.2); (case side2 => exact (Kd.R_reads' HO_6.out).2.1); (case side3 => exact cX (Kd.C_below HR1.out HB.out)); (case side4 => exact HC1.out); rintro e w16 ⟨v237, rfl, ho0, hb⟩; refine ⟨_, rfl, ?_⟩; have n0_ := ak (Kd.R_below (rX HO_6.out) hb); have n1_ := ak (Kd.V_below (vX HO_7.out) hb); have n2_ := ak (Kd.V_below (vX HO235.out) hb); have n3_ := ak (Kd.V_lower (Kd.V_mono (ok' := fun k_ => some k_ ≠ (.slice Ao7 y227.length co7 : Value).ownBlock) ho0 (fun k_ hk_ => (Kd.fresh' (Kd.R_lt (rX HO_6.out)) k_ hk_))) (below_size bX)); have n4_ := ak (below_step bX hb); clear HO_6; clear HO_7; clear HO235; clear HB; have HO_6 := n0_; have HO_7 := n1_; have HO235 := n2_; have HO238 := n3_; have HB := n4_; clear n0_ n1_ n2_ n3_ n4_; (try clear hb); (try clear hb2); (try clear hk); (try clear hi); (try clear ho0); obtain ⟨Ao17, co17, eo17⟩ := Kd.V_slice HO235.out; subst eo17; obtain ⟨Ao18, co18, eo18⟩ := Kd.V_slice HO238.out; subst eo18) | ((with_reducible refine gate_callee (f := 73) rfl ?_); refine goesL_ (some 35) rfl rfl Try.func73 (by kernel_rfl) rfl #[.int .i64 a0, .slice Ao17 t233.length co17, .slice Ao18 t236.length co18] rfl mX ?_; (with_reducible refine (fp_Sub.calls k1 a0 _ _ t233 _ _ t236 t239 _ ?side1 ?side2 ?side3 ?side4 A12.out).mono ?_); (case side1 => exact cX (Kd.V_reads' HO235.out).2.2); (case side2 => exact (Kd.V_reads' HO235.out).2.1); (case side3 => exact cX (Kd.V_reads' HO238.out).2.2); (case side4 => exact (Kd.V_reads' HO238.out).2.1); rintro e w19 ⟨v240, rfl, ho0, hb⟩; refine ⟨_, rfl, ?_⟩; have n0_ := ak (Kd.R_below (rX HO_6.out) hb); have n1_ := ak (Kd.V_below (vX HO_7.out) hb); have n2_ := ak (Kd.V_below (vX HO235.out) hb); have n3_ := ak (Kd.V_below (vX HO238.out) hb); have n4_ := ak (Kd.V_lower (Kd.V_mono (ok' := fun k_ => some k_ ≠ (.slice Ao7 y227.length co7 : Value).ownBlock) ho0 (fun k_ hk_ => (Kd.fresh' (Kd.R_lt (rX HO_6.out)) k_ hk_))) (below_size bX)); have n5_ := ak (below_step bX hb); clear HO_6; clear HO_7; clear HO235; clear HO238; clear HB; have HO_6 := n0_; have HO_7 := n1_; have HO235 := n2_; have HO238 := n3_; have HO241 := n4_; have HB := n5_; clear n0_ n1_ n2_ n3_ n4_ n5_; (try clear hb); (try clear hb2); (try clear hk); (try clear hi); (try clear ho0); obtain ⟨Ao20, co20, eo20⟩ := Kd.V_slice HO241.out; subst eo20))
           go_ret
           exact ⟨by first | rfl | (simp [errW_none, errW_some] <;> rfl) | (simp [*, errW_none, errW_some] <;> rfl), by repeat (first | (with_reducible first | exact HB.out | apply bA | apply bB | apply bC) | exact HB.out)⟩
        · rw [if_neg c13] at H
          have c13b0 : (x8_1 == (wrap64 ((l1.length : Int) - 1))) = false := beq_eq_false_iff_ne.mpr c13
          have c13b1 : (x8_1 != (wrap64 ((l1.length : Int) - 1))) = true := bne_iff_ne.mpr c13
          by_cases c21 : x8_1 = 0
          · rw [if_pos c21] at H
            exact absurd H (by simp)
          · rw [if_neg c21] at H
            have c21b0 : (x8_1 == 0) = false := beq_eq_false_iff_ne.mpr c21
            have c21b1 : (x8_1 != 0) = true := bne_iff_ne.mpr c21
            by_cases c22 : (Int.tmod (wrap64 ((l1.length : Int) - 1)) x8_1) = 0
            · rw [if_pos c22] at H
              have c22b0 : ((Int.tmod (wrap64 ((l1.length : Int) - 1)) x8_1) == 0) = true := beq_iff_eq.mpr c22
              have c22b1 : ((Int.tmod (wrap64 ((l1.length : Int) - 1)) x8_1) != 0) = false := bne_eq_false_iff_eq.mpr c22
              clear c22
              replace H := Option.bind_eq_some_iff.mp H
              obtain ⟨t242, A230, H⟩ := H
              replace H : (if (t242.length : Int) = 1 then (fp_Irreducible.l0 k1 a0 l1 (wrap64 ((l1.length : Int) - 1)) y227 t233 (wrap64 (x8_1 + 1))) else (some false)) = some r := H
              have A23 := ak A230
              clear A230
              by_cases c24 : (t242.length : Int) = 1
              · rw [if_pos c24] at H
                have c24b0 : ((t242.length : Int) == 1) = true := beq_iff_eq.mpr c24
                have c24b1 : ((t242.length : Int) != 1) = false := bne_eq_false_iff_eq.mpr c24
                clear c24
                as_aux_lemma =>
                 have H' := ak H
                 clear H
                 obtain ⟨Ao25, co25, eo25⟩ := Kd.V_slice HO_7.out
                 subst eo25
                 go_wp2_with (first | ((with_reducible refine gate_callee (f := 104) rfl ?_); refine goesL_ (some 28) rfl rfl Try.func104 (by kernel_rfl) rfl #[.int .i64 a0, .slice Ao25 x7_1.length co25, .slice A1 l1.length c1] rfl mX ?_; (with_reducible refine (fp_Power.calls k1 a0 _ _ x7_1 _ _ l1 t233 _ ?side1 ?side2 ?side3 ?side4 A10.out).mono ?_); (case side1 => exact cX (Kd.V_reads' HO_7.out).2.2); (case side2 => exact (Kd.V_reads' HO_7.out).2.1); (case side3 => exact cX (Kd.C_below HR1.out HB.out)); (case side4 => exact HC1.out); rintro e w26 ⟨v234, rfl, ho0, hb⟩; refine ⟨_, rfl, ?_⟩; have n0_ := ak (Kd.R_below (rX HO_6.out) hb); have n1_ := ak (Kd.V_below (vX HO_7.out) hb); have n2_ := ak (Kd.V_lower (Kd.V_mono (ok' := fun k_ => some k_ ≠ (.slice Ao7 y227.length co7 : Value).ownBlock) ho0 (fun k_ hk_ => (Kd.fresh' (Kd.R_lt (rX HO_6.out)) k_ hk_))) (below_size bX)); have n3_ := ak (below_step bX hb); clear HO_6; clear HO_7; clear HB; have HO_6 := n0_; have HO_7 := n1_; have HO235 := n2_; have HB := n3_; clear n0_ n1_ n2_ n3_; (try clear hb); (try clear hb2); (try clear hk); (try clear hi); (try clear ho0)) | ((with_reducible refine gate_callee (f := 70) rfl ?_); refine goesL_ (some 34) rfl rfl Try.func70 (by kernel_rfl) rfl #[.int .i64 a0, .slice Ao7 y227.length co7, .slice A1 l1.length c1] rfl mX ?_; (with_reducible refine (fp_Rem.calls k1 a0 _ _ y227 _ _ l1 t236 _ ?side1 ?side2 ?side3 ?side4 A11.out).mono ?_); (case side1 => exact cX (Kd.R_reads' HO_6.out).2.2); (case side2 => exact (Kd.R_reads' HO_6.out).2.1); (case side3 => exact cX (Kd.C_below HR1.out HB.out)); (case side4 => exact HC1.out); rintro e w27 ⟨v237, rfl, ho0, hb⟩; refine ⟨_, rfl, ?_⟩; have n0_ := ak (Kd.R_below (rX HO_6.out) hb); have n1_ := ak (Kd.V_below (vX HO_7.out) hb); have n2_ := ak (Kd.V_below (vX HO235.out) hb); have n3_ := ak (Kd.V_lower (Kd.V_mono (ok' := fun k_ => some k_ ≠ (.slice Ao7 y227.length co7 : Value).ownBlock) ho0 (fun k_ hk_ => (Kd.fresh' (Kd.R_lt (rX HO_6.out)) k_ hk_))) (below_size bX)); have n4_ := ak (below_step bX hb); clear HO_6; clear HO_7; clear HO235; clear HB; have HO_6 := n0_; have HO_7 := n1_; have HO235 := n2_; have HO238 := n3_; have HB := n4_; clear n0_ n1_ n2_ n3_ n4_; (try clear hb); (try clear hb2); (try clear hk); (try clear hi); (try clear ho0); obtain ⟨Ao28, co28, eo28⟩ := Kd.V_slice HO235.out; subst eo28; obtain ⟨Ao29, co29, eo29⟩ := Kd.V_slice HO238.out; subst eo29) | ((with_reducible refine gate_callee (f := 73) rfl ?_); refine goesL_ (some 35) rfl rfl Try.func73 (by kernel_rfl) rfl #[.int .i64 a0, .slice Ao28 t233.length co28, .slice Ao29 t236.length co29] rfl mX ?_; (with_reducible refine (fp_Sub.calls k1 a0 _ _ t233 _ _ t236 t239 _ ?side1 ?side2 ?side3 ?side4 A12.out).mono ?_); (case side1 => exact cX (Kd.V_reads' HO235.out).2.2); (case side2 => exact (Kd.V_reads' HO235.out).2.1); (case side3 => exact cX (Kd.V_reads' HO238.out).2.2); (case side4 => exact (Kd.V_reads' HO238.out).2.1); rintro e w30 ⟨v240, rfl, ho0, hb⟩; refine ⟨_, rfl, ?_⟩; have n0_ := ak (Kd.R_below (rX HO_6.out) hb); have n1_ := ak (Kd.V_below (vX HO_7.out) hb); have n2_ := ak (Kd.V_below (vX HO235.out) hb); have n3_ := ak (Kd.V_below (vX HO238.out) hb); have n4_ := ak (Kd.V_lower (Kd.V_mono (ok' := fun k_ => some k_ ≠ (.slice Ao7 y227.length co7 : Value).ownBlock) ho0 (fun k_ hk_ => (Kd.fresh' (Kd.R_lt (rX HO_6.out)) k_ hk_))) (below_size bX)); have n5_ := ak (below_step bX hb); clear HO_6; clear HO_7; clear HO235; clear HO238; clear HB; have HO_6 := n0_; have HO_7 := n1_; have HO235 := n2_; have HO238 := n3_; have HO241 := n4_; have HB := n5_; clear n0_ n1_ n2_ n3_ n4_ n5_; (try clear hb); (try clear hb2); (try clear hk); (try clear hi); (try clear ho0); obtain ⟨Ao31, co31, eo31⟩ := Kd.V_slice HO241.out; subst eo31) | (go_at_call 81; (with_reducible refine (fp_Gcd.calls k1 a0 (fun k_ => some k_ ≠ (.slice Ao7 y227.length co7 : Value).ownBlock) _ _ t239 (fun k_ => k_ < w.heap.size) _ _ l1 t242 _ ?side1 ?side2 A23.out).mono ?_); (case side1 => exact HO241.out); (case side2 => exact Kd.V_mk HC1.out (Kd.F_below (Kd.C_F (Kd.heap_int .i64) HR1.out) bX)); rintro e w32 ⟨v243, rfl, ho0, hb⟩; have n0_ := ak (Kd.R_below (rX HO_6.out) hb); have n1_ := ak (Kd.V_below (vX HO_7.out) hb); have n2_ := ak (Kd.V_below (vX HO235.out) hb); have n3_ := ak (Kd.V_below (vX HO238.out) hb); have n4_ := ak (Kd.V_below (vX HO241.out) hb); have n5_ := ak (Kd.V_lower (Kd.V_mono (ok' := fun k_ => some k_ ≠ (.slice Ao7 y227.length co7 : Value).ownBlock) ho0 (fun k_ hk_ => Or.elim hk_ (fun hs_ => Or.elim hs_ (fun hs_ => hs_) (fun hs_ => fun e_ => Nat.not_le.2 hs_ (Kd.R_base HO_6.out k_ e_.symm))) (fun hn_ => (Kd.fresh' (Kd.R_lt (rX HO_6.out)) k_ hn_)))) (below_size bX)); have n6_ := ak (below_step bX hb); clear HO_6; clear HO_7; clear HO235; clear HO238; clear HO241; clear HB; have HO_6 := n0_; have HO_7 := n1_; have HO235 := n2_; have HO238 := n3_; have HO241 := n4_; have HO244 := n5_; have HB := n6_; clear n0_ n1_ n2_ n3_ n4_ n5_ n6_; (try clear hb); (try clear hb2); (try clear hk); (try clear hi); (try clear ho0); obtain ⟨Ao33, co33, eo33⟩ := Kd.V_slice HO244.out; subst eo33))
                 (first | go_roundg k1 | (refine Handed.intro k1 ?measure ?_; rotate_left; go_step; (repeat rw [add_plain]); (repeat apply Exists.intro); refine ⟨?rel, rfl⟩))
                 case measure => have := HK1.out; omega
                 case rel => exact ⟨(t233), (wrap64 (x8_1 + 1)), (by first | rfl | (simp; done) | (simp [*]; done)), H', ⟨by have := HK1.out; omega⟩, ⟨by (with_reducible repeat (first | apply Kd.R_alloc | apply Kd.R_drewN | apply Kd.R_drew)); exact HO_6.out⟩, ⟨by (with_reducible repeat (first | apply vA | apply vB | apply vC)); exact HO235.out⟩, ⟨by repeat (first | (with_reducible first | exact HB.out | apply bA | apply bB | apply bC) | exact HB.out)⟩⟩
              · rw [if_neg c24] at H
                have c24b0 : ((t242.length : Int) == 1) = false := beq_eq_false_iff_ne.mpr c24
                have c24b1 : ((t242.length : Int) != 1) = true := bne_iff_ne.mpr c24
                as_aux_lemma =>
                 obtain rfl := Option.some.inj H
                 obtain ⟨Ao34, co34, eo34⟩ := Kd.V_slice HO_7.out
                 subst eo34
                 go_wp2_with (first | ((with_reducible refine gate_callee (f := 104) rfl ?_); refine goesL_ (some 28) rfl rfl Try.func104 (by kernel_rfl) rfl #[.int .i64 a0, .slice Ao34 x7_1.length co34, .slice A1 l1.length c1] rfl mX ?_; (with_reducible refine (fp_Power.calls k1 a0 _ _ x7_1 _ _ l1 t233 _ ?side1 ?side2 ?side3 ?side4 A10.out).mono ?_); (case side1 => exact cX (Kd.V_reads' HO_7.out).2.2); (case side2 => exact (Kd.V_reads' HO_7.out).2.1); (case side3 => exact cX (Kd.C_below HR1.out HB.out)); (case side4 => exact HC1.out); rintro e w35 ⟨v234, rfl, ho0, hb⟩; refine ⟨_, rfl, ?_⟩; have n0_ := ak (Kd.R_below (rX HO_6.out) hb); have n1_ := ak (Kd.V_below (vX HO_7.out) hb); have n2_ := ak (Kd.V_lower (Kd.V_mono (ok' := fun k_ => some k_ ≠ (.slice Ao7 y227.length co7 : Value).ownBlock) ho0 (fun k_ hk_ => (Kd.fresh' (Kd.R_lt (rX HO_6.out)) k_ hk_))) (below_size bX)); have n3_ := ak (below_step bX hb); clear HO_6; clear HO_7; clear HB; have HO_6 := n0_; have HO_7 := n1_; have HO235 := n2_; have HB := n3_; clear n0_ n1_ n2_ n3_; (try clear hb); (try clear hb2); (try clear hk); (try clear hi); (try clear ho0)) | ((with_reducible refine gate_callee (f := 70) rfl ?_); refine goesL_ (some 34) rfl rfl Try.func70 (by kernel_rfl) rfl #[.int .i64 a0, .slice Ao7 y227.length co7, .slice A1 l1.length c1] rfl mX ?_; (with_reducible refine (fp_Rem.calls k1 a0 _ _ y227 _ _ l1 t236 _ ?side1 ?side2 ?side3 ?side4 A11.out).mono ?_); (case side1 => exact cX (Kd.R_reads' HO_6.out).2.2); (case side2 => exact (Kd.R_reads' HO_6.out).2.1); (case side3 => exact cX (Kd.C_below HR1.out HB.out)); (case side4 => exact HC1.out); rintro e w36 ⟨v237, rfl, ho0, hb⟩; refine ⟨_, rfl, ?_⟩; have n0_ := ak (Kd.R_below (rX HO_6.out) hb); have n1_ := ak (Kd.V_below (vX HO_7.out) hb); have n2_ := ak (Kd.V_below (vX HO235.out) hb); have n3_ := ak (Kd.V_lower (Kd.V_mono (ok' := fun k_ => some k_ ≠ (.slice Ao7 y227.length co7 : Value).ownBlock) ho0 (fun k_ hk_ => (Kd.fresh' (Kd.R_lt (rX HO_6.out)) k_ hk_))) (below_size bX)); have n4_ := ak (below_step bX hb); clear HO_6; clear HO_7; clear HO235; clear HB; have HO_6 := n0_; have HO_7 := n1_; have HO235 := n2_; have HO238 := n3_; have HB := n4_; clear n0_ n1_ n2_ n3_ n4_; (try clear hb); (try clear hb2); (try clear hk); (try clear hi); (try clear ho0); obtain ⟨Ao37, co37, eo37⟩ := Kd.V_slice HO235.out; subst eo37; obtain ⟨Ao38, co38, eo38⟩ := Kd.V_slice HO238.out; subst eo38) | ((with_reducible refine gate_callee (f := 73) rfl ?_); refine goesL_ (some 35) rfl rfl Try.func73 (by kernel_rfl) rfl #[.int .i64 a0, .slice Ao37 t233.length co37, .slice Ao38 t236.length co38] rfl mX ?_; (with_reducible refine (fp_Sub.calls k1 a0 _ _ t233 _ _ t236 t239 _ ?side1 ?side2 ?side3 ?side4 A12.out).mono ?_); (case side1 => exact cX (Kd.V_reads' HO235.out).2.2); (case side2 => exact (Kd.V_reads' HO235.out).2.1); (case side3 => exact cX (Kd.V_reads' HO238.out).2.2); (case side4 => exact (Kd.V_reads' HO238.out).2.1); rintro e w39 ⟨v240, rfl, ho0, hb⟩; refine ⟨_, rfl, ?_⟩; have n0_ := ak (Kd.R_below (rX HO_6.out) hb); have n1_ := ak (Kd.V_below (vX HO_7.out) hb); have n2_ := ak (Kd.V_below (vX HO235.out) hb); have n3_ := ak (Kd.V_below (vX HO238.out) hb); have n4_ := ak (Kd.V_lower (Kd.V_mono (ok' := fun k_ => some k_ ≠ (.slice Ao7 y227.length co7 : Value).ownBlock) ho0 (fun k_ hk_ => (Kd.fresh' (Kd.R_lt (rX HO_6.out)) k_ hk_))) (below_size bX)); have n5_ := ak (below_step bX hb); clear HO_6; clear HO_7; clear HO235; clear HO238; clear HB; have HO_6 := n0_; have HO_7 := n1_; have HO235 := n2_; have HO238 := n3_; have HO241 := n4_; have HB := n5_; clear n0_ n1_ n2_ n3_ n4_ n5_; (try clear hb); (try clear hb2); (try clear hk); (try clear hi); (try clear ho0); obtain ⟨Ao40, co40, eo40⟩ := Kd.V_slice HO241.out; subst eo40) | (go_at_call 81; (with_reducible refine (fp_Gcd.calls k1 a0 (fun k_ => some k_ ≠ (.slice Ao7 y227.length co7 : Value).ownBlock) _ _ t239 (fun k_ => k_ < w.heap.size) _ _ l1 t242 _ ?side1 ?side2 A23.out).mono ?_); (case side1 => exact HO241.out); (case side2 => exact Kd.V_mk HC1.out (Kd.F_below (Kd.C_F (Kd.heap_int .i64) HR1.out) bX)); rintro e w41 ⟨v243, rfl, ho0, hb⟩; have n0_ := ak (Kd.R_below (rX HO_6.out) hb); have n1_ := ak (Kd.V_below (vX HO_7.out) hb); have n2_ := ak (Kd.V_below (vX HO235.out) hb); have n3_ := ak (Kd.V_below (vX HO238.out) hb); have n4_ := ak (Kd.V_below (vX HO241.out) hb); have n5_ := ak (Kd.V_lower (Kd.V_mono (ok' := fun k_ => some k_ ≠ (.slice Ao7 y227.length co7 : Value).ownBlock) ho0 (fun k_ hk_ => Or.elim hk_ (fun hs_ => Or.elim hs_ (fun hs_ => hs_) (fun hs_ => fun e_ => Nat.not_le.2 hs_ (Kd.R_base HO_6.out k_ e_.symm))) (fun hn_ => (Kd.fresh' (Kd.R_lt (rX HO_6.out)) k_ hn_)))) (below_size bX)); have n6_ := ak (below_step bX hb); clear HO_6; clear HO_7; clear HO235; clear HO238; clear HO241; clear HB; have HO_6 := n0_; have HO_7 := n1_; have HO235 := n2_; have HO238 := n3_; have HO241 := n4_; have HO244 := n5_; have HB := n6_; clear n0_ n1_ n2_ n3_ n4_ n5_ n6_; (try clear hb); (try clear hb2); (try clear hk); (try clear hi); (try clear ho0); obtain ⟨Ao42, co42, eo42⟩ := Kd.V_slice HO244.out; subst eo42))
                 go_ret
                 exact ⟨by first | rfl | (simp [errW_none, errW_some] <;> rfl) | (simp [*, errW_none, errW_some] <;> rfl), by repeat (first | (with_reducible first | exact HB.out | apply bA | apply bB | apply bC) | exact HB.out)⟩
            · rw [if_neg c22] at H
              have c22b0 : ((Int.tmod (wrap64 ((l1.length : Int) - 1)) x8_1) == 0) = false := beq_eq_false_iff_ne.mpr c22
              have c22b1 : ((Int.tmod (wrap64 ((l1.length : Int) - 1)) x8_1) != 0) = true := bne_iff_ne.mpr c22
              as_aux_lemma =>
               have H' := ak H
               clear H
               obtain ⟨Ao43, co43, eo43⟩ := Kd.V_slice HO_7.out
               subst eo43
               go_wp2_with (first | ((with_reducible refine gate_callee (f := 104) rfl ?_); refine goesL_ (some 28) rfl rfl Try.func104 (by kernel_rfl) rfl #[.int .i64 a0, .slice Ao43 x7_1.length co43, .slice A1 l1.length c1] rfl mX ?_; (with_reducible refine (fp_Power.calls k1 a0 _ _ x7_1 _ _ l1 t233 _ ?side1 ?side2 ?side3 ?side4 A10.out).mono ?_); (case side1 => exact cX (Kd.V_reads' HO_7.out).2.2); (case side2 => exact (Kd.V_reads' HO_7.out).2.1); (case side3 => exact cX (Kd.C_below HR1.out HB.out)); (case side4 => exact HC1.out); rintro e w44 ⟨v234, rfl, ho0, hb⟩; refine ⟨_, rfl, ?_⟩; have n0_ := ak (Kd.R_below (rX HO_6.out) hb); have n1_ := ak (Kd.V_below (vX HO_7.out) hb); have n2_ := ak (Kd.V_lower (Kd.V_mono (ok' := fun k_ => some k_ ≠ (.slice Ao7 y227.length co7 : Value).ownBlock) ho0 (fun k_ hk_ => (Kd.fresh' (Kd.R_lt (rX HO_6.out)) k_ hk_))) (below_size bX)); have n3_ := ak (below_step bX hb); clear HO_6; clear HO_7; clear HB; have HO_6 := n0_; have HO_7 := n1_; have HO235 := n2_; have HB := n3_; clear n0_ n1_ n2_ n3_; (try clear hb); (try clear hb2); (try clear hk); (try clear hi); (try clear ho0)) | ((with_reducible refine gate_callee (f := 70) rfl ?_); refine goesL_ (some 34) rfl rfl Try.func70 (by kernel_rfl) rfl #[.int .i64 a0, .slice Ao7 y227.length co7, .slice A1 l1.length c1] rfl mX ?_; (with_reducible refine (fp_Rem.calls k1 a0 _ _ y227 _ _ l1 t236 _ ?side1 ?side2 ?side3 ?side4 A11.out).mono ?_); (case side1 => exact cX (Kd.R_reads' HO_6.out).2.2); (case side2 => exact (Kd.R_reads' HO_6.out).2.1); (case side3 => exact cX (Kd.C_below HR1.out HB.out)); (case side4 => exact HC1.out); rintro e w45 ⟨v237, rfl, ho0, hb⟩; refine ⟨_, rfl, ?_⟩; have n0_ := ak (Kd.R_below (rX HO_6.out) hb); have n1_ := ak (Kd.V_below (vX HO_7.out) hb); have n2_ := ak (Kd.V_below (vX HO235.out) hb); have n3_ := ak (Kd.V_lower (Kd.V_mono (ok' := fun k_ => some k_ ≠ (.slice Ao7 y227.length co7 : Value).ownBlock) ho0 (fun k_ hk_ => (Kd.fresh' (Kd.R_lt (rX HO_6.out)) k_ hk_))) (below_size bX)); have n4_ := ak (below_step bX hb); clear HO_6; clear HO_7; clear HO235; clear HB; have HO_6 := n0_; have HO_7 := n1_; have HO235 := n2_; have HO238 := n3_; have HB := n4_; clear n0_ n1_ n2_ n3_ n4_; (try clear hb); (try clear hb2); (try clear hk); (try clear hi); (try clear ho0); obtain ⟨Ao46, co46, eo46⟩ := Kd.V_slice HO235.out; subst eo46; obtain ⟨Ao47, co47, eo47⟩ := Kd.V_slice HO238.out; subst eo47) | ((with_reducible refine gate_callee (f := 73) rfl ?_); refine goesL_ (some 35) rfl rfl Try.func73 (by kernel_rfl) rfl #[.int .i64 a0, .slice Ao46 t233.length co46, .slice Ao47 t236.length co47] rfl mX ?_; (with_reducible refine (fp_Sub.calls k1 a0 _ _ t233 _ _ t236 t239 _ ?side1 ?side2 ?side3 ?side4 A12.out).mono ?_); (case side1 => exact cX (Kd.V_reads' HO235.out).2.2); (case side2 => exact (Kd.V_reads' HO235.out).2.1); (case side3 => exact cX (Kd.V_reads' HO238.out).2.2); (case side4 => exact (Kd.V_reads' HO238.out).2.1); rintro e w48 ⟨v240, rfl, ho0, hb⟩; refine ⟨_, rfl, ?_⟩; have n0_ := ak (Kd.R_below (rX HO_6.out) hb); have n1_ := ak (Kd.V_below (vX HO_7.out) hb); have n2_ := ak (Kd.V_below (vX HO235.out) hb); have n3_ := ak (Kd.V_below (vX HO238.out) hb); have n4_ := ak (Kd.V_lower (Kd.V_mono (ok' := fun k_ => some k_ ≠ (.slice Ao7 y227.length co7 : Value).ownBlock) ho0 (fun k_ hk_ => (Kd.fresh' (Kd.R_lt (rX HO_6.out)) k_ hk_))) (below_size bX)); have n5_ := ak (below_step bX hb); clear HO_6; clear HO_7; clear HO235; clear HO238; clear HB; have HO_6 := n0_; have HO_7 := n1_; have HO235 := n2_; have HO238 := n3_; have HO241 := n4_; have HB := n5_; clear n0_ n1_ n2_ n3_ n4_ n5_; (try clear hb); (try clear hb2); (try clear hk); (try clear hi); (try clear ho0)))
               (first | go_roundg k1 | (refine Handed.intro k1 ?measure ?_; rotate_left; go_step; (repeat rw [add_plain]); (repeat apply Exists.intro); refine ⟨?rel, rfl⟩))
               case measure => have := HK1.out; omega
               case rel => exact ⟨(t233), (wrap64 (x8_1 + 1)), (by first | rfl | (simp; done) | (simp [*]; done)), H', ⟨by have := HK1.out; omega⟩, ⟨by (with_reducible repeat (first | apply Kd.R_alloc | apply Kd.R_drewN | apply Kd.R_drew)); exact HO_6.out⟩, ⟨by (with_reducible repeat (first | apply vA | apply vB | apply vC)); exact HO235.out⟩, ⟨by repeat (first | (with_reducible first | exact HB.out | apply bA | apply bB | apply bC) | exact HB.out)⟩⟩
      · rw [if_neg c9] at H
        have c9b0 : decide (x8_1 ≤ (wrap64 ((l1.length : Int) - 1))) = false := decide_eq_false c9
        clear c9
        as_aux_lemma =>
         obtain rfl := Option.some.inj H
         go_wp2
         go_ret
         exact ⟨by first | rfl | (simp [errW_none, errW_some] <;> rfl) | (simp [*, errW_none, errW_some] <;> rfl), by repeat (first | (with_reducible first | exact HB.out | apply bA | apply bB | apply bC) | exact HB.out)⟩

/-! ### polymod_IsIrreducible: function 14 -/
def polymod_IsIrreducible.f (k : Nat) (a0 : Int) (l1 : List Int) : Option (Bool × Int) := (polymod_first.f k a0 (([l1] : List (List Int)))).bind fun t248 => (if t248 = 0 then ((fp_Irreducible.f k a0 l1).bind fun t249 => (some (t249, 0))) else (some (false, t248)))
theorem polymod_IsIrreducible.mono : ∀ a0 a1 k, LeO (polymod_IsIrreducible.f k a0 a1) (polymod_IsIrreducible.f (k + 1) a0 a1) := by
 intro a0 a1 k
 unfold polymod_IsIrreducible.f
 repeat' first
  | (with_reducible apply fp_Irreducible.mono)
  | (with_reducible apply polymod_first.mono)
  | (with_reducible apply LeO.refl)
  | (with_reducible apply LeO.none)
  | (with_reducible refine LeO.ite ?_ ?_)
  | (with_reducible refine LeO.bind ?_ (fun _ => ?_))
set_option maxHeartbeats 8000000 in
set_option maxRecDepth 100000 in
theorem polymod_IsIrreducible.calls (k : Nat) (a0 : Int) (P1_ : Nat → Prop) (A1 : Option Addr) (c1 : Nat) (l1 : List Int) (r1 : Bool) (r2 : Int) (w : World) (hs1 : Kd.V (Kd.int .i64) 3 w w.heap.size (fun k_ => P1_ k_) (.slice A1 l1.length c1) l1) (h : polymod_IsIrreducible.f k a0 l1 = some (r1, r2)) :
 Calls Try.prog 14 #[.int .i64 a0, .slice A1 l1.length c1] w fun e w' => e = .returned (.tuple #[.bool r1, .int .i64 r2]) ∧ Below w.heap.size w w' := by
 have HO1 := ak (show Kd.V (Kd.int .i64) 3 w w.heap.size (fun k_ => (P1_ k_ ∨ w.heap.size ≤ k_)) (.slice A1 l1.length c1) l1 from Kd.V_mono hs1 (fun k_ hk => .inl hk))
 have HB := ak (Below.refl w.heap.size w)
 have H : ((polymod_first.f k a0 (([l1] : List (List Int)))).bind fun t248 => (if t248 = 0 then ((fp_Irreducible.f k a0 l1).bind fun t249 => (some (t249, 0))) else (some (false, t248)))) = some (r1, r2) := h
 clear h
 obtain ⟨y245, hy245⟩ : ∃ y_ : List (List Int), y_ = (([l1] : List (List Int))) := ⟨_, rfl⟩
 replace H : ((polymod_first.f k a0 y245).bind fun t248 => (if t248 = 0 then ((fp_Irreducible.f k a0 l1).bind fun t249 => (some (t249, 0))) else (some (false, t248)))) = some (r1, r2) := by first | (rw [hy245]; with_reducible exact H) | (have H2_ := (Option.bind_some _ _).symm.trans H; rw [hy245]; with_reducible exact H2_) | (have H2_ := (Option.bind_some _ _).symm.trans H; with_reducible exact H2_) | with_reducible exact H | (rw [hy245]; exact H) | exact H
 have Ny245 := ak hy245
 clear hy245
 replace H := Option.bind_eq_some_iff.mp H
 obtain ⟨t248, A30, H⟩ := H
 replace H : (if t248 = 0 then ((fp_Irreducible.f k a0 l1).bind fun t249 => (some (t249, 0))) else (some (false, t248))) = some (r1, r2) := H
 have A3 := ak A30
 clear A30
 by_cases c4 : t248 = 0
 · rw [if_pos c4] at H
   have c4b0 : (t248 == 0) = true := beq_iff_eq.mpr c4
   have c4b1 : (t248 != 0) = false := bne_eq_false_iff_eq.mpr c4
   clear c4
   replace H := Option.bind_eq_some_iff.mp H
   obtain ⟨t249, A50, H⟩ := H
   replace H : (some (t249, 0)) = some (r1, r2) := H
   have A5 := ak A50
   clear A50
   as_aux_lemma =>
    simp only [Option.some.injEq, Prod.mk.injEq] at H
    obtain ⟨rfl, rfl⟩ := H
    go_enter Try.func14, Try.ntmps14
    go_wp2_with (first | ((with_reducible refine gate_dst (N := 9) rfl ?_); refine Kd.N_lit (Kd.slice 3 (Kd.int .i64)) _ 23 ?hg (N' := 9) ?hd (xs := ([l1] : List (List Int))) (inner := [.slice A1 l1.length c1]) (ok := (fun k_ => (P1_ k_ ∨ w.heap.size ≤ k_))) (okp := (fun k_ => (P1_ k_ ∨ w.heap.size ≤ k_))) ?hr ?hp (fun _ hk => hk) ((show ∀ k_, w.heap.size ≤ k_ → (fun k_ => (P1_ k_ ∨ w.heap.size ≤ k_)) k_ from fun k_ hk => (.inr (Nat.le_trans (below_size bX) hk))) _ (Nat.le_refl _)) (Below.refl _ _) (Nat.le_refl _) (by simp) ?_; (case hd => rfl); (case hg => rfl); (case hr => first | (go_simp; done) | (go_simp; rfl)); (case hp => exact (Reps.one (show Kd.FK (Kd.slice 3 (Kd.int .i64)) _ _ l1 [.slice A1 l1.length c1] from (Kd.FK_slice_mk (Kd.V_reads' (Kd.V_mono (ok' := (fun k_ => (P1_ k_ ∨ w.heap.size ≤ k_))) (HO1.out) (fun k_ hk => hk))).2.1 (Kd.V_F (Kd.V_mono (ok' := (fun k_ => (P1_ k_ ∨ w.heap.size ≤ k_))) (HO1.out) (fun k_ hk => hk))))) (Reps.none _ _))); intro v246 w6 ho7 hb hg_ hnew_; clear hg_ hnew_; (first | rw [← Ny245.out] at ho7 | (simp only [Int.reduceToNat] at ho7; rw [← Ny245.out] at ho7)); have n0_ := ak (Kd.V_elder' (vX HO1.out) (Kd.N_base ho7) hb); have n1_ := ak (Kd.N_lower ho7 (below_size bX)); have n2_ := ak (below_step bX hb); clear HO1; clear HB; have HO1 := n0_; have HO247 := n1_; have HB := n2_; clear n0_ n1_ n2_; clear hb ho7; obtain ⟨Ao8, co8, eo8⟩ := Kd.N_slice HO247.out; subst eo8) | ((with_reducible refine gate_callee (f := 60) rfl ?_); refine goesL_ (some 10) rfl rfl Try.func60 (by kernel_rfl) rfl #[.int .i64 a0, .slice Ao8 y245.length co8] rfl mX ?_; (with_reducible refine (polymod_first.calls k a0 _ _ y245 t248 _ ?side1 ?side2 A3.out).mono ?_); (case side1 => exact cX (Kd.N_reads' HO247.out).2.2); (case side2 => exact (Kd.N_reads' HO247.out).2.1); rintro e w9 ⟨rfl, hb⟩; refine ⟨_, rfl, ?_⟩; have n0_ := ak (Kd.V_below (vX HO1.out) hb); have n1_ := ak (Kd.N_below (by (with_reducible repeat (first | apply Kd.N_alloc | apply Kd.N_drewN | apply Kd.N_drew)); exact HO247.out) hb); have n2_ := ak (below_step bX hb); clear HO1; clear HO247; clear HB; have HO1 := n0_; have HO247 := n1_; have HB := n2_; clear n0_ n1_ n2_; (try clear hb); (try clear hb2); (try clear hk); (try clear hi)) | ((with_reducible refine gate_callee (f := 61) rfl ?_); refine goesL_ (some 16) rfl rfl Try.func61 (by kernel_rfl) rfl #[.int .i64 a0, .slice A1 l1.length c1] rfl mX ?_; (with_reducible refine (fp_Irreducible.calls k a0 _ _ l1 t249 _ ?side1 ?side2 A5.out).mono ?_); (case side1 => exact cX (Kd.V_reads' HO1.out).2.2); (case side2 => exact (Kd.V_reads' HO1.out).2.1); rintro e w10 ⟨rfl, hb⟩; refine ⟨_, rfl, ?_⟩; have n0_ := ak (Kd.V_below (vX HO1.out) hb); have n1_ := ak (Kd.N_below (by (with_reducible repeat (first | apply Kd.N_alloc | apply Kd.N_drewN | apply Kd.N_drew)); exact HO247.out) hb); have n2_ := ak (below_step bX hb); clear HO1; clear HO247; clear HB; have HO1 := n0_; have HO247 := n1_; have HB := n2_; clear n0_ n1_ n2_; (try clear hb); (try clear hb2); (try clear hk); (try clear hi)))
    go_ret2
    exact ⟨by first | rfl | (simp [errW_none, errW_some] <;> rfl) | (simp [*, errW_none, errW_some] <;> rfl), by repeat (first | (with_reducible first | exact HB.out | apply bA | apply bB | apply bC) | exact HB.out)⟩
 · rw [if_neg c4] at H
   have c4b0 : (t248 == 0) = false := beq_eq_false_iff_ne.mpr c4
   have c4b1 : (t248 != 0) = true := bne_iff_ne.mpr c4
   as_aux_lemma =>
    simp only [Option.some.injEq, Prod.mk.injEq] at H
    obtain ⟨rfl, rfl⟩ := H
    go_enter Try.func14, Try.ntmps14
    go_wp2_with (first | ((with_reducible refine gate_dst (N := 9) rfl ?_); refine Kd.N_lit (Kd.slice 3 (Kd.int .i64)) _ 23 ?hg (N' := 9) ?hd (xs := ([l1] : List (List Int))) (inner := [.slice A1 l1.length c1]) (ok := (fun k_ => (P1_ k_ ∨ w.heap.size ≤ k_))) (okp := (fun k_ => (P1_ k_ ∨ w.heap.size ≤ k_))) ?hr ?hp (fun _ hk => hk) ((show ∀ k_, w.heap.size ≤ k_ → (fun k_ => (P1_ k_ ∨ w.heap.size ≤ k_)) k_ from fun k_ hk => (.inr (Nat.le_trans (below_size bX) hk))) _ (Nat.le_refl _)) (Below.refl _ _) (Nat.le_refl _) (by simp) ?_; (case hd => rfl); (case hg => rfl); (case hr => first | (go_simp; done) | (go_simp; rfl)); (case hp => exact (Reps.one (show Kd.FK (Kd.slice 3 (Kd.int .i64)) _ _ l1 [.slice A1 l1.length c1] from (Kd.FK_slice_mk (Kd.V_reads' (Kd.V_mono (ok' := (fun k_ => (P1_ k_ ∨ w.heap.size ≤ k_))) (HO1.out) (fun k_ hk => hk))).2.1 (Kd.V_F (Kd.V_mono (ok' := (fun k_ => (P1_ k_ ∨ w.heap.size ≤ k_))) (HO1.out) (fun k_ hk => hk))))) (Reps.none _ _))); intro v246 w11 ho12 hb hg_ hnew_; clear hg_ hnew_; (first | rw [← Ny245.out] at ho12 | (simp only [Int.reduceToNat] at ho12; rw [← Ny245.out] at ho12)); have n0_ := ak (Kd.V_elder' (vX HO1.out) (Kd.N_base ho12) hb); have n1_ := ak (Kd.N_lower ho12 (below_size bX)); have n2_ := ak (below_step bX hb); clear HO1; clear HB; have HO1 := n0_; have HO247 := n1_; have HB := n2_; clear n0_ n1_ n2_; clear hb ho12; obtain ⟨Ao13, co13, eo13⟩ := Kd.N_slice HO247.out; subst eo13) | ((with_reducible refine gate_callee (f := 60) rfl ?_); refine goesL_ (some 10) rfl rfl Try.func60 (by kernel_rfl) rfl #[.int .i64 a0, .slice Ao13 y245.length co13] rfl mX ?_; (with_reducible refine (polymod_first.calls k a0 _ _ y245 t248 _ ?side1 ?side2 A3.out).mono ?_); (case side1 => exact cX (Kd.N_reads' HO247.out).2.2); (case side2 => exact (Kd.N_reads' HO247.out).2.1); rintro e w14 ⟨rfl, hb⟩; refine ⟨_, rfl, ?_⟩; have n0_ := ak (Kd.V_below (vX HO1.out) hb); have n1_ := ak (Kd.N_below (by (with_reducible repeat (first | apply Kd.N_alloc | apply Kd.N_drewN | apply Kd.N_drew)); exact HO247.out) hb); have n2_ := ak (below_step bX hb); clear HO1; clear HO247; clear HB; have HO1 := n0_; have HO247 := n1_; have HB := n2_; clear n0_ n1_ n2_; (try clear hb); (try clear hb2); (try clear hk); (try clear hi)))
    go_ret2
    exact ⟨by first | rfl | (simp [errW_none, errW_some] <;> rfl) | (simp [*, errW_none, errW_some] <;> rfl), by repeat (first | (with_reducible first | exact HB.out | apply bA | apply bB | apply bC) | exact HB.out)⟩

/-! ### natural_Check: function 68 -/
def natural_Check.j0 : Nat → ByteArray → Bool → Option (Int)
 | 0, _, _ => none
 | k + 1, x0, x10 => if x10 = true then (some 1) else (if (x0.size : Int) > 1024 then (some 4) else (some 0))
def natural_Check.f (k : Nat) (a0 : ByteArray) : Option (Int) := if (a0.size : Int) > 0 then (if 0 < (a0.size : Int) then (natural_Check.j0 k a0 ((bt a0 0) == 0)) else (none)) else (natural_Check.j0 k a0 false)
theorem natural_Check.mono_l : ∀ k, (∀ y0 y1, LeO (natural_Check.j0 k y0 y1) (natural_Check.j0 (k + 1) y0 y1))
 | 0 => fun _ _ r h => by simp [natural_Check.j0] at h
 | k + 1 => by
   have ih0 := natural_Check.mono_l k
   · intro y0 y1
     unfold natural_Check.j0
     repeat' first
     | (with_reducible apply ih0)
     | (with_reducible apply LeO.refl)
     | (with_reducible apply LeO.none)
     | (with_reducible refine LeO.ite ?_ ?_)
     | (with_reducible refine LeO.bind ?_ (fun _ => ?_))
theorem natural_Check.mono : ∀ a0 k, LeO (natural_Check.f k a0) (natural_Check.f (k + 1) a0) := by
 intro a0 k
 have ih0 := natural_Check.mono_l k
 unfold natural_Check.f
 repeat' first
  | (with_reducible apply ih0)
  | (with_reducible apply LeO.refl)
  | (with_reducible apply LeO.none)
  | (with_reducible refine LeO.ite ?_ ?_)
  | (with_reducible refine LeO.bind ?_ (fun _ => ?_))
set_option maxHeartbeats 8000000 in
set_option maxRecDepth 100000 in
theorem natural_Check.calls (k : Nat) (a0 : ByteArray) (r : Int) (w : World) (h : natural_Check.f k a0 = some r) :
 Calls Try.prog 68 #[.string a0] w fun e w' => e = .returned (.int .i64 r) ∧ Drawn0 w w' := by
 have H : (if (a0.size : Int) > 0 then (if 0 < (a0.size : Int) then (natural_Check.j0 k a0 ((bt a0 0) == 0)) else (none)) else (natural_Check.j0 k a0 false)) = some r := h
 clear h
 have HC2 := ak H
 clear H
 go_enter Try.func68, Try.ntmps68
 go_upto_region 1 with (fail)
 go_cut [10] (fun v10 wc => ∃ (kq : Nat) (x10_1 : Bool), v10 = .bool x10_1 ∧ Aside0 (natural_Check.j0 kq a0 x10_1 = some r) ∧ Aside0 (kq ≤ k) ∧ Drawn0 w wc)
 case first =>
  have H := HC2.out
  clear HC2
  by_cases c3 : (a0.size : Int) > 0
  · rw [if_pos c3] at H
    have c3b0 : decide (0 < (a0.size : Int)) = true := decide_eq_true c3
    have c3b1 : decide (0 < a0.size) = true := decide_eq_true (by omega)
    clear c3
    (first | rw [c3b0] | (simp only [i64_w, i32_w]; rw [c3b0]) | skip)
    by_cases c4 : 0 < (a0.size : Int)
    · rw [if_pos c4] at H
      have c4b0 : decide (0 < (a0.size : Int)) = true := decide_eq_true c4
      have c4b1 : decide (0 < a0.size) = true := decide_eq_true (by omega)
      clear c4
      as_aux_lemma =>
       have H' := ak H
       clear H
       have p5 : 0 ≤ (0 : Int) := (by omega)
       have q5 : 0 < a0.size := (by have : (0 : Int) < (a0.size : Int) := of_decide_eq_true aX; omega)
       have hx5 : ∀ h : 0 < a0.size, ((a0[0]'h).toNat : Int) = bt a0 0 := bt_at a0 0
       clear p5
       have qi5 : (0 < (a0.size : Int)) = True := eq_true (of_decide_eq_true aX)
       replace q5 := eq_true q5
       go_wp2
       go_meet
       case rel => exact ⟨_, (((bt a0 0) == 0)), (by first | rfl | (simp; done) | (simp [*]; done)), H', ⟨by first | omega | exact Nat.le_refl _⟩, by repeat (first | exact Drawn0.refl _ | apply Drawn0.step)⟩
    · rw [if_neg c4] at H
      exact absurd H (by simp)
  · rw [if_neg c3] at H
    have c3b0 : decide (0 < (a0.size : Int)) = false := decide_eq_false c3
    have c3b1 : decide (0 < a0.size) = false := decide_eq_false (by omega)
    clear c3
    (first | rw [c3b0] | (simp only [i64_w, i32_w]; rw [c3b0]) | skip)
    as_aux_lemma =>
     have H' := ak H
     clear H
     go_wp2
     go_meet
     case rel => exact ⟨_, (false), (by first | rfl | (simp; done) | (simp [*]; done)), H', ⟨by first | omega | exact Nat.le_refl _⟩, by repeat (first | exact Drawn0.refl _ | apply Drawn0.step)⟩
 case rest =>
  clear HC2
  try clear p2
  try clear c3
  try clear c3b0
  try clear c3b1
  try clear c4
  try clear c4b0
  try clear c4b1
  try clear p5
  try clear q5
  try clear hx5
  try clear qi5
  try clear p5
  try clear q5
  obtain ⟨kq, x10_1, rfl, HA, HJ1, ⟨mc1, rfl⟩⟩ := hcut
  cases kq with
  | zero => exact absurd HA.out (by simp [natural_Check.j0])
  | succ kj1 =>
    have H := HA.out
    clear HA
    simp only [natural_Check.j0] at H
    by_cases c6 : x10_1 = true
    · subst c6
      have H1 : (some 1) = some r := by rw [if_pos rfl] at H; exact H
      clear H
      have H := H1
      clear H1
      as_aux_lemma =>
       obtain rfl := Option.some.inj H
       go_wp2
       go_ret
       exact ⟨by first | rfl | (simp; done) | (simp [*]; done), by repeat (first | exact Drawn0.refl _ | apply Drawn0.step)⟩
    · replace c6 := Bool.eq_false_iff.mpr c6
      subst c6
      have H1 : (if (a0.size : Int) > 1024 then (some 4) else (some 0)) = some r := by rw [if_neg (show ¬ (false = true) by decide)] at H; exact H
      clear H
      have H := H1
      clear H1
      by_cases c7 : (a0.size : Int) > 1024
      · rw [if_pos c7] at H
        have c7b0 : decide (1024 < (a0.size : Int)) = true := decide_eq_true c7
        have c7b1 : decide (1024 < a0.size) = true := decide_eq_true (by omega)
        clear c7
        as_aux_lemma =>
         obtain rfl := Option.some.inj H
         go_wp2
         go_ret
         exact ⟨by first | rfl | (simp; done) | (simp [*]; done), by repeat (first | exact Drawn0.refl _ | apply Drawn0.step)⟩
      · rw [if_neg c7] at H
        have c7b0 : decide (1024 < (a0.size : Int)) = false := decide_eq_false c7
        have c7b1 : decide (1024 < a0.size) = false := decide_eq_false (by omega)
        clear c7
        as_aux_lemma =>
         obtain rfl := Option.some.inj H
         go_wp2
         go_ret
         exact ⟨by first | rfl | (simp; done) | (simp [*]; done), by repeat (first | exact Drawn0.refl _ | apply Drawn0.step)⟩

/-! ### polymod_PowMod: function 19 -/
def polymod_PowMod.f (k : Nat) (a0 : Int) (l1 : List Int) (a2 : ByteArray) (l3 : List Int) : Option (List Int × Int) :=
 (polymod_first.f k a0 [l1, l3]).bind fun e => if e = 0 then (natural_Check.f k a2).bind fun e2 => (if e2 = 0 then (if l3.length = 0 then some ([], 6) else (fp_Rem.f k a0 l1 l3).bind fun t => (fp_PowMod.f k a0 t a2 l3).bind fun t2 => some (t2, 0)) else some ([], e2)) else some ([], e)
theorem polymod_PowMod.mono : ∀ a0 a1 a2 a3 k, LeO (polymod_PowMod.f k a0 a1 a2 a3) (polymod_PowMod.f (k + 1) a0 a1 a2 a3) := fun _ _ _ _ _ =>
 LeO.bind (polymod_first.mono _ _ _) (fun _ => LeO.ite (LeO.bind (natural_Check.mono _ _) (fun _ => LeO.ite (LeO.ite (LeO.refl _) (LeO.bind (fp_Rem.mono _ _ _ _) (fun _ => LeO.bind (fp_PowMod.mono _ _ _ _ _) (fun _ => LeO.refl _)))) (LeO.refl _))) (LeO.refl _))
theorem pm_new {w : World} {o : Obj} {i : Nat} (hi : i = w.heap.size) : (w.alloc o).heap[i]? = some o := by
 show (w.heap.push o)[i]? = some o
 rw [Array.getElem?_push, if_pos hi]
theorem pm_old {w : World} {o o1 : Obj} {i : Nat} (hi : i < w.heap.size) (h : w.heap[i]? = some o1) : (w.alloc o).heap[i]? = some o1 := by
 show (w.heap.push o)[i]? = some o1
 rw [Array.getElem?_push, if_neg (by omega)]; exact h
theorem pm_cell {W : World} {B : Nat} {v : Value} {t : TypeId} (h : W.heap[B]? = some (.cells #[v] t (0, 0))) : W.cell? ⟨B, 0, none⟩ = some v := by
 simp [World.cell?, h]
theorem c_lit2 {w : World} {g c1 c3 : Nat} {A1 A3 : Option Addr} {l1 l3 : List Int} (hg : w.heap[g]? = some (.cells #[.slice A1 l1.length c1, .slice A3 l3.length c3] 23 (0, 0)))
 (hr1 : Kd.C (Kd.int .i64) w A1 l1.length l1) (hc1 : l1.length ≤ c1) (hr3 : Kd.C (Kd.int .i64) w A3 l3.length l3) (hc3 : l3.length ≤ c3) : Kd.C (Kd.slice 3 (Kd.int .i64)) w (some ⟨g, 0, none⟩) [l1, l3].length [l1, l3] := by
 refine ⟨rfl, by simp, fun _ => ⟨_, rfl, fun j p hj => ?_⟩⟩
 match j with
 | 0 =>
   obtain rfl : l1 = p := by simpa using hj
   refine ⟨[.slice A1 l1.length c1], rfl, ⟨A1, c1, rfl, hc1, hr1⟩, fun i u hu => ?_⟩
   match i with
   | 0 =>
     obtain rfl : _ = u := by simpa using hu
     show w.cell? (Addr.add ⟨g, 0, none⟩ 0) = _
     rw [add_plain]
     simp [World.cell?, hg]
   | i + 1 => simp at hu
 | 1 =>
   obtain rfl : l3 = p := by simpa using hj
   refine ⟨[.slice A3 l3.length c3], rfl, ⟨A3, c3, rfl, hc3, hr3⟩, fun i u hu => ?_⟩
   match i with
   | 0 =>
     obtain rfl : _ = u := by simpa using hu
     show w.cell? (Addr.add ⟨g, 0, none⟩ 1) = _
     rw [add_plain]
     simp [World.cell?, hg]
   | i + 1 => simp at hu
 | j + 2 => simp at hj
set_option maxHeartbeats 8000000 in
set_option maxRecDepth 100000 in
theorem red_69 (k : Nat) (p : Int) (A1 A3 : Option Addr) (c1 c3 B1 B3 : Nat) (l1 l3 t : List Int) (w : World) (hr1 : Kd.C (Kd.int .i64) w A1 l1.length l1) (hc1 : l1.length ≤ c1) (hr3 : Kd.C (Kd.int .i64) w A3 l3.length l3) (hc3 : l3.length ≤ c3)
 (hb1 : w.cell? ⟨B1, 0, none⟩ = some (.int .i64 p)) (hb3 : w.cell? ⟨B3, 0, none⟩ = some (.slice A3 l3.length c3)) (h : fp_Rem.f k p l1 l3 = some t) :
 Calls Try.prog 69 #[.slice A1 l1.length c1, .pointer (some ⟨B1, 0, none⟩), .pointer (some ⟨B3, 0, none⟩)] w fun e w' => ∃ v0_ : Value, e = .returned v0_ ∧ Kd.V (Kd.int .i64) 3 w' w.heap.size (fun k_ => (w.heap.size ≤ k_)) v0_ t ∧ Below w.heap.size w w' := by
 have HC := ak (fp_Rem.calls k p A1 c1 l1 A3 c3 l3 t w hr1 hc1 hr3 hc3 h)
 clear hr1 hc1 hr3 hc3 h
 go_enter Try.func69, Try.ntmps69
 go_wp2_with (go_at_call 70; refine HC.out.mono ?_; rintro e w' ⟨v, rfl, hv, hb⟩; have HV := ak hv; have HB := ak hb; clear hv hb; obtain ⟨Ao, co, eo⟩ := Kd.V_slice HV.out; subst eo)
 go_ret
 exact ⟨_, rfl, HV.out, HB.out⟩
set_option maxHeartbeats 8000000 in
set_option maxRecDepth 100000 in
theorem polymod_PowMod.calls (k : Nat) (a0 : Int) (P1_ : Nat → Prop) (A1 : Option Addr) (c1 : Nat) (l1 : List Int) (a2 : ByteArray) (P3_ : Nat → Prop) (A3 : Option Addr) (c3 : Nat) (l3 : List Int) (r1 : List Int) (r2 : Int) (w : World) (hs1 : Kd.V (Kd.int .i64) 3 w w.heap.size (fun k_ => P1_ k_) (.slice A1 l1.length c1) l1) (hs3 : Kd.V (Kd.int .i64) 3 w w.heap.size (fun k_ => P3_ k_) (.slice A3 l3.length c3) l3) (h : polymod_PowMod.f k a0 l1 a2 l3 = some (r1, r2)) :
 Calls Try.prog 19 #[.int .i64 a0, .slice A1 l1.length c1, .string a2, .slice A3 l3.length c3] w fun e w' => ∃ v0_ : Value, e = .returned (.tuple #[v0_, .int .i64 r2]) ∧ Kd.V (Kd.int .i64) 3 w' w.heap.size (fun k_ => ((P1_ k_ ∨ P3_ k_) ∨ w.heap.size ≤ k_)) v0_ r1 ∧ Below w.heap.size w w' := by
 obtain ⟨e1, hf, h⟩ := Option.bind_eq_some_iff.mp h
 have HF := ak hf
 have HR1 := ak (Kd.V_reads' hs1)
 have HR3 := ak (Kd.V_reads' hs3)
 clear hs1 hs3 hf
 obtain ⟨W, hW⟩ : ∃ W, W = (((w.alloc (.cells #[.int .i64 a0] 3)).alloc (.cells #[.slice A3 l3.length c3] 23)).alloc (.cells #[.slice A1 l1.length c1, .slice A3 l3.length c3] 23)) := ⟨_, rfl⟩
 have HB0 := ak (show Below w.heap.size w W from by rw [hW]; exact (((Below.refl _ w).alloc (Nat.le_refl _) _).alloc (by simp) _).alloc (by simp; omega) _)
 have HW1 := ak (show W.cell? ⟨w.heap.size, 0, none⟩ = some (.int .i64 a0) from by rw [hW]; exact pm_cell (pm_old (by simp; omega) (pm_old (by simp) (pm_new (by simp)))))
 have HW3 := ak (show W.cell? ⟨w.heap.size + 1, 0, none⟩ = some (.slice A3 l3.length c3) from by rw [hW]; exact pm_cell (pm_old (by simp) (pm_new (by simp))))
 have HWL := ak (show Kd.C (Kd.slice 3 (Kd.int .i64)) W (some ⟨w.heap.size + 1 + 1, 0, none⟩) [l1, l3].length [l1, l3] from
  c_lit2 (by rw [hW]; exact pm_new (by simp)) (Kd.C_below HR1.out.2.2 HB0.out) HR1.out.2.1 (Kd.C_below HR3.out.2.2 HB0.out) HR3.out.2.1)
 have HFC := ak (polymod_first.calls k a0 (some ⟨w.heap.size + 1 + 1, 0, none⟩) 2 [l1, l3] e1 W HWL.out (by simp) HF.out)
 have HWE := ak hW
 clear hW HF HWL
 by_cases h0 : e1 = 0
 · rw [if_pos h0] at h
   obtain ⟨e2, hn, h⟩ := Option.bind_eq_some_iff.mp h
   have HN := ak hn
   clear hn
   have z1 : (e1 == 0) = true := beq_iff_eq.mpr h0
   clear h0
   by_cases h2 : e2 = 0
   · rw [if_pos h2] at h
     subst h2
     by_cases h3 : l3.length = 0
     · rw [if_pos h3] at h
       have h4 := Option.some.inj h
       clear h
       injection h4 with h5 h6
       subst h5 h6
       have z3 : ((l3.length : Int) == 0) = true := by rw [h3]; rfl
       have z4 : (l3.length == 0) = true := by rw [h3]; rfl
       clear h3
       go_enter Try.func19, Try.ntmps19
       go_wp2_with (first | (go_at_call 60; rw [← HWE.out]; refine HFC.out.mono ?_; rintro e w1 ⟨rfl, hb⟩; have HB1 := ak hb; have c1_ := (hb.cell (World.block_lt_of_cell? _ _ HW1.out)).trans HW1.out; have c3_ := (hb.cell (World.block_lt_of_cell? _ _ HW3.out)).trans HW3.out; clear hb) | (go_at_call 68; refine (natural_Check.calls k a2 _ _ HN.out).mono ?_; rintro e w' ⟨rfl, ⟨nd, rfl⟩⟩))
       go_ret2
       exact ⟨_, rfl, Kd.V_nil _ _ _ _ _, pw_below_drewN (below_then HB0.out HB0.out.size HB1.out) nd⟩
     · rw [if_neg h3] at h
       obtain ⟨t, ht, h⟩ := Option.bind_eq_some_iff.mp h
       obtain ⟨t2, ht2, h⟩ := Option.bind_eq_some_iff.mp h
       have h4 := Option.some.inj h
       clear h
       injection h4 with h5 h6
       subst h5 h6
       have HT := ak ht
       have HT2 := ak ht2
       clear ht ht2
       have z3 : ((l3.length : Int) == 0) = false := beq_eq_false_iff_ne.mpr (by omega)
       have z4 : (l3.length == 0) = false := beq_eq_false_iff_ne.mpr h3
       clear h3
       go_enter Try.func19, Try.ntmps19
       go_wp2_with (first | (go_at_call 60; rw [← HWE.out]; refine HFC.out.mono ?_; rintro e w1 ⟨rfl, hb⟩; have HB1 := ak hb; have c1_ := (hb.cell (World.block_lt_of_cell? _ _ HW1.out)).trans HW1.out; have c3_ := (hb.cell (World.block_lt_of_cell? _ _ HW3.out)).trans HW3.out; clear hb) | (go_at_call 68; refine (natural_Check.calls k a2 _ _ HN.out).mono ?_; rintro e w' ⟨rfl, ⟨nd, rfl⟩⟩))
       have HB5 := ak (pw_below_drewN (below_then HB0.out HB0.out.size HB1.out) nd)
       have d1_ : (w1.drewN nd).cell? ⟨w.heap.size, 0, none⟩ = some (.int .i64 a0) := c1_
       have d3_ : (w1.drewN nd).cell? ⟨w.heap.size + 1, 0, none⟩ = some (.slice A3 l3.length c3) := c3_
       clear c1_ c3_ HB1
       generalize w1.drewN nd = w5 at HB5 d1_ d3_ ⊢
       have HS1 := ak (Kd.C_below HR1.out.2.2 HB5.out)
       have HS3 := ak (Kd.C_below HR3.out.2.2 HB5.out)
       go_region_held3 (fun w' => w'.cell? ⟨w.heap.size, 0, none⟩ = some (.int .i64 a0) ∧ w'.cell? ⟨w.heap.size + 1, 0, none⟩ = some (.slice A3 l3.length c3)) (go_keep)
        (first | (go_at_call 69; refine (red_69 k a0 A1 A3 c1 c3 w.heap.size (w.heap.size + 1) l1 l3 t _ (Kd.C_below HR1.out.2.2 (below_drew1 HB5.out)) HR1.out.2.1 (Kd.C_below HR3.out.2.2 (below_drew1 HB5.out)) HR3.out.2.1 (by simpa using d1_) (by simpa using d3_) HT.out).mono ?_; rintro e w6 ⟨v6, rfl, hv6, hb6⟩; have HV6 := ak hv6; have HB6 := ak hb6; have e1_ : w6.cell? ⟨w.heap.size, 0, none⟩ = some (.int .i64 a0) := pw_cell_below hb6 (by simpa using d1_); have e3_ : w6.cell? ⟨w.heap.size + 1, 0, none⟩ = some (.slice A3 l3.length c3) := pw_cell_below hb6 (by simpa using d3_); clear hv6 hb6; obtain ⟨Ao, co, eo⟩ := Kd.V_slice HV6.out; subst eo) | (go_at_call 71; have hb0_ := below_then (below_drew1 HB5.out) (below_drew1 HB5.out).size HB6.out; refine (fp_PowMod.calls k a0 Ao co t a2 A3 c3 l3 t2 _ (Kd.V_reads' HV6.out).2.2 (Kd.V_at HV6.out).2.1 (Kd.C_below HR3.out.2.2 hb0_) HR3.out.2.1 HT2.out).mono ?_; rintro e w7 ⟨v7, rfl, hv7, hb7⟩; have HB7 := ak (below_then hb0_ hb0_.size hb7); have HV7 := ak (Kd.V_mono hv7 (fun k_ hk => (.inr (Nat.le_trans hb0_.size hk) : (P1_ k_ ∨ P3_ k_) ∨ w.heap.size ≤ k_))); have f1_ := pw_cell_below hb7 e1_; have f3_ := pw_cell_below hb7 e3_; clear hv7 hb7 hb0_; obtain ⟨Ao2, co2, eo2⟩ := Kd.V_slice HV7.out; subst eo2))
       go_wp2
       go_ret2
       exact ⟨_, rfl, HV7.out, HB7.out⟩
   · rw [if_neg h2] at h
     have h4 := Option.some.inj h
     clear h
     injection h4 with h5 h6
     subst h5 h6
     have z2 : (e2 == 0) = false := beq_eq_false_iff_ne.mpr h2
     have z3 : (e2 != 0) = true := bne_iff_ne.mpr h2
     clear h2
     go_enter Try.func19, Try.ntmps19
     go_wp2_with (first | (go_at_call 60; rw [← HWE.out]; refine HFC.out.mono ?_; rintro e w1 ⟨rfl, hb⟩; have HB1 := ak hb; have c1_ := (hb.cell (World.block_lt_of_cell? _ _ HW1.out)).trans HW1.out; have c3_ := (hb.cell (World.block_lt_of_cell? _ _ HW3.out)).trans HW3.out; clear hb) | (go_at_call 68; refine (natural_Check.calls k a2 _ _ HN.out).mono ?_; rintro e w' ⟨rfl, ⟨nd, rfl⟩⟩))
     go_ret2
     exact ⟨_, rfl, Kd.V_nil _ _ _ _ _, pw_below_drewN (below_then HB0.out HB0.out.size HB1.out) nd⟩
 · rw [if_neg h0] at h
   have h4 := Option.some.inj h
   clear h
   injection h4 with h5 h6
   subst h5 h6
   have z1 : (e1 == 0) = false := beq_eq_false_iff_ne.mpr h0
   have z2 : (e1 != 0) = true := bne_iff_ne.mpr h0
   clear h0
   go_enter Try.func19, Try.ntmps19
   go_wp2_with (first | (go_at_call 60; rw [← HWE.out]; refine HFC.out.mono ?_; rintro e w1 ⟨rfl, hb⟩; have HB1 := ak hb; have c1_ := (hb.cell (World.block_lt_of_cell? _ _ HW1.out)).trans HW1.out; have c3_ := (hb.cell (World.block_lt_of_cell? _ _ HW3.out)).trans HW3.out; clear hb))
   go_ret2
   exact ⟨_, rfl, Kd.V_nil _ _ _ _ _, below_then HB0.out HB0.out.size HB1.out⟩

/-! ### polymod_DivMod: function 22 -/
def polymod_DivMod.j0 : Nat → Int → List Int → List Int → Int → Bool → Option (List Int × List Int × Int)
 | 0, _, _, _, _, _ => none
 | k + 1, x0, x1, x2, x9, x23 => if x23 = true then (some (([] : List Int), ([] : List Int), 6)) else (if x9 = 0 then ((fp_DivMod.f k x0 x1 x2).bind fun bt265 => (some (bt265.1, bt265.2, 0))) else (some (([] : List Int), ([] : List Int), x9)))
def polymod_DivMod.f (k : Nat) (a0 : Int) (l1 : List Int) (l2 : List Int) : Option (List Int × List Int × Int) := (polymod_first.f k a0 (([l1, l2] : List (List Int)))).bind fun t264 => (if t264 = 0 then (polymod_DivMod.j0 k a0 l1 l2 t264 ((l2.length : Int) == 0)) else (polymod_DivMod.j0 k a0 l1 l2 t264 false))
theorem polymod_DivMod.mono_l : ∀ k, (∀ y0 y1 y2 y3 y4, LeO (polymod_DivMod.j0 k y0 y1 y2 y3 y4) (polymod_DivMod.j0 (k + 1) y0 y1 y2 y3 y4))
 | 0 => fun _ _ _ _ _ r h => by simp [polymod_DivMod.j0] at h
 | k + 1 => by
   have ih0 := polymod_DivMod.mono_l k
   · intro y0 y1 y2 y3 y4
     unfold polymod_DivMod.j0
     repeat' first
     | (with_reducible apply ih0)
     | (with_reducible apply fp_DivMod.mono)
     | (with_reducible apply polymod_first.mono)
     | (with_reducible apply LeO.refl)
     | (with_reducible apply LeO.none)
     | (with_reducible refine LeO.ite ?_ ?_)
     | (with_reducible refine LeO.bind ?_ (fun _ => ?_))
theorem polymod_DivMod.mono : ∀ a0 a1 a2 k, LeO (polymod_DivMod.f k a0 a1 a2) (polymod_DivMod.f (k + 1) a0 a1 a2) := by
 intro a0 a1 a2 k
 have ih0 := polymod_DivMod.mono_l k
 unfold polymod_DivMod.f
 repeat' first
  | (with_reducible apply ih0)
  | (with_reducible apply fp_DivMod.mono)
  | (with_reducible apply polymod_first.mono)
  | (with_reducible apply LeO.refl)
  | (with_reducible apply LeO.none)
  | (with_reducible refine LeO.ite ?_ ?_)
  | (with_reducible refine LeO.bind ?_ (fun _ => ?_))
set_option maxHeartbeats 8000000 in
set_option maxRecDepth 100000 in
theorem polymod_DivMod.calls (k : Nat) (a0 : Int) (P1_ : Nat → Prop) (A1 : Option Addr) (c1 : Nat) (l1 : List Int) (P2_ : Nat → Prop) (A2 : Option Addr) (c2 : Nat) (l2 : List Int) (r1 : List Int) (r2 : List Int) (r3 : Int) (w : World) (hs1 : Kd.V (Kd.int .i64) 3 w w.heap.size (fun k_ => P1_ k_) (.slice A1 l1.length c1) l1) (hs2 : Kd.V (Kd.int .i64) 3 w w.heap.size (fun k_ => P2_ k_) (.slice A2 l2.length c2) l2) (h : polymod_DivMod.f k a0 l1 l2 = some (r1, r2, r3)) :
 Calls Try.prog 22 #[.int .i64 a0, .slice A1 l1.length c1, .slice A2 l2.length c2] w fun e w' => ∃ v0_ v1_ : Value, e = .returned (.tuple #[v0_, v1_, .int .i64 r3]) ∧ Kd.V (Kd.int .i64) 3 w' w.heap.size (fun k_ => ((P1_ k_ ∨ P2_ k_) ∨ w.heap.size ≤ k_)) v0_ r1 ∧ Kd.V (Kd.int .i64) 3 w' w.heap.size (fun k_ => ((P1_ k_ ∨ P2_ k_) ∨ w.heap.size ≤ k_)) v1_ r2 ∧ Below w.heap.size w w' := by
 have HO1 := ak (show Kd.V (Kd.int .i64) 3 w w.heap.size (fun k_ => ((P1_ k_ ∨ P2_ k_) ∨ w.heap.size ≤ k_)) (.slice A1 l1.length c1) l1 from Kd.V_mono hs1 (fun k_ hk => .inl (.inl hk)))
 have HO2 := ak (show Kd.V (Kd.int .i64) 3 w w.heap.size (fun k_ => ((P1_ k_ ∨ P2_ k_) ∨ w.heap.size ≤ k_)) (.slice A2 l2.length c2) l2 from Kd.V_mono hs2 (fun k_ hk => .inl (.inr hk)))
 have HB := ak (Below.refl w.heap.size w)
 have H : ((polymod_first.f k a0 (([l1, l2] : List (List Int)))).bind fun t264 => (if t264 = 0 then (polymod_DivMod.j0 k a0 l1 l2 t264 ((l2.length : Int) == 0)) else (polymod_DivMod.j0 k a0 l1 l2 t264 false))) = some (r1, r2, r3) := h
 clear h
 obtain ⟨y261, hy261⟩ : ∃ y_ : List (List Int), y_ = (([l1, l2] : List (List Int))) := ⟨_, rfl⟩
 replace H : ((polymod_first.f k a0 y261).bind fun t264 => (if t264 = 0 then (polymod_DivMod.j0 k a0 l1 l2 t264 ((l2.length : Int) == 0)) else (polymod_DivMod.j0 k a0 l1 l2 t264 false))) = some (r1, r2, r3) := by first | (rw [hy261]; with_reducible exact H) | (have H2_ := (Option.bind_some _ _).symm.trans H; rw [hy261]; with_reducible exact H2_) | (have H2_ := (Option.bind_some _ _).symm.trans H; with_reducible exact H2_) | with_reducible exact H | (rw [hy261]; exact H) | exact H
 have Ny261 := ak hy261
 clear hy261
 replace H := Option.bind_eq_some_iff.mp H
 obtain ⟨t264, A40, H⟩ := H
 replace H : (if t264 = 0 then (polymod_DivMod.j0 k a0 l1 l2 t264 ((l2.length : Int) == 0)) else (polymod_DivMod.j0 k a0 l1 l2 t264 false)) = some (r1, r2, r3) := H
 have A4 := ak A40
 clear A40
 have HC5 := ak H
 clear H
 go_enter Try.func22, Try.ntmps22
 go_upto_region 2 with (first | ((with_reducible refine gate_dst (N := 15) rfl ?_); (try (refine gate_guard (by rfl) ?_; dsimp only)); refine Kd.N_lit (Kd.slice 3 (Kd.int .i64)) _ 23 ?hg (N' := 15) ?hd (xs := ([l1, l2] : List (List Int))) (inner := [.slice A1 l1.length c1, .slice A2 l2.length c2]) (ok := (fun k_ => ((P1_ k_ ∨ P2_ k_) ∨ w.heap.size ≤ k_))) (okp := (fun k_ => ((P1_ k_ ∨ P2_ k_) ∨ w.heap.size ≤ k_))) ?hr ?hp (fun _ hk => hk) ((show ∀ k_, w.heap.size ≤ k_ → (fun k_ => ((P1_ k_ ∨ P2_ k_) ∨ w.heap.size ≤ k_)) k_ from fun k_ hk => (.inr (Nat.le_trans (below_size bX) hk))) _ (Nat.le_refl _)) (Below.refl _ _) (Nat.le_refl _) (by simp) ?_; (case hd => rfl); (case hg => rfl); (case hr => first | (go_simp; done) | (go_simp; rfl)); (case hp => exact (Reps.one (show Kd.FK (Kd.slice 3 (Kd.int .i64)) _ _ l1 [.slice A1 l1.length c1] from (Kd.FK_slice_mk (Kd.V_reads' (Kd.V_mono (ok' := (fun k_ => ((P1_ k_ ∨ P2_ k_) ∨ w.heap.size ≤ k_))) (HO1.out) (fun k_ hk => hk))).2.1 (Kd.V_F (Kd.V_mono (ok' := (fun k_ => ((P1_ k_ ∨ P2_ k_) ∨ w.heap.size ≤ k_))) (HO1.out) (fun k_ hk => hk))))) (Reps.one (show Kd.FK (Kd.slice 3 (Kd.int .i64)) _ _ l2 [.slice A2 l2.length c2] from (Kd.FK_slice_mk (Kd.V_reads' (Kd.V_mono (ok' := (fun k_ => ((P1_ k_ ∨ P2_ k_) ∨ w.heap.size ≤ k_))) (HO2.out) (fun k_ hk => hk))).2.1 (Kd.V_F (Kd.V_mono (ok' := (fun k_ => ((P1_ k_ ∨ P2_ k_) ∨ w.heap.size ≤ k_))) (HO2.out) (fun k_ hk => hk))))) (Reps.none _ _)))); intro v262 w6 ho7 hb hg_ hnew_; clear hg_ hnew_; (first | rw [← Ny261.out] at ho7 | (simp only [Int.reduceToNat] at ho7; rw [← Ny261.out] at ho7)); have n0_ := ak (Kd.V_elder' (vX HO1.out) (Kd.N_base ho7) hb); have n1_ := ak (Kd.V_elder' (vX HO2.out) (Kd.N_base ho7) hb); have n2_ := ak (Kd.N_lower ho7 (below_size bX)); have n3_ := ak (below_step bX hb); clear HO1; clear HO2; clear HB; have HO1 := n0_; have HO2 := n1_; have HO263 := n2_; have HB := n3_; clear n0_ n1_ n2_ n3_; clear hb ho7; obtain ⟨Ao8, co8, eo8⟩ := Kd.N_slice HO263.out; subst eo8) | ((with_reducible refine gate_callee (f := 60) rfl ?_); refine goesL_ (some 16) rfl rfl Try.func60 (by kernel_rfl) rfl #[.int .i64 a0, .slice Ao8 y261.length co8] rfl mX ?_; (with_reducible refine (polymod_first.calls k a0 _ _ y261 t264 _ ?side1 ?side2 A4.out).mono ?_); (case side1 => exact cX (Kd.N_reads' HO263.out).2.2); (case side2 => exact (Kd.N_reads' HO263.out).2.1); rintro e w9 ⟨rfl, hb⟩; refine ⟨_, rfl, ?_⟩; have n0_ := ak (Kd.V_below (vX HO1.out) hb); have n1_ := ak (Kd.V_below (vX HO2.out) hb); have n2_ := ak (Kd.N_below (by (with_reducible repeat (first | apply Kd.N_alloc | apply Kd.N_drewN | apply Kd.N_drew)); exact HO263.out) hb); have n3_ := ak (below_step bX hb); clear HO1; clear HO2; clear HO263; clear HB; have HO1 := n0_; have HO2 := n1_; have HO263 := n2_; have HB := n3_; clear n0_ n1_ n2_ n3_; (try clear hb); (try clear hb2); (try clear hk); (try clear hi)))
 (try simp only [Act.put, sS, s0, s1])
 go_cut [23] (fun v23 wc => ∃ (kq : Nat) (x23_4 : Bool), v23 = .bool x23_4 ∧ Aside0 (polymod_DivMod.j0 kq a0 l1 l2 t264 x23_4 = some (r1, r2, r3)) ∧ Aside0 (kq ≤ k) ∧ Aside0 (Kd.V (Kd.int .i64) 3 wc w.heap.size (fun k_ => ((P1_ k_ ∨ P2_ k_) ∨ w.heap.size ≤ k_)) (.slice A1 l1.length c1) l1) ∧ Aside0 (Kd.V (Kd.int .i64) 3 wc w.heap.size (fun k_ => ((P1_ k_ ∨ P2_ k_) ∨ w.heap.size ≤ k_)) (.slice A2 l2.length c2) l2) ∧ Aside0 (Below w.heap.size w wc))
 case first =>
  have H := HC5.out
  clear HC5
  by_cases c10 : t264 = 0
  · rw [if_pos c10] at H
    have c10b0 : (t264 == 0) = true := beq_iff_eq.mpr c10
    have c10b1 : (t264 != 0) = false := bne_eq_false_iff_eq.mpr c10
    clear c10
    (first | rw [c10b0] | (simp only [i64_w, i32_w]; rw [c10b0]) | skip)
    as_aux_lemma =>
     have H' := ak H
     clear H
     go_wp2
     go_meet
     case rel => exact ⟨_, (((l2.length : Int) == 0)), (by first | rfl | (simp; done) | (simp [*]; done)), H', ⟨by first | omega | exact Nat.le_refl _⟩, ⟨by (with_reducible repeat (first | apply vA | apply vB | apply vC)); exact Kd.V_mono HO1.out (fun _ hk => hk.1)⟩, ⟨by (with_reducible repeat (first | apply vA | apply vB | apply vC)); exact Kd.V_mono HO2.out (fun _ hk => hk.1)⟩, ⟨by repeat (first | (with_reducible first | exact HB.out | apply bA | apply bB | apply bC) | exact HB.out)⟩⟩
  · rw [if_neg c10] at H
    have c10b0 : (t264 == 0) = false := beq_eq_false_iff_ne.mpr c10
    have c10b1 : (t264 != 0) = true := bne_iff_ne.mpr c10
    (first | rw [c10b0] | (simp only [i64_w, i32_w]; rw [c10b0]) | skip)
    as_aux_lemma =>
     have H' := ak H
     clear H
     go_wp2
     go_meet
     case rel => exact ⟨_, (false), (by first | rfl | (simp; done) | (simp [*]; done)), H', ⟨by first | omega | exact Nat.le_refl _⟩, ⟨by (with_reducible repeat (first | apply vA | apply vB | apply vC)); exact Kd.V_mono HO1.out (fun _ hk => hk.1)⟩, ⟨by (with_reducible repeat (first | apply vA | apply vB | apply vC)); exact Kd.V_mono HO2.out (fun _ hk => hk.1)⟩, ⟨by repeat (first | (with_reducible first | exact HB.out | apply bA | apply bB | apply bC) | exact HB.out)⟩⟩
 case rest =>
  clear HC5
  try clear c1
  try clear c2
  try clear p2
  try clear c6
  try clear c10
  try clear c10b0
  try clear c10b1
  obtain ⟨kq, x23_4, rfl, HA, HJ4, HO_1, HO_2, HB⟩ := hcut
  cases kq with
  | zero => exact absurd HA.out (by simp [polymod_DivMod.j0])
  | succ kj4 =>
    have H := HA.out
    clear HA
    simp only [polymod_DivMod.j0] at H
    by_cases c11 : x23_4 = true
    · subst c11
      have H1 : (some (([] : List Int), ([] : List Int), 6)) = some (r1, r2, r3) := by rw [if_pos rfl] at H; exact H
      clear H
      have H := H1
      clear H1
      as_aux_lemma =>
       simp only [Option.some.injEq, Prod.mk.injEq] at H
       obtain ⟨rfl, rfl, rfl⟩ := H
       go_wp2
       go_ret3
       exact ⟨_, _, by first | rfl | (simp [errW_none, errW_some] <;> rfl) | (simp [*, errW_none, errW_some] <;> rfl), (Kd.V_nil _ _ _ _ _), (Kd.V_nil _ _ _ _ _), by repeat (first | (with_reducible first | exact HB.out | apply bA | apply bB | apply bC) | exact HB.out)⟩
    · replace c11 := Bool.eq_false_iff.mpr c11
      subst c11
      have H1 : (if t264 = 0 then ((fp_DivMod.f kj4 a0 l1 l2).bind fun bt265 => (some (bt265.1, bt265.2, 0))) else (some (([] : List Int), ([] : List Int), t264))) = some (r1, r2, r3) := by rw [if_neg (show ¬ (false = true) by decide)] at H; exact H
      clear H
      have H := H1
      clear H1
      by_cases c12 : t264 = 0
      · rw [if_pos c12] at H
        have c12b0 : (t264 == 0) = true := beq_iff_eq.mpr c12
        have c12b1 : (t264 != 0) = false := bne_eq_false_iff_eq.mpr c12
        clear c12
        replace H := Option.bind_eq_some_iff.mp H
        obtain ⟨⟨t265, t268⟩, A130, H⟩ := H
        replace H : (some (t265, t268, 0)) = some (r1, r2, r3) := H
        have A13 := ak A130
        clear A130
        as_aux_lemma =>
         simp only [Option.some.injEq, Prod.mk.injEq] at H
         obtain ⟨rfl, rfl, rfl⟩ := H
         go_wp2_with (first | ((with_reducible refine gate_callee (f := 74) rfl ?_); refine goesL_ (some 31) rfl rfl Try.func74 (by kernel_rfl) rfl #[.int .i64 a0, .slice A1 l1.length c1, .slice A2 l2.length c2] rfl mX ?_; (with_reducible refine (fp_DivMod.calls kj4 a0 _ _ l1 _ _ l2 t265 t268 _ ?side1 ?side2 ?side3 ?side4 A13.out).mono ?_); (case side1 => exact cX (Kd.V_reads' HO_1.out).2.2); (case side2 => exact (Kd.V_reads' HO_1.out).2.1); (case side3 => exact cX (Kd.V_reads' HO_2.out).2.2); (case side4 => exact (Kd.V_reads' HO_2.out).2.1); rintro e w14 ⟨v266, v269, rfl, ho0, ho1, hb⟩; refine ⟨_, rfl, ?_⟩; have n0_ := ak (Kd.V_below (vX HO_1.out) hb); have n1_ := ak (Kd.V_below (vX HO_2.out) hb); have n2_ := ak (Kd.V_lower (Kd.V_mono (ok' := fun k_ => ((P1_ k_ ∨ P2_ k_) ∨ w.heap.size ≤ k_)) ho0 (fun k_ hk_ => (.inr (Nat.le_trans (below_size bX) hk_)))) (below_size bX)); have n3_ := ak (Kd.V_lower (Kd.V_mono (ok' := fun k_ => ((P1_ k_ ∨ P2_ k_) ∨ w.heap.size ≤ k_)) ho1 (fun k_ hk_ => (.inr (Nat.le_trans (below_size bX) hk_)))) (below_size bX)); have n4_ := ak (below_step bX hb); clear HO_1; clear HO_2; clear HB; have HO_1 := n0_; have HO_2 := n1_; have HO267 := n2_; have HO270 := n3_; have HB := n4_; clear n0_ n1_ n2_ n3_ n4_; (try clear hb); (try clear hb2); (try clear hk); (try clear hi); (try clear ho0); (try clear ho1)))
         go_ret3
         exact ⟨_, _, by first | rfl | (simp [errW_none, errW_some] <;> rfl) | (simp [*, errW_none, errW_some] <;> rfl), by (with_reducible repeat (first | apply vA | apply vB | apply vC)); exact HO267.out, by (with_reducible repeat (first | apply vA | apply vB | apply vC)); exact HO270.out, by repeat (first | (with_reducible first | exact HB.out | apply bA | apply bB | apply bC) | exact HB.out)⟩
      · rw [if_neg c12] at H
        have c12b0 : (t264 == 0) = false := beq_eq_false_iff_ne.mpr c12
        have c12b1 : (t264 != 0) = true := bne_iff_ne.mpr c12
        as_aux_lemma =>
         simp only [Option.some.injEq, Prod.mk.injEq] at H
         obtain ⟨rfl, rfl, rfl⟩ := H
         go_wp2
         go_ret3
         exact ⟨_, _, by first | rfl | (simp [errW_none, errW_some] <;> rfl) | (simp [*, errW_none, errW_some] <;> rfl), (Kd.V_nil _ _ _ _ _), (Kd.V_nil _ _ _ _ _), by repeat (first | (with_reducible first | exact HB.out | apply bA | apply bB | apply bC) | exact HB.out)⟩

end Go.Proofs.Ytmknclgamadphaa.PPolymodPrimes
