-- WRITTEN BY sprint.py (a program of this repo, over the kit's print.py): nothing here is trusted, Lean checks it.
import Derived.Test.YtmknclgamadphaaPPolymodDivisionsx0
import Derived.Test.YtmknclgamadphaaPPolymodDivisionsx1
import Derived.Test.YtmknclgamadphaaPPolymodDivisionsx2
import Derived.Test.YtmknclgamadphaaPPolymodDivisionsx3
namespace Go.Proofs.Ytmknclgamadphaa.PPolymodDivisions
open Go.RowKit Go.Proofs.YtmknclgamadphaaW.PrintWords Go.Proofs.YtmknclgamadphaaW.PrintLast Go.Proofs.YtmknclgamadphaaW.PrintMore
attribute [local go_sem] max2_int min2_int max_two min_two max_three min_three max_four min_four   -- for this text's walks alone
set_option linter.unusedVariables false
set_option linter.unusedSimpArgs false

/-! ### fp_MulMod: function 105 -/
def fp_MulMod.f (k : Nat) (a0 : Int) (l1 : List Int) (l2 : List Int) (l3 : List Int) : Option (List Int) := (fp_Mul.f k a0 l1 l2).bind fun t200 => ((fp_Rem.f k a0 t200 l3).bind fun t203 => (some t203))
theorem fp_MulMod.mono : ∀ a0 a1 a2 a3 k, LeO (fp_MulMod.f k a0 a1 a2 a3) (fp_MulMod.f (k + 1) a0 a1 a2 a3) := by
 intro a0 a1 a2 a3 k
 unfold fp_MulMod.f
 repeat' first
  | (with_reducible apply fp_Mul.mono)
  | (with_reducible apply fp_Rem.mono)
  | (with_reducible apply LeO.refl)
  | (with_reducible apply LeO.none)
  | (with_reducible refine LeO.ite ?_ ?_)
  | (with_reducible refine LeO.bind ?_ (fun _ => ?_))
set_option maxHeartbeats 8000000 in
set_option maxRecDepth 100000 in
theorem fp_MulMod.calls (k : Nat) (a0 : Int) (A1 : Option Addr) (c1 : Nat) (l1 : List Int) (A2 : Option Addr) (c2 : Nat) (l2 : List Int) (A3 : Option Addr) (c3 : Nat) (l3 : List Int) (r : List Int) (w : World) (hr1 : Kd.C (Kd.int .i64) w A1 l1.length l1) (hc1 : l1.length ≤ c1) (hr2 : Kd.C (Kd.int .i64) w A2 l2.length l2) (hc2 : l2.length ≤ c2) (hr3 : Kd.C (Kd.int .i64) w A3 l3.length l3) (hc3 : l3.length ≤ c3) (h : fp_MulMod.f k a0 l1 l2 l3 = some r) :
 Calls Try.prog 105 #[.int .i64 a0, .slice A1 l1.length c1, .slice A2 l2.length c2, .slice A3 l3.length c3] w fun e w' => ∃ v0_ : Value, e = .returned (v0_) ∧ Kd.V (Kd.int .i64) 3 w' w.heap.size (fun k_ => (w.heap.size ≤ k_)) v0_ r ∧ Below w.heap.size w w' := by
 have HR1 := ak hr1
 have HC1 := ak hc1
 clear hr1 hc1
 have HR2 := ak hr2
 have HC2 := ak hc2
 clear hr2 hc2
 have HR3 := ak hr3
 have HC3 := ak hc3
 clear hr3 hc3
 have HB := ak (Below.refl w.heap.size w)
 have H : ((fp_Mul.f k a0 l1 l2).bind fun t200 => ((fp_Rem.f k a0 t200 l3).bind fun t203 => (some t203))) = some r := h
 clear h
 replace H := Option.bind_eq_some_iff.mp H
 obtain ⟨t200, A50, H⟩ := H
 replace H : ((fp_Rem.f k a0 t200 l3).bind fun t203 => (some t203)) = some r := H
 have A5 := ak A50
 clear A50
 replace H := Option.bind_eq_some_iff.mp H
 obtain ⟨t203, A60, H⟩ := H
 replace H : (some t203) = some r := H
 have A6 := ak A60
 clear A60
 obtain rfl := Option.some.inj H
 go_enter Try.func105, Try.ntmps105
 go_wp2_with (first | ((with_reducible refine gate_callee (f := 67) rfl ?_); refine goesL_ (some 13) rfl rfl Try.func67 (by kernel_rfl) rfl #[.int .i64 a0, .slice A1 l1.length c1, .slice A2 l2.length c2] rfl mX ?_; (with_reducible refine (fp_Mul.calls k a0 _ _ l1 _ _ l2 t200 _ ?side1 ?side2 ?side3 ?side4 A5.out).mono ?_); (case side1 => repeat (first | exact HR1.out | (with_reducible first | apply cA | apply cB | apply cC))); (case side2 => exact HC1.out); (case side3 => repeat (first | exact HR2.out | (with_reducible first | apply cA | apply cB | apply cC))); (case side4 => exact HC2.out); rintro e w7 ⟨v201, rfl, ho0, hb⟩; refine ⟨_, rfl, ?_⟩; have n0_ := ak (Kd.V_lower (Kd.V_mono (ok' := fun k_ => (w.heap.size ≤ k_)) ho0 (fun k_ hk_ => (Nat.le_trans (below_size bX) hk_))) (below_size bX)); have n1_ := ak (below_step bX hb); clear HB; have HO202 := n0_; have HB := n1_; clear n0_ n1_; (try clear hb); (try clear hb2); (try clear hk); (try clear hi); (try clear ho0); obtain ⟨Ao8, co8, eo8⟩ := Kd.V_slice HO202.out; subst eo8) | ((with_reducible refine gate_callee (f := 70) rfl ?_); refine goesL_ (some 15) rfl rfl Try.func70 (by kernel_rfl) rfl #[.int .i64 a0, .slice Ao8 t200.length co8, .slice A3 l3.length c3] rfl mX ?_; (with_reducible refine (fp_Rem.calls k a0 _ _ t200 _ _ l3 t203 _ ?side1 ?side2 ?side3 ?side4 A6.out).mono ?_); (case side1 => exact cX (Kd.V_reads' HO202.out).2.2); (case side2 => exact (Kd.V_reads' HO202.out).2.1); (case side3 => exact cX (Kd.C_below HR3.out HB.out)); (case side4 => exact HC3.out); rintro e w9 ⟨v204, rfl, ho0, hb⟩; refine ⟨_, rfl, ?_⟩; have n0_ := ak (Kd.V_below (vX HO202.out) hb); have n1_ := ak (Kd.V_lower (Kd.V_mono (ok' := fun k_ => (w.heap.size ≤ k_)) ho0 (fun k_ hk_ => (Nat.le_trans (below_size bX) hk_))) (below_size bX)); have n2_ := ak (below_step bX hb); clear HO202; clear HB; have HO202 := n0_; have HO205 := n1_; have HB := n2_; clear n0_ n1_ n2_; (try clear hb); (try clear hb2); (try clear hk); (try clear hi); (try clear ho0)))
 go_ret
 exact ⟨_, by first | rfl | (simp [errW_none, errW_some] <;> rfl) | (simp [*, errW_none, errW_some] <;> rfl), by (with_reducible repeat (first | apply vA | apply vB | apply vC)); exact HO205.out, by repeat (first | (with_reducible first | exact HB.out | apply bA | apply bB | apply bC) | exact HB.out)⟩

/-! ### fp_PowMod: function 71 -/
mutual
def fp_PowMod.l0 : Nat → Int → ByteArray → List Int → List Int → List Int → Int → Int → Option (List Int)
 | 0, _, _, _, _, _, _, _ => none
 | k + 1, x0, x2, x3, x9, x10, x22, x23 => if x23 < x22 then (fp_PowMod.l1 k x0 x2 x3 x9 x10 x23 7 x22 x23) else (some x9)
def fp_PowMod.l1 : Nat → Int → ByteArray → List Int → List Int → List Int → Int → Int → Int → Int → Option (List Int)
 | 0, _, _, _, _, _, _, _, _, _ => none
 | k + 1, x0, x2, x3, x9, x10, x11, x12, x22, x23 => if x12 ≥ 0 then ((fp_MulMod.f k x0 x9 x9 x3).bind fun t215 => (if 0 ≤ x11 then (if x11 < (x2.size : Int) then (if 0 ≤ x12 then (if (Go.bits .and .u8 (shr .u8 (bt x2 x11) x12) 1) = 1 then ((fp_MulMod.f k x0 t215 x10 x3).bind fun t218 => (fp_PowMod.l1 k x0 x2 x3 t218 x10 x11 (wrap64 (x12 - 1)) x22 x23)) else (fp_PowMod.l1 k x0 x2 x3 t215 x10 x11 (wrap64 (x12 - 1)) x22 x23)) else (none)) else (none)) else (none))) else (fp_PowMod.l0 k x0 x2 x3 x9 x10 x22 (wrap64 (x23 + 1)))
end
def fp_PowMod.f (k : Nat) (a0 : Int) (l1 : List Int) (a2 : ByteArray) (l3 : List Int) : Option (List Int) := (fp_Rem.f k a0 (([1] : List Int)) l3).bind fun t209 => ((fp_Rem.f k a0 l1 l3).bind fun t212 => (fp_PowMod.l0 k a0 a2 l3 t209 t212 (a2.size : Int) 0))
theorem fp_PowMod.mono_l : ∀ k, (∀ y0 y1 y2 y3 y4 y5 y6, LeO (fp_PowMod.l0 k y0 y1 y2 y3 y4 y5 y6) (fp_PowMod.l0 (k + 1) y0 y1 y2 y3 y4 y5 y6)) ∧ (∀ y0 y1 y2 y3 y4 y5 y6 y7 y8, LeO (fp_PowMod.l1 k y0 y1 y2 y3 y4 y5 y6 y7 y8) (fp_PowMod.l1 (k + 1) y0 y1 y2 y3 y4 y5 y6 y7 y8))
 | 0 => ⟨fun _ _ _ _ _ _ _ r h => by simp [fp_PowMod.l0] at h, fun _ _ _ _ _ _ _ _ _ r h => by simp [fp_PowMod.l1] at h⟩
 | k + 1 => by
   obtain ⟨ih0, ih1⟩ := fp_PowMod.mono_l k
   refine ⟨?_, ?_⟩
   · intro y0 y1 y2 y3 y4 y5 y6
     unfold fp_PowMod.l0
     repeat' first
     | (with_reducible apply ih0)
     | (with_reducible apply ih1)
     | (with_reducible apply fp_MulMod.mono)
     | (with_reducible apply fp_Rem.mono)
     | (with_reducible apply LeO.refl)
     | (with_reducible apply LeO.none)
     | (with_reducible refine LeO.ite ?_ ?_)
     | (with_reducible refine LeO.bind ?_ (fun _ => ?_))
   · intro y0 y1 y2 y3 y4 y5 y6 y7 y8
     unfold fp_PowMod.l1
     repeat' first
     | (with_reducible apply ih0)
     | (with_reducible apply ih1)
     | (with_reducible apply fp_MulMod.mono)
     | (with_reducible apply fp_Rem.mono)
     | (with_reducible apply LeO.refl)
     | (with_reducible apply LeO.none)
     | (with_reducible refine LeO.ite ?_ ?_)
     | (with_reducible refine LeO.bind ?_ (fun _ => ?_))
theorem fp_PowMod.mono : ∀ a0 a1 a2 a3 k, LeO (fp_PowMod.f k a0 a1 a2 a3) (fp_PowMod.f (k + 1) a0 a1 a2 a3) := by
 intro a0 a1 a2 a3 k
 obtain ⟨ih0, ih1⟩ := fp_PowMod.mono_l k
 unfold fp_PowMod.f
 repeat' first
  | (with_reducible apply ih0)
  | (with_reducible apply ih1)
  | (with_reducible apply fp_MulMod.mono)
  | (with_reducible apply fp_Rem.mono)
  | (with_reducible apply LeO.refl)
  | (with_reducible apply LeO.none)
  | (with_reducible refine LeO.ite ?_ ?_)
  | (with_reducible refine LeO.bind ?_ (fun _ => ?_))
set_option maxHeartbeats 8000000 in
set_option maxRecDepth 100000 in
theorem fp_PowMod.calls (k : Nat) (a0 : Int) (A1 : Option Addr) (c1 : Nat) (l1 : List Int) (a2 : ByteArray) (A3 : Option Addr) (c3 : Nat) (l3 : List Int) (r : List Int) (w : World) (hr1 : Kd.C (Kd.int .i64) w A1 l1.length l1) (hc1 : l1.length ≤ c1) (hr3 : Kd.C (Kd.int .i64) w A3 l3.length l3) (hc3 : l3.length ≤ c3) (h : fp_PowMod.f k a0 l1 a2 l3 = some r) :
 Calls Try.prog 71 #[.int .i64 a0, .slice A1 l1.length c1, .string a2, .slice A3 l3.length c3] w fun e w' => ∃ v0_ : Value, e = .returned (v0_) ∧ Kd.V (Kd.int .i64) 3 w' w.heap.size (fun k_ => (w.heap.size ≤ k_)) v0_ r ∧ Below w.heap.size w w' := by
 have HR1 := ak hr1
 have HC1 := ak hc1
 clear hr1 hc1
 have HR3 := ak hr3
 have HC3 := ak hc3
 clear hr3 hc3
 have HB := ak (Below.refl w.heap.size w)
 have H : ((fp_Rem.f k a0 (([1] : List Int)) l3).bind fun t209 => ((fp_Rem.f k a0 l1 l3).bind fun t212 => (fp_PowMod.l0 k a0 a2 l3 t209 t212 (a2.size : Int) 0))) = some r := h
 clear h
 obtain ⟨y206, hy206⟩ : ∃ y_ : List Int, y_ = (([1] : List Int)) := ⟨_, rfl⟩
 replace H : ((fp_Rem.f k a0 y206 l3).bind fun t209 => ((fp_Rem.f k a0 l1 l3).bind fun t212 => (fp_PowMod.l0 k a0 a2 l3 t209 t212 (a2.size : Int) 0))) = some r := by first | (rw [hy206]; with_reducible exact H) | (have H2_ := (Option.bind_some _ _).symm.trans H; rw [hy206]; with_reducible exact H2_) | (have H2_ := (Option.bind_some _ _).symm.trans H; with_reducible exact H2_) | with_reducible exact H | (rw [hy206]; exact H) | exact H
 have Ny206 := ak hy206
 clear hy206
 replace H := Option.bind_eq_some_iff.mp H
 obtain ⟨t209, A50, H⟩ := H
 replace H : ((fp_Rem.f k a0 l1 l3).bind fun t212 => (fp_PowMod.l0 k a0 a2 l3 t209 t212 (a2.size : Int) 0)) = some r := H
 have A5 := ak A50
 clear A50
 replace H := Option.bind_eq_some_iff.mp H
 obtain ⟨t212, A60, H⟩ := H
 replace H : (fp_PowMod.l0 k a0 a2 l3 t209 t212 (a2.size : Int) 0) = some r := H
 have A6 := ak A60
 clear A60
 have H' := ak H
 clear H
 go_enter Try.func71, Try.ntmps71
 go_wp2_with (first | ((with_reducible refine gate_dst (N := 14) rfl ?_); refine Kd.R_lit (Kd.int .i64) _ 3 ?hg (N := 14) ?hd (xs := ([1] : List Int)) (inner := [.int .i64 1]) (ok := fun _ => True) (okp := fun _ => True) ?hr ?hp (fun _ hk => hk) trivial (Below.refl _ _) (Nat.le_refl _) (by simp) ?_; (case hd => rfl); (case hg => rfl); (case hr => first | (go_simp; done) | (go_simp; rfl)); (case hp => exact (Reps.one (show Kd.M (Kd.int .i64) _ _ _ 1 [.int .i64 1] from rfl) (Reps.none _ _))); intro v207 w7 ho8 hb hg_ hnew_; clear hg_ hnew_; (first | rw [← Ny206.out] at ho8 | (simp only [Int.reduceToNat] at ho8; rw [← Ny206.out] at ho8)); have n0_ := ak (Kd.R_lower (Kd.R_newM (M := fun k_ => (w.heap.size ≤ k_)) ho8 (below_size bX) (fun k_ h_ => h_)) (below_size bX)); have n1_ := ak (below_step bX hb); clear HB; have HO208 := n0_; have HB := n1_; clear n0_ n1_; clear hb ho8; obtain ⟨Ao9, co9, eo9⟩ := Kd.R_slice HO208.out; subst eo9) | ((with_reducible refine gate_callee (f := 70) rfl ?_); refine goesL_ (some 16) rfl rfl Try.func70 (by kernel_rfl) rfl #[.int .i64 a0, .slice Ao9 y206.length co9, .slice A3 l3.length c3] rfl mX ?_; (with_reducible refine (fp_Rem.calls k a0 _ _ y206 _ _ l3 t209 _ ?side1 ?side2 ?side3 ?side4 A5.out).mono ?_); (case side1 => exact cX (Kd.R_reads' HO208.out).2.2); (case side2 => exact (Kd.R_reads' HO208.out).2.1); (case side3 => exact cX (Kd.C_below HR3.out HB.out)); (case side4 => exact HC3.out); rintro e w10 ⟨v210, rfl, ho0, hb⟩; refine ⟨_, rfl, ?_⟩; have n0_ := ak (Kd.R_below (rX HO208.out) hb); have n1_ := ak (Kd.V_lower (Kd.V_mono (ok' := fun k_ => (w.heap.size ≤ k_) ∧ some k_ ≠ (.slice Ao9 y206.length co9 : Value).ownBlock) ho0 (fun k_ hk_ => ⟨(Nat.le_trans (below_size bX) hk_), (Kd.fresh' (Kd.R_lt (rX HO208.out)) k_ hk_)⟩)) (below_size bX)); have n2_ := ak (below_step bX hb); clear HO208; clear HB; have HO208 := n0_; have HO211 := n1_; have HB := n2_; clear n0_ n1_ n2_; (try clear hb); (try clear hb2); (try clear hk); (try clear hi); (try clear ho0)) | ((with_reducible refine gate_callee (f := 70) rfl ?_); refine goesL_ (some 20) rfl rfl Try.func70 (by kernel_rfl) rfl #[.int .i64 a0, .slice A1 l1.length c1, .slice A3 l3.length c3] rfl mX ?_; (with_reducible refine (fp_Rem.calls k a0 _ _ l1 _ _ l3 t212 _ ?side1 ?side2 ?side3 ?side4 A6.out).mono ?_); (case side1 => exact cX (Kd.C_below HR1.out HB.out)); (case side2 => exact HC1.out); (case side3 => exact cX (Kd.C_below HR3.out HB.out)); (case side4 => exact HC3.out); rintro e w11 ⟨v213, rfl, ho0, hb⟩; refine ⟨_, rfl, ?_⟩; have n0_ := ak (Kd.R_below (rX HO208.out) hb); have n1_ := ak (Kd.V_below (vX HO211.out) hb); have n2_ := ak (Kd.V_lower (Kd.V_mono (ok' := fun k_ => (w.heap.size ≤ k_) ∧ some k_ ≠ (.slice Ao9 y206.length co9 : Value).ownBlock) ho0 (fun k_ hk_ => ⟨(Nat.le_trans (below_size bX) hk_), (Kd.fresh' (Kd.R_lt (rX HO208.out)) k_ hk_)⟩)) (below_size bX)); have n3_ := ak (below_step bX hb); clear HO208; clear HO211; clear HB; have HO208 := n0_; have HO211 := n1_; have HO214 := n2_; have HB := n3_; clear n0_ n1_ n2_ n3_; (try clear hb); (try clear hb2); (try clear hk); (try clear hi); (try clear ho0)))
 go_loopg [9, 23] k (fun kq v9 v23 w' => ∃ (x9_1 : List Int) (x23_1 : Int), v23 = .int .i64 x23_1 ∧ Aside0 (fp_PowMod.l0 kq a0 a2 l3 x9_1 t212 (a2.size : Int) x23_1 = some r) ∧ Aside0 (kq ≤ k) ∧ Aside0 (Kd.V (Kd.int .i64) 3 w' w.heap.size (fun k_ => (w.heap.size ≤ k_)) v9 x9_1) ∧ Aside0 (Kd.V (Kd.int .i64) 3 w' w.heap.size (fun k_ => (w.heap.size ≤ k_)) v213 t212) ∧ Aside0 (Below w.heap.size w w'))
 case atStart => exact ⟨(t209), (0), (by first | rfl | (simp; done) | (simp [*]; done)), H', ⟨Nat.le_refl _⟩, ⟨by (with_reducible repeat (first | apply vA | apply vB | apply vC)); exact Kd.V_mono HO211.out (fun _ hk => hk.1)⟩, ⟨by (with_reducible repeat (first | apply vA | apply vB | apply vC)); exact Kd.V_mono HO214.out (fun _ hk => hk.1)⟩, ⟨by repeat (first | (with_reducible first | exact HB.out | apply bA | apply bB | apply bC) | exact HB.out)⟩⟩
 case round =>
  clear H'
  try clear c1
  try clear p2
  try clear c3
  try clear c7
  obtain ⟨x9_1, x23_1, rfl, HA, HK1, HO_9, HO_10, HB⟩ := hrel
  cases gk with
  | zero => exact absurd HA.out (by simp [fp_PowMod.l0])
  | succ k1 =>
    have H := HA.out
    clear HA
    simp only [fp_PowMod.l0] at H
    by_cases c12 : x23_1 < (a2.size : Int)
    · rw [if_pos c12] at H
      have c12b0 : decide (x23_1 < (a2.size : Int)) = true := decide_eq_true c12
      clear c12
      have H' := ak H
      clear H
      go_wp2
      go_loopg [9, 12] k1 (fun kq v9 v12 w' => ∃ (x9_2 : List Int) (x12_2 : Int), v12 = .int .i64 x12_2 ∧ Aside0 (fp_PowMod.l1 kq a0 a2 l3 x9_2 t212 x23_1 x12_2 (a2.size : Int) x23_1 = some r) ∧ Aside0 (kq ≤ k1) ∧ Aside0 (Kd.V (Kd.int .i64) 3 w' w.heap.size (fun k_ => (w.heap.size ≤ k_)) v9 x9_2) ∧ Aside0 (Kd.V (Kd.int .i64) 3 w' w.heap.size (fun k_ => (w.heap.size ≤ k_)) v213 t212) ∧ Aside0 (Below w.heap.size w w'))
      case atStart => exact ⟨(x9_1), (7), (by first | rfl | (simp; done) | (simp [*]; done)), H', ⟨Nat.le_refl _⟩, ⟨by (with_reducible repeat (first | apply vA | apply vB | apply vC)); exact HO_9.out⟩, ⟨by (with_reducible repeat (first | apply vA | apply vB | apply vC)); exact HO_10.out⟩, ⟨by repeat (first | (with_reducible first | exact HB.out | apply bA | apply bB | apply bC) | exact HB.out)⟩⟩
      case round =>
       clear H'
       try clear c1
       try clear p2
       try clear c3
       try clear c7
       try clear c12
       try clear c12b0
       try clear p2
       obtain ⟨x9_2, x12_2, rfl, HA, HK2, HO_9, HO_10, HB⟩ := hrel
       cases gk with
       | zero => exact absurd HA.out (by simp [fp_PowMod.l1])
       | succ k2 =>
         have H := HA.out
         clear HA
         simp only [fp_PowMod.l1] at H
         by_cases c13 : x12_2 ≥ 0
         · rw [if_pos c13] at H
           have c13b0 : decide (0 ≤ x12_2) = true := decide_eq_true c13
           clear c13
           replace H := Option.bind_eq_some_iff.mp H
           obtain ⟨t215, A140, H⟩ := H
           replace H : (if 0 ≤ x23_1 then (if x23_1 < (a2.size : Int) then (if 0 ≤ x12_2 then (if (Go.bits .and .u8 (shr .u8 (bt a2 x23_1) x12_2) 1) = 1 then ((fp_MulMod.f k2 a0 t215 t212 l3).bind fun t218 => (fp_PowMod.l1 k2 a0 a2 l3 t218 t212 x23_1 (wrap64 (x12_2 - 1)) (a2.size : Int) x23_1)) else (fp_PowMod.l1 k2 a0 a2 l3 t215 t212 x23_1 (wrap64 (x12_2 - 1)) (a2.size : Int) x23_1)) else (none)) else (none)) else (none)) = some r := H
           have A14 := ak A140
           clear A140
           by_cases c15 : 0 ≤ x23_1
           · rw [if_pos c15] at H
             have c15b0 : decide (0 ≤ x23_1) = true := decide_eq_true c15
             clear c15
             by_cases c16 : x23_1 < (a2.size : Int)
             · rw [if_pos c16] at H
               have c16b0 : decide (x23_1 < (a2.size : Int)) = true := decide_eq_true c16
               clear c16
               by_cases c18 : 0 ≤ x12_2
               · rw [if_pos c18] at H
                 have c18b0 := eq_true c18
                 have c18b1 : decide (0 ≤ x12_2) = true := decide_eq_true c18
                 clear c18
                 obtain ⟨ji19, hji19⟩ : ∃ j_ : Int, (shr .u8 (bt a2 x23_1) x12_2) = j_ := ⟨_, rfl⟩
                 replace H : (if (Go.bits .and .u8 (ji19) 1) = 1 then ((fp_MulMod.f k2 a0 t215 t212 l3).bind fun t218 => (fp_PowMod.l1 k2 a0 a2 l3 t218 t212 x23_1 (wrap64 (x12_2 - 1)) (a2.size : Int) x23_1)) else (fp_PowMod.l1 k2 a0 a2 l3 t215 t212 x23_1 (wrap64 (x12_2 - 1)) (a2.size : Int) x23_1)) = some r := by first | (rw [hji19] at H; exact H) | (simp only [hji19] at H ⊢; exact H)
                 (try rw [hji19] at A14)
                 have hji19_ : ((bt a2 x23_1) / 2 ^ min x12_2.toNat 8) = ji19 := hji19
                 have hji19z : x12_2 ≤ 8 → ((bt a2 x23_1) / 2 ^ x12_2.toNat) = ji19 := shr_small hji19
                 by_cases c20 : (Go.bits .and .u8 (ji19) 1) = 1
                 · rw [if_pos c20] at H
                   have c20b0 : ((Go.bits .and .u8 (ji19) 1) == 1) = true := beq_iff_eq.mpr c20
                   have c20b1 : ((Go.bits .and .u8 (ji19) 1) != 1) = false := bne_eq_false_iff_eq.mpr c20
                   clear c20
                   replace H := Option.bind_eq_some_iff.mp H
                   obtain ⟨t218, A210, H⟩ := H
                   replace H : (fp_PowMod.l1 k2 a0 a2 l3 t218 t212 x23_1 (wrap64 (x12_2 - 1)) (a2.size : Int) x23_1) = some r := H
                   have A21 := ak A210
                   clear A210
                   have H' := ak H
                   clear H
                   obtain ⟨Ao22, co22, eo22⟩ := Kd.V_slice HO_9.out
                   subst eo22
                   go_wp2_with (first | ((with_reducible refine gate_callee (f := 105) rfl ?_); refine goesL_ (some 34) rfl rfl Try.func105 (by kernel_rfl) rfl #[.int .i64 a0, .slice Ao22 x9_2.length co22, .slice Ao22 x9_2.length co22, .slice A3 l3.length c3] rfl mX ?_; (with_reducible refine (fp_MulMod.calls k2 a0 _ _ x9_2 _ _ x9_2 _ _ l3 t215 _ ?side1 ?side2 ?side3 ?side4 ?side5 ?side6 A14.out).mono ?_); (case side1 => exact cX (Kd.V_reads' HO_9.out).2.2); (case side2 => exact (Kd.V_reads' HO_9.out).2.1); (case side3 => exact cX (Kd.V_reads' HO_9.out).2.2); (case side4 => exact (Kd.V_reads' HO_9.out).2.1); (case side5 => exact cX (Kd.C_below HR3.out HB.out)); (case side6 => exact HC3.out); rintro e w23 ⟨v216, rfl, ho0, hb⟩; refine ⟨_, rfl, ?_⟩; have n0_ := ak (Kd.V_below (vX HO_9.out) hb); have n1_ := ak (Kd.V_below (vX HO_10.out) hb); have n2_ := ak (Kd.V_lower (Kd.V_mono (ok' := fun k_ => (w.heap.size ≤ k_)) ho0 (fun k_ hk_ => (Nat.le_trans (below_size bX) hk_))) (below_size bX)); have n3_ := ak (below_step bX hb); clear HO_9; clear HO_10; clear HB; have HO_9 := n0_; have HO_10 := n1_; have HO217 := n2_; have HB := n3_; clear n0_ n1_ n2_ n3_; (try clear hb); (try clear hb2); (try clear hk); (try clear hi); (try clear ho0); have p17 : 0 ≤ (x23_1 : Int) := of_decide_eq_true aX; have q17 : x23_1 < (a2.size : Int) := of_decide_eq_true aX; have hx17 := bt_at a2 x23_1; replace p17 := eq_true p17; replace q17 := eq_true q17; obtain ⟨Ao24, co24, eo24⟩ := Kd.V_slice HO217.out; subst eo24; obtain ⟨Ao25, co25, eo25⟩ := Kd.V_slice HO_10.out; subst eo25) | ((with_reducible refine gate_callee (f := 105) rfl ?_); refine goesL_ (some 46) rfl rfl Try.func105 (by kernel_rfl) rfl #[.int .i64 a0, .slice Ao24 t215.length co24, .slice Ao25 t212.length co25, .slice A3 l3.length c3] rfl mX ?_; (with_reducible refine (fp_MulMod.calls k2 a0 _ _ t215 _ _ t212 _ _ l3 t218 _ ?side1 ?side2 ?side3 ?side4 ?side5 ?side6 A21.out).mono ?_); (case side1 => exact cX (Kd.V_reads' HO217.out).2.2); (case side2 => exact (Kd.V_reads' HO217.out).2.1); (case side3 => exact cX (Kd.V_reads' HO_10.out).2.2); (case side4 => exact (Kd.V_reads' HO_10.out).2.1); (case side5 => exact cX (Kd.C_below HR3.out HB.out)); (case side6 => exact HC3.out); rintro e w26 ⟨v219, rfl, ho0, hb⟩; refine ⟨_, rfl, ?_⟩; have n0_ := ak (Kd.V_below (vX HO_9.out) hb); have n1_ := ak (Kd.V_below (vX HO_10.out) hb); have n2_ := ak (Kd.V_below (vX HO217.out) hb); have n3_ := ak (Kd.V_lower (Kd.V_mono (ok' := fun k_ => (w.heap.size ≤ k_)) ho0 (fun k_ hk_ => (Nat.le_trans (below_size bX) hk_))) (below_size bX)); have n4_ := ak (below_step bX hb); clear HO_9; clear HO_10; clear HO217; clear HB; have HO_9 := n0_; have HO_10 := n1_; have HO217 := n2_; have HO220 := n3_; have HB := n4_; clear n0_ n1_ n2_ n3_ n4_; (try clear hb); (try clear hb2); (try clear hk); (try clear hi); (try clear ho0)))
                   (first | go_roundg k2 | (refine Handed.intro k2 ?measure ?_; rotate_left; go_step; (repeat rw [add_plain]); (repeat apply Exists.intro); refine ⟨?rel, rfl⟩))
                   case measure => have := HK1.out; have := HK2.out; omega
                   case rel => exact ⟨(t218), (wrap64 (x12_2 - 1)), (by first | rfl | (simp; done) | (simp [*]; done)), H', ⟨by have := HK1.out; have := HK2.out; omega⟩, ⟨by (with_reducible repeat (first | apply vA | apply vB | apply vC)); exact HO220.out⟩, ⟨by (with_reducible repeat (first | apply vA | apply vB | apply vC)); exact HO_10.out⟩, ⟨by repeat (first | (with_reducible first | exact HB.out | apply bA | apply bB | apply bC) | exact HB.out)⟩⟩
                 · rw [if_neg c20] at H
                   have c20b0 : ((Go.bits .and .u8 (ji19) 1) == 1) = false := beq_eq_false_iff_ne.mpr c20
                   have c20b1 : ((Go.bits .and .u8 (ji19) 1) != 1) = true := bne_iff_ne.mpr c20
                   have H' := ak H
                   clear H
                   obtain ⟨Ao27, co27, eo27⟩ := Kd.V_slice HO_9.out
                   subst eo27
                   go_wp2_with (first | ((with_reducible refine gate_callee (f := 105) rfl ?_); refine goesL_ (some 34) rfl rfl Try.func105 (by kernel_rfl) rfl #[.int .i64 a0, .slice Ao27 x9_2.length co27, .slice Ao27 x9_2.length co27, .slice A3 l3.length c3] rfl mX ?_; (with_reducible refine (fp_MulMod.calls k2 a0 _ _ x9_2 _ _ x9_2 _ _ l3 t215 _ ?side1 ?side2 ?side3 ?side4 ?side5 ?side6 A14.out).mono ?_); (case side1 => exact cX (Kd.V_reads' HO_9.out).2.2); (case side2 => exact (Kd.V_reads' HO_9.out).2.1); (case side3 => exact cX (Kd.V_reads' HO_9.out).2.2); (case side4 => exact (Kd.V_reads' HO_9.out).2.1); (case side5 => exact cX (Kd.C_below HR3.out HB.out)); (case side6 => exact HC3.out); rintro e w28 ⟨v216, rfl, ho0, hb⟩; refine ⟨_, rfl, ?_⟩; have n0_ := ak (Kd.V_below (vX HO_9.out) hb); have n1_ := ak (Kd.V_below (vX HO_10.out) hb); have n2_ := ak (Kd.V_lower (Kd.V_mono (ok' := fun k_ => (w.heap.size ≤ k_)) ho0 (fun k_ hk_ => (Nat.le_trans (below_size bX) hk_))) (below_size bX)); have n3_ := ak (below_step bX hb); clear HO_9; clear HO_10; clear HB; have HO_9 := n0_; have HO_10 := n1_; have HO217 := n2_; have HB := n3_; clear n0_ n1_ n2_ n3_; (try clear hb); (try clear hb2); (try clear hk); (try clear hi); (try clear ho0); have p17 : 0 ≤ (x23_1 : Int) := of_decide_eq_true aX; have q17 : x23_1 < (a2.size : Int) := of_decide_eq_true aX; have hx17 := bt_at a2 x23_1; replace p17 := eq_true p17; replace q17 := eq_true q17))
                   (first | go_roundg k2 | (refine Handed.intro k2 ?measure ?_; rotate_left; go_step; (repeat rw [add_plain]); (repeat apply Exists.intro); refine ⟨?rel, rfl⟩))
                   case measure => have := HK1.out; have := HK2.out; omega
                   case rel => exact ⟨(t215), (wrap64 (x12_2 - 1)), (by first | rfl | (simp; done) | (simp [*]; done)), H', ⟨by have := HK1.out; have := HK2.out; omega⟩, ⟨by (with_reducible repeat (first | apply vA | apply vB | apply vC)); exact HO217.out⟩, ⟨by (with_reducible repeat (first | apply vA | apply vB | apply vC)); exact HO_10.out⟩, ⟨by repeat (first | (with_reducible first | exact HB.out | apply bA | apply bB | apply bC) | exact HB.out)⟩⟩
               · rw [if_neg c18] at H
                 exact absurd H (by simp)
             · rw [if_neg c16] at H
               exact absurd H (by simp)
           · rw [if_neg c15] at H
             exact absurd H (by simp)
         · rw [if_neg c13] at H
           have c13b0 : decide (0 ≤ x12_2) = false := decide_eq_false c13
           clear c13
           have H' := ak H
           clear H
           go_wp2
           (first | go_roundg k2 | (refine Handed.intro k2 ?measure ?_; rotate_left; go_step; (repeat rw [add_plain]); (repeat apply Exists.intro); refine ⟨?rel, rfl⟩))
           case measure => have := HK1.out; have := HK2.out; omega
           case rel => exact ⟨(x9_2), (wrap64 (x23_1 + 1)), (by first | rfl | (simp; done) | (simp [*]; done)), H', ⟨by have := HK1.out; have := HK2.out; omega⟩, ⟨by (with_reducible repeat (first | apply vA | apply vB | apply vC)); exact HO_9.out⟩, ⟨by (with_reducible repeat (first | apply vA | apply vB | apply vC)); exact HO_10.out⟩, ⟨by repeat (first | (with_reducible first | exact HB.out | apply bA | apply bB | apply bC) | exact HB.out)⟩⟩
    · rw [if_neg c12] at H
      have c12b0 : decide (x23_1 < (a2.size : Int)) = false := decide_eq_false c12
      clear c12
      obtain rfl := Option.some.inj H
      go_wp2
      go_ret
      exact ⟨_, by first | rfl | (simp [errW_none, errW_some] <;> rfl) | (simp [*, errW_none, errW_some] <;> rfl), by (with_reducible repeat (first | apply vA | apply vB | apply vC)); exact HO_9.out, by repeat (first | (with_reducible first | exact HB.out | apply bA | apply bB | apply bC) | exact HB.out)⟩

/-! ### fp_Power: function 104 -/
def fp_Power.f (k : Nat) (a0 : Int) (l1 : List Int) (l2 : List Int) : Option (List Int) := (fp_PowMod.f k a0 l1 (strOfNums (([(a0 / 256) % 256, (a0) % 256] : List Int))) l2).bind fun t224 => (some t224)
theorem fp_Power.mono : ∀ a0 a1 a2 k, LeO (fp_Power.f k a0 a1 a2) (fp_Power.f (k + 1) a0 a1 a2) := by
 intro a0 a1 a2 k
 unfold fp_Power.f
 repeat' first
  | (with_reducible apply fp_PowMod.mono)
  | (with_reducible apply LeO.refl)
  | (with_reducible apply LeO.none)
  | (with_reducible refine LeO.ite ?_ ?_)
  | (with_reducible refine LeO.bind ?_ (fun _ => ?_))
set_option maxHeartbeats 8000000 in
set_option maxRecDepth 100000 in
theorem fp_Power.calls (k : Nat) (a0 : Int) (A1 : Option Addr) (c1 : Nat) (l1 : List Int) (A2 : Option Addr) (c2 : Nat) (l2 : List Int) (r : List Int) (w : World) (hr1 : Kd.C (Kd.int .i64) w A1 l1.length l1) (hc1 : l1.length ≤ c1) (hr2 : Kd.C (Kd.int .i64) w A2 l2.length l2) (hc2 : l2.length ≤ c2) (h : fp_Power.f k a0 l1 l2 = some r) :
 Calls Try.prog 104 #[.int .i64 a0, .slice A1 l1.length c1, .slice A2 l2.length c2] w fun e w' => ∃ v0_ : Value, e = .returned (v0_) ∧ Kd.V (Kd.int .i64) 3 w' w.heap.size (fun k_ => (w.heap.size ≤ k_)) v0_ r ∧ Below w.heap.size w w' := by
 have HR1 := ak hr1
 have HC1 := ak hc1
 clear hr1 hc1
 have HR2 := ak hr2
 have HC2 := ak hc2
 clear hr2 hc2
 have HB := ak (Below.refl w.heap.size w)
 have H : ((fp_PowMod.f k a0 l1 (strOfNums (([(a0 / 256) % 256, (a0) % 256] : List Int))) l2).bind fun t224 => (some t224)) = some r := h
 clear h
 obtain ⟨y221, hy221⟩ : ∃ y_ : List Int, y_ = (([(a0 / 256) % 256, (a0) % 256] : List Int)) := ⟨_, rfl⟩
 replace H : ((fp_PowMod.f k a0 l1 (strOfNums y221) l2).bind fun t224 => (some t224)) = some r := by first | (rw [hy221]; with_reducible exact H) | (have H2_ := (Option.bind_some _ _).symm.trans H; rw [hy221]; with_reducible exact H2_) | (have H2_ := (Option.bind_some _ _).symm.trans H; with_reducible exact H2_) | with_reducible exact H | (rw [hy221]; exact H) | exact H
 have Ny221 := ak hy221
 clear hy221
 replace H := Option.bind_eq_some_iff.mp H
 obtain ⟨t224, A40, H⟩ := H
 replace H : (some t224) = some r := H
 have A4 := ak A40
 clear A40
 obtain rfl := Option.some.inj H
 go_enter Try.func104, Try.ntmps104
 go_wp2_with (first | ((with_reducible refine gate_dst (N := 14) rfl ?_); refine Kd.R_lit (Kd.int .u8) _ 5 ?hg (N := 14) ?hd (xs := ([(a0 / 256) % 256, (a0) % 256] : List Int)) (inner := [.int .u8 ((a0 / 256) % 256), .int .u8 ((a0) % 256)]) (ok := fun _ => True) (okp := fun _ => True) ?hr ?hp (fun _ hk => hk) trivial (Below.refl _ _) (Nat.le_refl _) (by simp) ?_; (case hd => rfl); (case hg => rfl); (case hr => first | (go_simp; done) | (go_simp; rfl)); (case hp => exact (Reps.one (show Kd.M (Kd.int .u8) _ _ _ ((a0 / 256) % 256) [.int .u8 ((a0 / 256) % 256)] from rfl) (Reps.one (show Kd.M (Kd.int .u8) _ _ _ ((a0) % 256) [.int .u8 ((a0) % 256)] from rfl) (Reps.none _ _)))); intro v222 w5 ho6 hb hg_ hnew_; clear hg_ hnew_; (first | rw [← Ny221.out] at ho6 | (simp only [Int.reduceToNat] at ho6; rw [← Ny221.out] at ho6)); have n0_ := ak (Kd.R_lower (Kd.R_newM (M := fun k_ => (w.heap.size ≤ k_)) ho6 (below_size bX) (fun k_ h_ => h_)) (below_size bX)); have n1_ := ak (below_step bX hb); clear HB; have HO223 := n0_; have HB := n1_; clear n0_ n1_; clear hb ho6; have hcv7 := own_string (P := Try.prog) Try.underlying115 Try.underlying5 Try.underlying34 (Kd.own_of_R HO223.out)) | ((with_reducible refine gate_callee (f := 71) rfl ?_); refine goesL_ (some 17) rfl rfl Try.func71 (by kernel_rfl) rfl #[.int .i64 a0, .slice A1 l1.length c1, .string (strOfNums y221), .slice A2 l2.length c2] rfl mX ?_; (with_reducible refine (fp_PowMod.calls k a0 _ _ l1 (strOfNums y221) _ _ l2 t224 _ ?side1 ?side2 ?side3 ?side4 A4.out).mono ?_); (case side1 => exact cX (Kd.C_below HR1.out HB.out)); (case side2 => exact HC1.out); (case side3 => exact cX (Kd.C_below HR2.out HB.out)); (case side4 => exact HC2.out); rintro e w8 ⟨v225, rfl, ho0, hb⟩; refine ⟨_, rfl, ?_⟩; have n0_ := ak (Kd.R_below (rX HO223.out) hb); have n1_ := ak (Kd.V_lower (Kd.V_mono (ok' := fun k_ => (w.heap.size ≤ k_) ∧ some k_ ≠ (v222 : Value).ownBlock) ho0 (fun k_ hk_ => ⟨(Nat.le_trans (below_size bX) hk_), (Kd.fresh' (Kd.R_lt (rX HO223.out)) k_ hk_)⟩)) (below_size bX)); have n2_ := ak (below_step bX hb); clear HO223; clear HB; have HO223 := n0_; have HO226 := n1_; have HB := n2_; clear n0_ n1_ n2_; (try clear hb); (try clear hb2); (try clear hk); (try clear hi); (try clear ho0)))
 go_ret
 exact ⟨_, by first | rfl | (simp [errW_none, errW_some] <;> rfl) | (simp [*, errW_none, errW_some] <;> rfl), by (with_reducible repeat (first | apply vA | apply vB | apply vC)); exact Kd.V_mono HO226.out (fun _ hk => hk.1), by repeat (first | (with_reducible first | exact HB.out | apply bA | apply bB | apply bC) | exact HB.out)⟩

/-! ### fp_Irreducible: function 61 -/
def fp_Irreducible.l0 : Nat → Int → List Int → Int → List Int → List Int → Int → Option (Bool)
 | 0, _, _, _, _, _, _ => none
 | k + 1, x0, x1, x5, x6, x7, x8 => if x8 ≤ x5 then ((fp_Power.f k x0 x7 x1).bind fun t233 => ((fp_Rem.f k x0 x6 x1).bind fun t236 => ((fp_Sub.f k x0 t233 t236).bind fun t239 => (if x8 = x5 then (some ((t239.length : Int) == 0)) else (if x8 = 0 then (none) else (if (Int.tmod x5 x8) = 0 then ((fp_Gcd.f k x0 t239 x1).bind fun t242 => (if (t242.length : Int) = 1 then (fp_Irreducible.l0 k x0 x1 x5 x6 t233 (wrap64 (x8 + 1))) else (some false))) else (fp_Irreducible.l0 k x0 x1 x5 x6 t233 (wrap64 (x8 + 1))))))))) else (some false)
def fp_Irreducible.f (k : Nat) (a0 : Int) (l1 : List Int) : Option (Bool) := if (wrap64 ((l1.length : Int) - 1)) < 1 then (some false) else ((some (([0, 1] : List Int) : List Int)).bind fun y227 => ((fp_Rem.f k a0 y227 l1).bind fun t230 => (fp_Irreducible.l0 k a0 l1 (wrap64 ((l1.length : Int) - 1)) y227 t230 1)))
theorem fp_Irreducible.mono_l : ∀ k, (∀ y0 y1 y2 y3 y4 y5, LeO (fp_Irreducible.l0 k y0 y1 y2 y3 y4 y5) (fp_Irreducible.l0 (k + 1) y0 y1 y2 y3 y4 y5))
 | 0 => fun _ _ _ _ _ _ r h => by simp [fp_Irreducible.l0] at h
 | k + 1 => by
   have ih0 := fp_Irreducible.mono_l k
   · intro y0 y1 y2 y3 y4 y5
     unfold fp_Irreducible.l0
     repeat' first
     | (with_reducible apply ih0)
     | (with_reducible apply fp_Gcd.mono)
     | (with_reducible apply fp_Power.mono)
     | (with_reducible apply fp_Rem.mono)
     | (with_reducible apply fp_Sub.mono)
     | (with_reducible apply LeO.refl)
     | (with_reducible apply LeO.none)
     | (with_reducible refine LeO.ite ?_ ?_)
     | (with_reducible refine LeO.bind ?_ (fun _ => ?_))
theorem fp_Irreducible.mono : ∀ a0 a1 k, LeO (fp_Irreducible.f k a0 a1) (fp_Irreducible.f (k + 1) a0 a1) := by
 intro a0 a1 k
 have ih0 := fp_Irreducible.mono_l k
 unfold fp_Irreducible.f
 repeat' first
  | (with_reducible apply ih0)
  | (with_reducible apply fp_Gcd.mono)
  | (with_reducible apply fp_Power.mono)
  | (with_reducible apply fp_Rem.mono)
  | (with_reducible apply fp_Sub.mono)
  | (with_reducible apply LeO.refl)
  | (with_reducible apply LeO.none)
  | (with_reducible refine LeO.ite ?_ ?_)
  | (with_reducible refine LeO.bind ?_ (fun _ => ?_))
set_option maxHeartbeats 8000000 in
set_option maxRecDepth 100000 in
theorem fp_Irreducible.calls (k : Nat) (a0 : Int) (A1 : Option Addr) (c1 : Nat) (l1 : List Int) (r : Bool) (w : World) (hr1 : Kd.C (Kd.int .i64) w A1 l1.length l1) (hc1 : l1.length ≤ c1) (h : fp_Irreducible.f k a0 l1 = some r) :
 Calls Try.prog 61 #[.int .i64 a0, .slice A1 l1.length c1] w fun e w' => e = .returned (.bool r) ∧ Below w.heap.size w w' := by
 have HR1 := ak hr1
 have HC1 := ak hc1
 clear hr1 hc1
 have HB := ak (Below.refl w.heap.size w)
 have H : (if (wrap64 ((l1.length : Int) - 1)) < 1 then (some false) else ((some (([0, 1] : List Int) : List Int)).bind fun y227 => ((fp_Rem.f k a0 y227 l1).bind fun t230 => (fp_Irreducible.l0 k a0 l1 (wrap64 ((l1.length : Int) - 1)) y227 t230 1)))) = some r := h
 clear h
 by_cases c3 : (wrap64 ((l1.length : Int) - 1)) < 1
 · rw [if_pos c3] at H
   have c3b0 : decide ((wrap64 ((l1.length : Int) - 1)) < 1) = true := decide_eq_true c3
   clear c3
   obtain rfl := Option.some.inj H
   go_enter Try.func61, Try.ntmps61
   go_wp2
   go_ret
   exact ⟨by first | rfl | (simp [errW_none, errW_some] <;> rfl) | (simp [*, errW_none, errW_some] <;> rfl), by repeat (first | (with_reducible first | exact HB.out | apply bA | apply bB | apply bC) | exact HB.out)⟩
 · rw [if_neg c3] at H
   have c3b0 : decide ((wrap64 ((l1.length : Int) - 1)) < 1) = false := decide_eq_false c3
   clear c3
   obtain ⟨y227, hy227⟩ : ∃ y_ : List Int, y_ = (([0, 1] : List Int)) := ⟨_, rfl⟩
   replace H : ((fp_Rem.f k a0 y227 l1).bind fun t230 => (fp_Irreducible.l0 k a0 l1 (wrap64 ((l1.length : Int) - 1)) y227 t230 1)) = some r := by first | (rw [hy227]; with_reducible exact H) | (have H2_ := (Option.bind_some _ _).symm.trans H; rw [hy227]; with_reducible exact H2_) | (have H2_ := (Option.bind_some _ _).symm.trans H; with_reducible exact H2_) | with_reducible exact H | (rw [hy227]; exact H) | exact H
   have Ny227 := ak hy227
   clear hy227
   replace H := Option.bind_eq_some_iff.mp H
   obtain ⟨t230, A40, H⟩ := H
   replace H : (fp_Irreducible.l0 k a0 l1 (wrap64 ((l1.length : Int) - 1)) y227 t230 1) = some r := H
   have A4 := ak A40
   clear A40
   have H' := ak H
   clear H
   go_enter Try.func61, Try.ntmps61
   go_wp2_with (first | ((with_reducible refine gate_dst (N := 15) rfl ?_); (try (refine gate_guard (by rfl) ?_; dsimp only)); refine Kd.R_lit (Kd.int .i64) _ 3 ?hg (N := 15) ?hd (xs := ([0, 1] : List Int)) (inner := [.int .i64 0, .int .i64 1]) (ok := fun _ => True) (okp := fun _ => True) ?hr ?hp (fun _ hk => hk) trivial (Below.refl _ _) (Nat.le_refl _) (by simp) ?_; (case hd => rfl); (case hg => rfl); (case hr => first | (go_simp; done) | (go_simp; rfl)); (case hp => exact (Reps.one (show Kd.M (Kd.int .i64) _ _ _ 0 [.int .i64 0] from rfl) (Reps.one (show Kd.M (Kd.int .i64) _ _ _ 1 [.int .i64 1] from rfl) (Reps.none _ _)))); intro v228 w5 ho6 hb hg_ hnew_; clear hg_ hnew_; (first | rw [← Ny227.out] at ho6 | (simp only [Int.reduceToNat] at ho6; rw [← Ny227.out] at ho6)); have n0_ := ak (Kd.R_lower ho6 (below_size bX)); have n1_ := ak (below_step bX hb); clear HB; have HO229 := n0_; have HB := n1_; clear n0_ n1_; clear hb ho6; obtain ⟨Ao7, co7, eo7⟩ := Kd.R_slice HO229.out; subst eo7) | ((with_reducible refine gate_callee (f := 70) rfl ?_); refine goesL_ (some 19) rfl rfl Try.func70 (by kernel_rfl) rfl #[.int .i64 a0, .slice Ao7 y227.length co7, .slice A1 l1.length c1] rfl mX ?_; (with_reducible refine (fp_Rem.calls k a0 _ _ y227 _ _ l1 t230 _ ?side1 ?side2 ?side3 ?side4 A4.out).mono ?_); (case side1 => exact cX (Kd.R_reads' HO229.out).2.2); (case side2 => exact (Kd.R_reads' HO229.out).2.1); (case side3 => exact cX (Kd.C_below HR1.out HB.out)); (case side4 => exact HC1.out); rintro e w8 ⟨v231, rfl, ho0, hb⟩; refine ⟨_, rfl, ?_⟩; have n0_ := ak (Kd.R_below (rX HO229.out) hb); have n1_ := ak (Kd.V_lower (Kd.V_mono (ok' := fun k_ => some k_ ≠ (.slice Ao7 y227.length co7 : Value).ownBlock) ho0 (fun k_ hk_ => (Kd.fresh' (Kd.R_lt (rX HO229.out)) k_ hk_))) (below_size bX)); have n2_ := ak (below_step bX hb); clear HO229; clear HB; have HO229 := n0_; have HO232 := n1_; have HB := n2_; clear n0_ n1_ n2_; (try clear hb); (try clear hb2); (try clear hk); (try clear hi); (try clear ho0)))
   go_loopg [7, 8] k (fun kq v7 v8 w' => ∃ (x7_1 : List Int) (x8_1 : Int), v8 = .int .i64 x8_1 ∧ Aside0 (fp_Irreducible.l0 kq a0 l1 (wrap64 ((l1.length : Int) - 1)) y227 x7_1 x8_1 = some r) ∧ Aside0 (kq ≤ k) ∧ Aside0 (Kd.R (Kd.int .i64) 3 w' w.heap.size (fun _ => True) (.slice Ao7 y227.length co7) y227) ∧ Aside0 (Kd.V (Kd.int .i64) 3 w' w.heap.size (fun k_ => some k_ ≠ ((.slice Ao7 y227.length co7) : Value).ownBlock) v7 x7_1) ∧ Aside0 (Below w.heap.size w w'))
   case atStart => exact ⟨(t230), (1), (by first | rfl | (simp; done) | (simp [*]; done)), H', ⟨Nat.le_refl _⟩, ⟨by (with_reducible repeat (first | apply Kd.R_alloc | apply Kd.R_drewN | apply Kd.R_drew)); exact HO229.out⟩, ⟨by (with_reducible repeat (first | apply vA | apply vB | apply vC)); exact HO232.out⟩, ⟨by repeat (first | (with_reducible first | exact HB.out | apply bA | apply bB | apply bC) | exact HB.out)⟩⟩
   case round =>
    clear H'
    try clear c1
    try clear p2
    try clear c3
    try clear c3b0
    try clear c6
    try clear p6
    try clear c7
    obtain ⟨x7_1, x8_1, rfl, HA, HK1, HO_6, HO_7, HB⟩ := hrel
    cases gk with
    | zero => exact absurd HA.out (by simp [fp_Irreducible.l0])
    | succ k1 =>
      have H := HA.out
      clear HA
      simp only [fp_Irreducible.l0] at H
      by_cases c9 : x8_1 ≤ (wrap64 ((l1.length : Int) - 1))
      · rw [if_pos c9] at H
        have c9b0 : decide (x8_1 ≤ (wrap64 ((l1.length : Int) - 1))) = true := decide_eq_true c9
        clear c9
        replace H := Option.bind_eq_some_iff.mp H
        obtain ⟨t233, A100, H⟩ := H
        replace H : ((fp_Rem.f k1 a0 y227 l1).bind fun t236 => ((fp_Sub.f k1 a0 t233 t236).bind fun t239 => (if x8_1 = (wrap64 ((l1.length : Int) - 1)) then (some ((t239.length : Int) == 0)) else (if x8_1 = 0 then (none) else (if (Int.tmod (wrap64 ((l1.length : Int) - 1)) x8_1) = 0 then ((fp_Gcd.f k1 a0 t239 l1).bind fun t242 => (if (t242.length : Int) = 1 then (fp_Irreducible.l0 k1 a0 l1 (wrap64 ((l1.length : Int) - 1)) y227 t233 (wrap64 (x8_1 + 1))) else (some false))) else (fp_Irreducible.l0 k1 a0 l1 (wrap64 ((l1.length : Int) - 1)) y227 t233 (wrap64 (x8_1 + 1)))))))) = some r := H
        have A10 := ak A100
        clear A100
        replace H := Option.bind_eq_some_iff.mp H
        obtain ⟨t236, A110, H⟩ := H
        replace H : ((fp_Sub.f k1 a0 t233 t236).bind fun t239 => (if x8_1 = (wrap64 ((l1.length : Int) - 1)) then (some ((t239.length : Int) == 0)) else (if x8_1 = 0 then (none) else (if (Int.tmod (wrap64 ((l1.length : Int) - 1)) x8_1) = 0 then ((fp_Gcd.f k1 a0 t239 l1).bind fun t242 => (if (t242.length : Int) = 1 then (fp_Irreducible.l0 k1 a0 l1 (wrap64 ((l1.length : Int) - 1)) y227 t233 (wrap64 (x8_1 + 1))) else (some false))) else (fp_Irreducible.l0 k1 a0 l1 (wrap64 ((l1.length : Int) - 1)) y227 t233 (wrap64 (x8_1 + 1))))))) = some r := H
        have A11 := ak A110
        clear A110
        replace H := Option.bind_eq_some_iff.mp H
        obtain ⟨t239, A120, H⟩ := H
        replace H : (if x8_1 = (wrap64 ((l1.length : Int) - 1)) then (some ((t239.length : Int) == 0)) else (if x8_1 = 0 then (none) else (if (Int.tmod (wrap64 ((l1.length : Int) - 1)) x8_1) = 0 then ((fp_Gcd.f k1 a0 t239 l1).bind fun t242 => (if (t242.length : Int) = 1 then (fp_Irreducible.l0 k1 a0 l1 (wrap64 ((l1.length : Int) - 1)) y227 t233 (wrap64 (x8_1 + 1))) else (some false))) else (fp_Irreducible.l0 k1 a0 l1 (wrap64 ((l1.length : Int) - 1)) y227 t233 (wrap64 (x8_1 + 1)))))) = some r := H
        have A12 := ak A120
        clear A120
        by_cases c13 : x8_1 = (wrap64 ((l1.length : Int) - 1))
        · rw [if_pos c13] at H
          have c13b0 : (x8_1 == (wrap64 ((l1.length : Int) - 1))) = true := beq_iff_eq.mpr c13
          have c13b1 : (x8_1 != (wrap64 ((l1.length : Int) - 1))) = false := bne_eq_false_iff_eq.mpr c13
          clear c13
          obtain rfl := Option.some.inj H
          obtain ⟨Ao14, co14, eo14⟩ := Kd.V_slice HO_7.out
          subst eo14
          go_wp2_with (first | ((with_reducible refine gate_callee (f := 104) rfl ?_); refine goesL_ (some 28) rfl rfl Try.func104 (by kernel_rfl) rfl #[.int .i64 a0, .slice Ao14 x7_1.length co14, .slice A1 l1.length c1] rfl mX ?_; (with_reducible refine (fp_Power.calls k1 a0 _ _ x7_1 _ _ l1 t233 _ ?side1 ?side2 ?side3 ?side4 A10.out).mono ?_); (case side1 => exact cX (Kd.V_reads' HO_7.out).2.2); (case side2 => exact (Kd.V_reads' HO_7.out).2.1); (case side3 => exact cX (Kd.C_below HR1.out HB.out)); (case side4 => exact HC1.out); rintro e w15 ⟨v234, rfl, ho0, hb⟩; refine ⟨_, rfl, ?_⟩; have n0_ := ak (Kd.R_below (rX HO_6.out) hb); have n1_ := ak (Kd.V_below (vX HO_7.out) hb); have n2_ := ak (Kd.V_lower (Kd.V_mono (ok' := fun k_ => some k_ ≠ (.slice Ao7 y227.length co7 : Value).ownBlock) ho0 (fun k_ hk_ => (Kd.fresh' (Kd.R_lt (rX HO_6.out)) k_ hk_))) (below_size bX)); have n3_ := ak (below_step bX hb); clear HO_6; clear HO_7; clear HB; have HO_6 := n0_; have HO_7 := n1_; have HO235 := n2_; have HB := n3_; clear n0_ n1_ n2_ n3_; (try clear hb); (try clear hb2); (try clear hk); (try clear hi); (try clear ho0)) | ((with_reducible refine gate_callee (f := 70) rfl ?_); refine goesL_ (some 34) rfl rfl Try.func70 (by kernel_rfl) rfl #[.int .i64 a0, .slice Ao7 y227.length co7, .slice A1 l1.length c1] rfl mX ?_; (with_reducible refine (fp_Rem.calls k1 a0 _ _ y227 _ _ l1 t236 _ ?side1 ?side2 ?side3 ?side4 A11.out).mono ?_); (case side1 => exact cX (Kd.R_reads' HO_6.out).2.2); (case side2 => exact (Kd.R_reads' HO_6.out).2.1); (case side3 => exact cX (Kd.C_below HR1.out HB.out)); (case side4 => exact HC1.out); rintro e w16 ⟨v237, rfl, ho0, hb⟩; refine ⟨_, rfl, ?_⟩; have n0_ := ak (Kd.R_below (rX HO_6.out) hb); have n1_ := ak (Kd.V_below (vX HO_7.out) hb); have n2_ := ak (Kd.V_below (vX HO235.out) hb); have n3_ := ak (Kd.V_lower (Kd.V_mono (ok' := fun k_ => some k_ ≠ (.slice Ao7 y227.length co7 : Value).ownBlock) ho0 (fun k_ hk_ => (Kd.fresh' (Kd.R_lt (rX HO_6.out)) k_ hk_))) (below_size bX)); have n4_ := ak (below_step bX hb); clear HO_6; clear HO_7; clear HO235; clear HB; have HO_6 := n0_; have HO_7 := n1_; have HO235 := n2_; have HO238 := n3_; have HB := n4_; clear n0_ n1_ n2_ n3_ n4_; (try clear hb); (try clear hb2); (try clear hk); (try clear hi); (try clear ho0); obtain ⟨Ao17, co17, eo17⟩ := Kd.V_slice HO235.out; subst eo17; obtain ⟨Ao18, co18, eo18⟩ := Kd.V_slice HO238.out; subst eo18) | ((with_reducible refine gate_callee (f := 73) rfl ?_); refine goesL_ (some 35) rfl rfl Try.func73 (by kernel_rfl) rfl #[.int .i64 a0, .slice Ao17 t233.length co17, .slice Ao18 t236.length co18] rfl mX ?_; (with_reducible refine (fp_Sub.calls k1 a0 _ _ t233 _ _ t236 t239 _ ?side1 ?side2 ?side3 ?side4 A12.out).mono ?_); (case side1 => exact cX (Kd.V_reads' HO235.out).2.2); (case side2 => exact (Kd.V_reads' HO235.out).2.1); (case side3 => exact cX (Kd.V_reads' HO238.out).2.2); (case side4 => exact (Kd.V_reads' HO238.out).2.1); rintro e w19 ⟨v240, rfl, ho0, hb⟩; refine ⟨_, rfl, ?_⟩; have n0_ := ak (Kd.R_below (rX HO_6.out) hb); have n1_ := ak (Kd.V_below (vX HO_7.out) hb); have n2_ := ak (Kd.V_below (vX HO235.out) hb); have n3_ := ak (Kd.V_below (vX HO238.out) hb); have n4_ := ak (Kd.V_lower (Kd.V_mono (ok' := fun k_ => some k_ ≠ (.slice Ao7 y227.length co7 : Value).ownBlock) ho0 (fun k_ hk_ => (Kd.fresh' (Kd.R_lt (rX HO_6.out)) k_ hk_))) (below_size bX)); have n5_ := ak (below_step bX hb); clear HO_6; clear HO_7; clear HO235; clear HO238; clear HB; have HO_6 := n0_; have HO_7 := n1_; have HO235 := n2_; have HO238 := n3_; have HO241 := n4_; have HB := n5_; clear n0_ n1_ n2_ n3_ n4_ n5_; (try clear hb); (try clear hb2); (try clear hk); (try clear hi); (try clear ho0); obtain ⟨Ao20, co20, eo20⟩ := Kd.V_slice HO241.out; subst eo20))
          go_ret
          exact ⟨by first | rfl | (simp [errW_none, errW_some] <;> rfl) | (simp [*, errW_none, errW_some] <;> rfl), by repeat (first | (with_reducible first | exact HB.out | apply bA | apply bB | apply bC) | exact HB.out)⟩
        · rw [if_neg c13] at H
          have c13b0 : (x8_1 == (wrap64 ((l1.length : Int) - 1))) = false := beq_eq_false_iff_ne.mpr c13
          have c13b1 : (x8_1 != (wrap64 ((l1.length : Int) - 1))) = true := bne_iff_ne.mpr c13
          by_cases c21 : x8_1 = 0
          · rw [if_pos c21] at H
            exact absurd H (by simp)
          · rw [if_neg c21] at H
            have c21b0 : (x8_1 == 0) = false := beq_eq_false_iff_ne.mpr c21
            have c21b1 : (x8_1 != 0) = true := bne_iff_ne.mpr c21
            by_cases c22 : (Int.tmod (wrap64 ((l1.length : Int) - 1)) x8_1) = 0
            · rw [if_pos c22] at H
              have c22b0 : ((Int.tmod (wrap64 ((l1.length : Int) - 1)) x8_1) == 0) = true := beq_iff_eq.mpr c22
              have c22b1 : ((Int.tmod (wrap64 ((l1.length : Int) - 1)) x8_1) != 0) = false := bne_eq_false_iff_eq.mpr c22
              clear c22
              replace H := Option.bind_eq_some_iff.mp H
              obtain ⟨t242, A230, H⟩ := H
              replace H : (if (t242.length : Int) = 1 then (fp_Irreducible.l0 k1 a0 l1 (wrap64 ((l1.length : Int) - 1)) y227 t233 (wrap64 (x8_1 + 1))) else (some false)) = some r := H
              have A23 := ak A230
              clear A230
              by_cases c24 : (t242.length : Int) = 1
              · rw [if_pos c24] at H
                have c24b0 : ((t242.length : Int) == 1) = true := beq_iff_eq.mpr c24
                have c24b1 : ((t242.length : Int) != 1) = false := bne_eq_false_iff_eq.mpr c24
                clear c24
                have H' := ak H
                clear H
                obtain ⟨Ao25, co25, eo25⟩ := Kd.V_slice HO_7.out
                subst eo25
                go_wp2_with (first | ((with_reducible refine gate_callee (f := 104) rfl ?_); refine goesL_ (some 28) rfl rfl Try.func104 (by kernel_rfl) rfl #[.int .i64 a0, .slice Ao25 x7_1.length co25, .slice A1 l1.length c1] rfl mX ?_; (with_reducible refine (fp_Power.calls k1 a0 _ _ x7_1 _ _ l1 t233 _ ?side1 ?side2 ?side3 ?side4 A10.out).mono ?_); (case side1 => exact cX (Kd.V_reads' HO_7.out).2.2); (case side2 => exact (Kd.V_reads' HO_7.out).2.1); (case side3 => exact cX (Kd.C_below HR1.out HB.out)); (case side4 => exact HC1.out); rintro e w26 ⟨v234, rfl, ho0, hb⟩; refine ⟨_, rfl, ?_⟩; have n0_ := ak (Kd.R_below (rX HO_6.out) hb); have n1_ := ak (Kd.V_below (vX HO_7.out) hb); have n2_ := ak (Kd.V_lower (Kd.V_mono (ok' := fun k_ => some k_ ≠ (.slice Ao7 y227.length co7 : Value).ownBlock) ho0 (fun k_ hk_ => (Kd.fresh' (Kd.R_lt (rX HO_6.out)) k_ hk_))) (below_size bX)); have n3_ := ak (below_step bX hb); clear HO_6; clear HO_7; clear HB; have HO_6 := n0_; have HO_7 := n1_; have HO235 := n2_; have HB := n3_; clear n0_ n1_ n2_ n3_; (try clear hb); (try clear hb2); (try clear hk); (try clear hi); (try clear ho0)) | ((with_reducible refine gate_callee (f := 70) rfl ?_); refine goesL_ (some 34) rfl rfl Try.func70 (by kernel_rfl) rfl #[.int .i64 a0, .slice Ao7 y227.length co7, .slice A1 l1.length c1] rfl mX ?_; (with_reducible refine (fp_Rem.calls k1 a0 _ _ y227 _ _ l1 t236 _ ?side1 ?side2 ?side3 ?side4 A11.out).mono ?_); (case side1 => exact cX (Kd.R_reads' HO_6.out).2.2); (case side2 => exact (Kd.R_reads' HO_6.out).2.1); (case side3 => exact cX (Kd.C_below HR1.out HB.out)); (case side4 => exact HC1.out); rintro e w27 ⟨v237, rfl, ho0, hb⟩; refine ⟨_, rfl, ?_⟩; have n0_ := ak (Kd.R_below (rX HO_6.out) hb); have n1_ := ak (Kd.V_below (vX HO_7.out) hb); have n2_ := ak (Kd.V_below (vX HO235.out) hb); have n3_ := ak (Kd.V_lower (Kd.V_mono (ok' := fun k_ => some k_ ≠ (.slice Ao7 y227.length co7 : Value).ownBlock) ho0 (fun k_ hk_ => (Kd.fresh' (Kd.R_lt (rX HO_6.out)) k_ hk_))) (below_size bX)); have n4_ := ak (below_step bX hb); clear HO_6; clear HO_7; clear HO235; clear HB; have HO_6 := n0_; have HO_7 := n1_; have HO235 := n2_; have HO238 := n3_; have HB := n4_; clear n0_ n1_ n2_ n3_ n4_; (try clear hb); (try clear hb2); (try clear hk); (try clear hi); (try clear ho0); obtain ⟨Ao28, co28, eo28⟩ := Kd.V_slice HO235.out; subst eo28; obtain ⟨Ao29, co29, eo29⟩ := Kd.V_slice HO238.out; subst eo29) | ((with_reducible refine gate_callee (f := 73) rfl ?_); refine goesL_ (some 35) rfl rfl Try.func73 (by kernel_rfl) rfl #[.int .i64 a0, .slice Ao28 t233.length co28, .slice Ao29 t236.length co29] rfl mX ?_; (with_reducible refine (fp_Sub.calls k1 a0 _ _ t233 _ _ t236 t239 _ ?side1 ?side2 ?side3 ?side4 A12.out).mono ?_); (case side1 => exact cX (Kd.V_reads' HO235.out).2.2); (case side2 => exact (Kd.V_reads' HO235.out).2.1); (case side3 => exact cX (Kd.V_reads' HO238.out).2.2); (case side4 => exact (Kd.V_reads' HO238.out).2.1); rintro e w30 ⟨v240, rfl, ho0, hb⟩; refine ⟨_, rfl, ?_⟩; have n0_ := ak (Kd.R_below (rX HO_6.out) hb); have n1_ := ak (Kd.V_below (vX HO_7.out) hb); have n2_ := ak (Kd.V_below (vX HO235.out) hb); have n3_ := ak (Kd.V_below (vX HO238.out) hb); have n4_ := ak (Kd.V_lower (Kd.V_mono (ok' := fun k_ => some k_ ≠ (.slice Ao7 y227.length co7 : Value).ownBlock) ho0 (fun k_ hk_ => (Kd.fresh' (Kd.R_lt (rX HO_6.out)) k_ hk_))) (below_size bX)); have n5_ := ak (below_step bX hb); clear HO_6; clear HO_7; clear HO235; clear HO238; clear HB; have HO_6 := n0_; have HO_7 := n1_; have HO235 := n2_; have HO238 := n3_; have HO241 := n4_; have HB := n5_; clear n0_ n1_ n2_ n3_ n4_ n5_; (try clear hb); (try clear hb2); (try clear hk); (try clear hi); (try clear ho0); obtain ⟨Ao31, co31, eo31⟩ := Kd.V_slice HO241.out; subst eo31) | (go_at_call 81; (with_reducible refine (fp_Gcd.calls k1 a0 (fun k_ => some k_ ≠ (.slice Ao7 y227.length co7 : Value).ownBlock) _ _ t239 (fun k_ => k_ < w.heap.size) _ _ l1 t242 _ ?side1 ?side2 A23.out).mono ?_); (case side1 => exact HO241.out); (case side2 => exact Kd.V_mk HC1.out (Kd.F_below (Kd.C_F (Kd.heap_int .i64) HR1.out) bX)); rintro e w32 ⟨v243, rfl, ho0, hb⟩; have n0_ := ak (Kd.R_below (rX HO_6.out) hb); have n1_ := ak (Kd.V_below (vX HO_7.out) hb); have n2_ := ak (Kd.V_below (vX HO235.out) hb); have n3_ := ak (Kd.V_below (vX HO238.out) hb); have n4_ := ak (Kd.V_below (vX HO241.out) hb); have n5_ := ak (Kd.V_lower (Kd.V_mono (ok' := fun k_ => some k_ ≠ (.slice Ao7 y227.length co7 : Value).ownBlock) ho0 (fun k_ hk_ => Or.elim hk_ (fun hs_ => Or.elim hs_ (fun hs_ => hs_) (fun hs_ => fun e_ => Nat.not_le.2 hs_ (Kd.R_base HO_6.out k_ e_.symm))) (fun hn_ => (Kd.fresh' (Kd.R_lt (rX HO_6.out)) k_ hn_)))) (below_size bX)); have n6_ := ak (below_step bX hb); clear HO_6; clear HO_7; clear HO235; clear HO238; clear HO241; clear HB; have HO_6 := n0_; have HO_7 := n1_; have HO235 := n2_; have HO238 := n3_; have HO241 := n4_; have HO244 := n5_; have HB := n6_; clear n0_ n1_ n2_ n3_ n4_ n5_ n6_; (try clear hb); (try clear hb2); (try clear hk); (try clear hi); (try clear ho0); obtain ⟨Ao33, co33, eo33⟩ := Kd.V_slice HO244.out; subst eo33))
                (first | go_roundg k1 | (refine Handed.intro k1 ?measure ?_; rotate_left; go_step; (repeat rw [add_plain]); (repeat apply Exists.intro); refine ⟨?rel, rfl⟩))
                case measure => have := HK1.out; omega
                case rel => exact ⟨(t233), (wrap64 (x8_1 + 1)), (by first | rfl | (simp; done) | (simp [*]; done)), H', ⟨by have := HK1.out; omega⟩, ⟨by (with_reducible repeat (first | apply Kd.R_alloc | apply Kd.R_drewN | apply Kd.R_drew)); exact HO_6.out⟩, ⟨by (with_reducible repeat (first | apply vA | apply vB | apply vC)); exact HO235.out⟩, ⟨by repeat (first | (with_reducible first | exact HB.out | apply bA | apply bB | apply bC) | exact HB.out)⟩⟩
              · rw [if_neg c24] at H
                have c24b0 : ((t242.length : Int) == 1) = false := beq_eq_false_iff_ne.mpr c24
                have c24b1 : ((t242.length : Int) != 1) = true := bne_iff_ne.mpr c24
                obtain rfl := Option.some.inj H
                obtain ⟨Ao34, co34, eo34⟩ := Kd.V_slice HO_7.out
                subst eo34
                go_wp2_with (first | ((with_reducible refine gate_callee (f := 104) rfl ?_); refine goesL_ (some 28) rfl rfl Try.func104 (by kernel_rfl) rfl #[.int .i64 a0, .slice Ao34 x7_1.length co34, .slice A1 l1.length c1] rfl mX ?_; (with_reducible refine (fp_Power.calls k1 a0 _ _ x7_1 _ _ l1 t233 _ ?side1 ?side2 ?side3 ?side4 A10.out).mono ?_); (case side1 => exact cX (Kd.V_reads' HO_7.out).2.2); (case side2 => exact (Kd.V_reads' HO_7.out).2.1); (case side3 => exact cX (Kd.C_below HR1.out HB.out)); (case side4 => exact HC1.out); rintro e w35 ⟨v234, rfl, ho0, hb⟩; refine ⟨_, rfl, ?_⟩; have n0_ := ak (Kd.R_below (rX HO_6.out) hb); have n1_ := ak (Kd.V_below (vX HO_7.out) hb); have n2_ := ak (Kd.V_lower (Kd.V_mono (ok' := fun k_ => some k_ ≠ (.slice Ao7 y227.length co7 : Value).ownBlock) ho0 (fun k_ hk_ => (Kd.fresh' (Kd.R_lt (rX HO_6.out)) k_ hk_))) (below_size bX)); have n3_ := ak (below_step bX hb); clear HO_6; clear HO_7; clear HB; have HO_6 := n0_; have HO_7 := n1_; have HO235 := n2_; have HB := n3_; clear n0_ n1_ n2_ n3_; (try clear hb); (try clear hb2); (try clear hk); (try clear hi); (try clear ho0)) | ((with_reducible refine gate_callee (f := 70) rfl ?_); refine goesL_ (some 34) rfl rfl Try.func70 (by kernel_rfl) rfl #[.int .i64 a0, .slice Ao7 y227.length co7, .slice A1 l1.length c1] rfl mX ?_; (with_reducible refine (fp_Rem.calls k1 a0 _ _ y227 _ _ l1 t236 _ ?side1 ?side2 ?side3 ?side4 A11.out).mono ?_); (case side1 => exact cX (Kd.R_reads' HO_6.out).2.2); (case side2 => exact (Kd.R_reads' HO_6.out).2.1); (case side3 => exact cX (Kd.C_below HR1.out HB.out)); (case side4 => exact HC1.out); rintro e w36 ⟨v237, rfl, ho0, hb⟩; refine ⟨_, rfl, ?_⟩; have n0_ := ak (Kd.R_below (rX HO_6.out) hb); have n1_ := ak (Kd.V_below (vX HO_7.out) hb); have n2_ := ak (Kd.V_below (vX HO235.out) hb); have n3_ := ak (Kd.V_lower (Kd.V_mono (ok' := fun k_ => some k_ ≠ (.slice Ao7 y227.length co7 : Value).ownBlock) ho0 (fun k_ hk_ => (Kd.fresh' (Kd.R_lt (rX HO_6.out)) k_ hk_))) (below_size bX)); have n4_ := ak (below_step bX hb); clear HO_6; clear HO_7; clear HO235; clear HB; have HO_6 := n0_; have HO_7 := n1_; have HO235 := n2_; have HO238 := n3_; have HB := n4_; clear n0_ n1_ n2_ n3_ n4_; (try clear hb); (try clear hb2); (try clear hk); (try clear hi); (try clear ho0); obtain ⟨Ao37, co37, eo37⟩ := Kd.V_slice HO235.out; subst eo37; obtain ⟨Ao38, co38, eo38⟩ := Kd.V_slice HO238.out; subst eo38) | ((with_reducible refine gate_callee (f := 73) rfl ?_); refine goesL_ (some 35) rfl rfl Try.func73 (by kernel_rfl) rfl #[.int .i64 a0, .slice Ao37 t233.length co37, .slice Ao38 t236.length co38] rfl mX ?_; (with_reducible refine (fp_Sub.calls k1 a0 _ _ t233 _ _ t236 t239 _ ?side1 ?side2 ?side3 ?side4 A12.out).mono ?_); (case side1 => exact cX (Kd.V_reads' HO235.out).2.2); (case side2 => exact (Kd.V_reads' HO235.out).2.1); (case side3 => exact cX (Kd.V_reads' HO238.out).2.2); (case side4 => exact (Kd.V_reads' HO238.out).2.1); rintro e w39 ⟨v240, rfl, ho0, hb⟩; refine ⟨_, rfl, ?_⟩; have n0_ := ak (Kd.R_below (rX HO_6.out) hb); have n1_ := ak (Kd.V_below (vX HO_7.out) hb); have n2_ := ak (Kd.V_below (vX HO235.out) hb); have n3_ := ak (Kd.V_below (vX HO238.out) hb); have n4_ := ak (Kd.V_lower (Kd.V_mono (ok' := fun k_ => some k_ ≠ (.slice Ao7 y227.length co7 : Value).ownBlock) ho0 (fun k_ hk_ => (Kd.fresh' (Kd.R_lt (rX HO_6.out)) k_ hk_))) (below_size bX)); have n5_ := ak (below_step bX hb); clear HO_6; clear HO_7; clear HO235; clear HO238; clear HB; have HO_6 := n0_; have HO_7 := n1_; have HO235 := n2_; have HO238 := n3_; have HO241 := n4_; have HB := n5_; clear n0_ n1_ n2_ n3_ n4_ n5_; (try clear hb); (try clear hb2); (try clear hk); (try clear hi); (try clear ho0); obtain ⟨Ao40, co40, eo40⟩ := Kd.V_slice HO241.out; subst eo40) | (go_at_call 81; (with_reducible refine (fp_Gcd.calls k1 a0 (fun k_ => some k_ ≠ (.slice Ao7 y227.length co7 : Value).ownBlock) _ _ t239 (fun k_ => k_ < w.heap.size) _ _ l1 t242 _ ?side1 ?side2 A23.out).mono ?_); (case side1 => exact HO241.out); (case side2 => exact Kd.V_mk HC1.out (Kd.F_below (Kd.C_F (Kd.heap_int .i64) HR1.out) bX)); rintro e w41 ⟨v243, rfl, ho0, hb⟩; have n0_ := ak (Kd.R_below (rX HO_6.out) hb); have n1_ := ak (Kd.V_below (vX HO_7.out) hb); have n2_ := ak (Kd.V_below (vX HO235.out) hb); have n3_ := ak (Kd.V_below (vX HO238.out) hb); have n4_ := ak (Kd.V_below (vX HO241.out) hb); have n5_ := ak (Kd.V_lower (Kd.V_mono (ok' := fun k_ => some k_ ≠ (.slice Ao7 y227.length co7 : Value).ownBlock) ho0 (fun k_ hk_ => Or.elim hk_ (fun hs_ => Or.elim hs_ (fun hs_ => hs_) (fun hs_ => fun e_ => Nat.not_le.2 hs_ (Kd.R_base HO_6.out k_ e_.symm))) (fun hn_ => (Kd.fresh' (Kd.R_lt (rX HO_6.out)) k_ hn_)))) (below_size bX)); have n6_ := ak (below_step bX hb); clear HO_6; clear HO_7; clear HO235; clear HO238; clear HO241; clear HB; have HO_6 := n0_; have HO_7 := n1_; have HO235 := n2_; have HO238 := n3_; have HO241 := n4_; have HO244 := n5_; have HB := n6_; clear n0_ n1_ n2_ n3_ n4_ n5_ n6_; (try clear hb); (try clear hb2); (try clear hk); (try clear hi); (try clear ho0); obtain ⟨Ao42, co42, eo42⟩ := Kd.V_slice HO244.out; subst eo42))
                go_ret
                exact ⟨by first | rfl | (simp [errW_none, errW_some] <;> rfl) | (simp [*, errW_none, errW_some] <;> rfl), by repeat (first | (with_reducible first | exact HB.out | apply bA | apply bB | apply bC) | exact HB.out)⟩
            · rw [if_neg c22] at H
              have c22b0 : ((Int.tmod (wrap64 ((l1.length : Int) - 1)) x8_1) == 0) = false := beq_eq_false_iff_ne.mpr c22
              have c22b1 : ((Int.tmod (wrap64 ((l1.length : Int) - 1)) x8_1) != 0) = true := bne_iff_ne.mpr c22
              have H' := ak H
              clear H
              obtain ⟨Ao43, co43, eo43⟩ := Kd.V_slice HO_7.out
              subst eo43
              go_wp2_with (first | ((with_reducible refine gate_callee (f := 104) rfl ?_); refine goesL_ (some 28) rfl rfl Try.func104 (by kernel_rfl) rfl #[.int .i64 a0, .slice Ao43 x7_1.length co43, .slice A1 l1.length c1] rfl mX ?_; (with_reducible refine (fp_Power.calls k1 a0 _ _ x7_1 _ _ l1 t233 _ ?side1 ?side2 ?side3 ?side4 A10.out).mono ?_); (case side1 => exact cX (Kd.V_reads' HO_7.out).2.2); (case side2 => exact (Kd.V_reads' HO_7.out).2.1); (case side3 => exact cX (Kd.C_below HR1.out HB.out)); (case side4 => exact HC1.out); rintro e w44 ⟨v234, rfl, ho0, hb⟩; refine ⟨_, rfl, ?_⟩; have n0_ := ak (Kd.R_below (rX HO_6.out) hb); have n1_ := ak (Kd.V_below (vX HO_7.out) hb); have n2_ := ak (Kd.V_lower (Kd.V_mono (ok' := fun k_ => some k_ ≠ (.slice Ao7 y227.length co7 : Value).ownBlock) ho0 (fun k_ hk_ => (Kd.fresh' (Kd.R_lt (rX HO_6.out)) k_ hk_))) (below_size bX)); have n3_ := ak (below_step bX hb); clear HO_6; clear HO_7; clear HB; have HO_6 := n0_; have HO_7 := n1_; have HO235 := n2_; have HB := n3_; clear n0_ n1_ n2_ n3_; (try clear hb); (try clear hb2); (try clear hk); (try clear hi); (try clear ho0)) | ((with_reducible refine gate_callee (f := 70) rfl ?_); refine goesL_ (some 34) rfl rfl Try.func70 (by kernel_rfl) rfl #[.int .i64 a0, .slice Ao7 y227.length co7, .slice A1 l1.length c1] rfl mX ?_; (with_reducible refine (fp_Rem.calls k1 a0 _ _ y227 _ _ l1 t236 _ ?side1 ?side2 ?side3 ?side4 A11.out).mono ?_); (case side1 => exact cX (Kd.R_reads' HO_6.out).2.2); (case side2 => exact (Kd.R_reads' HO_6.out).2.1); (case side3 => exact cX (Kd.C_below HR1.out HB.out)); (case side4 => exact HC1.out); rintro e w45 ⟨v237, rfl, ho0, hb⟩; refine ⟨_, rfl, ?_⟩; have n0_ := ak (Kd.R_below (rX HO_6.out) hb); have n1_ := ak (Kd.V_below (vX HO_7.out) hb); have n2_ := ak (Kd.V_below (vX HO235.out) hb); have n3_ := ak (Kd.V_lower (Kd.V_mono (ok' := fun k_ => some k_ ≠ (.slice Ao7 y227.length co7 : Value).ownBlock) ho0 (fun k_ hk_ => (Kd.fresh' (Kd.R_lt (rX HO_6.out)) k_ hk_))) (below_size bX)); have n4_ := ak (below_step bX hb); clear HO_6; clear HO_7; clear HO235; clear HB; have HO_6 := n0_; have HO_7 := n1_; have HO235 := n2_; have HO238 := n3_; have HB := n4_; clear n0_ n1_ n2_ n3_ n4_; (try clear hb); (try clear hb2); (try clear hk); (try clear hi); (try clear ho0); obtain ⟨Ao46, co46, eo46⟩ := Kd.V_slice HO235.out; subst eo46; obtain ⟨Ao47, co47, eo47⟩ := Kd.V_slice HO238.out; subst eo47) | ((with_reducible refine gate_callee (f := 73) rfl ?_); refine goesL_ (some 35) rfl rfl Try.func73 (by kernel_rfl) rfl #[.int .i64 a0, .slice Ao46 t233.length co46, .slice Ao47 t236.length co47] rfl mX ?_; (with_reducible refine (fp_Sub.calls k1 a0 _ _ t233 _ _ t236 t239 _ ?side1 ?side2 ?side3 ?side4 A12.out).mono ?_); (case side1 => exact cX (Kd.V_reads' HO235.out).2.2); (case side2 => exact (Kd.V_reads' HO235.out).2.1); (case side3 => exact cX (Kd.V_reads' HO238.out).2.2); (case side4 => exact (Kd.V_reads' HO238.out).2.1); rintro e w48 ⟨v240, rfl, ho0, hb⟩; refine ⟨_, rfl, ?_⟩; have n0_ := ak (Kd.R_below (rX HO_6.out) hb); have n1_ := ak (Kd.V_below (vX HO_7.out) hb); have n2_ := ak (Kd.V_below (vX HO235.out) hb); have n3_ := ak (Kd.V_below (vX HO238.out) hb); have n4_ := ak (Kd.V_lower (Kd.V_mono (ok' := fun k_ => some k_ ≠ (.slice Ao7 y227.length co7 : Value).ownBlock) ho0 (fun k_ hk_ => (Kd.fresh' (Kd.R_lt (rX HO_6.out)) k_ hk_))) (below_size bX)); have n5_ := ak (below_step bX hb); clear HO_6; clear HO_7; clear HO235; clear HO238; clear HB; have HO_6 := n0_; have HO_7 := n1_; have HO235 := n2_; have HO238 := n3_; have HO241 := n4_; have HB := n5_; clear n0_ n1_ n2_ n3_ n4_ n5_; (try clear hb); (try clear hb2); (try clear hk); (try clear hi); (try clear ho0)))
              (first | go_roundg k1 | (refine Handed.intro k1 ?measure ?_; rotate_left; go_step; (repeat rw [add_plain]); (repeat apply Exists.intro); refine ⟨?rel, rfl⟩))
              case measure => have := HK1.out; omega
              case rel => exact ⟨(t233), (wrap64 (x8_1 + 1)), (by first | rfl | (simp; done) | (simp [*]; done)), H', ⟨by have := HK1.out; omega⟩, ⟨by (with_reducible repeat (first | apply Kd.R_alloc | apply Kd.R_drewN | apply Kd.R_drew)); exact HO_6.out⟩, ⟨by (with_reducible repeat (first | apply vA | apply vB | apply vC)); exact HO235.out⟩, ⟨by repeat (first | (with_reducible first | exact HB.out | apply bA | apply bB | apply bC) | exact HB.out)⟩⟩
      · rw [if_neg c9] at H
        have c9b0 : decide (x8_1 ≤ (wrap64 ((l1.length : Int) - 1))) = false := decide_eq_false c9
        clear c9
        obtain rfl := Option.some.inj H
        go_wp2
        go_ret
        exact ⟨by first | rfl | (simp [errW_none, errW_some] <;> rfl) | (simp [*, errW_none, errW_some] <;> rfl), by repeat (first | (with_reducible first | exact HB.out | apply bA | apply bB | apply bC) | exact HB.out)⟩

/-! ### polymod_IsIrreducible: function 14 -/
def polymod_IsIrreducible.f (k : Nat) (a0 : Int) (l1 : List Int) : Option (Bool × Int) := (polymod_first.f k a0 (([l1] : List (List Int)))).bind fun t248 => (if t248 = 0 then ((fp_Irreducible.f k a0 l1).bind fun t249 => (some (t249, 0))) else (some (false, t248)))
theorem polymod_IsIrreducible.mono : ∀ a0 a1 k, LeO (polymod_IsIrreducible.f k a0 a1) (polymod_IsIrreducible.f (k + 1) a0 a1) := by
 intro a0 a1 k
 unfold polymod_IsIrreducible.f
 repeat' first
  | (with_reducible apply fp_Irreducible.mono)
  | (with_reducible apply polymod_first.mono)
  | (with_reducible apply LeO.refl)
  | (with_reducible apply LeO.none)
  | (with_reducible refine LeO.ite ?_ ?_)
  | (with_reducible refine LeO.bind ?_ (fun _ => ?_))
set_option maxHeartbeats 8000000 in
set_option maxRecDepth 100000 in
theorem polymod_IsIrreducible.calls (k : Nat) (a0 : Int) (P1_ : Nat → Prop) (A1 : Option Addr) (c1 : Nat) (l1 : List Int) (r1 : Bool) (r2 : Int) (w : World) (hs1 : Kd.V (Kd.int .i64) 3 w w.heap.size (fun k_ => P1_ k_) (.slice A1 l1.length c1) l1) (h : polymod_IsIrreducible.f k a0 l1 = some (r1, r2)) :
 Calls Try.prog 14 #[.int .i64 a0, .slice A1 l1.length c1] w fun e w' => e = .returned (.tuple #[.bool r1, .int .i64 r2]) ∧ Below w.heap.size w w' := by
 have HO1 := ak (show Kd.V (Kd.int .i64) 3 w w.heap.size (fun k_ => (P1_ k_ ∨ w.heap.size ≤ k_)) (.slice A1 l1.length c1) l1 from Kd.V_mono hs1 (fun k_ hk => .inl hk))
 have HB := ak (Below.refl w.heap.size w)
 have H : ((polymod_first.f k a0 (([l1] : List (List Int)))).bind fun t248 => (if t248 = 0 then ((fp_Irreducible.f k a0 l1).bind fun t249 => (some (t249, 0))) else (some (false, t248)))) = some (r1, r2) := h
 clear h
 obtain ⟨y245, hy245⟩ : ∃ y_ : List (List Int), y_ = (([l1] : List (List Int))) := ⟨_, rfl⟩
 replace H : ((polymod_first.f k a0 y245).bind fun t248 => (if t248 = 0 then ((fp_Irreducible.f k a0 l1).bind fun t249 => (some (t249, 0))) else (some (false, t248)))) = some (r1, r2) := by first | (rw [hy245]; with_reducible exact H) | (have H2_ := (Option.bind_some _ _).symm.trans H; rw [hy245]; with_reducible exact H2_) | (have H2_ := (Option.bind_some _ _).symm.trans H; with_reducible exact H2_) | with_reducible exact H | (rw [hy245]; exact H) | exact H
 have Ny245 := ak hy245
 clear hy245
 replace H := Option.bind_eq_some_iff.mp H
 obtain ⟨t248, A30, H⟩ := H
 replace H : (if t248 = 0 then ((fp_Irreducible.f k a0 l1).bind fun t249 => (some (t249, 0))) else (some (false, t248))) = some (r1, r2) := H
 have A3 := ak A30
 clear A30
 by_cases c4 : t248 = 0
 · rw [if_pos c4] at H
   have c4b0 : (t248 == 0) = true := beq_iff_eq.mpr c4
   have c4b1 : (t248 != 0) = false := bne_eq_false_iff_eq.mpr c4
   clear c4
   replace H := Option.bind_eq_some_iff.mp H
   obtain ⟨t249, A50, H⟩ := H
   replace H : (some (t249, 0)) = some (r1, r2) := H
   have A5 := ak A50
   clear A50
   simp only [Option.some.injEq, Prod.mk.injEq] at H
   obtain ⟨rfl, rfl⟩ := H
   go_enter Try.func14, Try.ntmps14
   go_wp2_with (first | ((with_reducible refine gate_dst (N := 9) rfl ?_); refine Kd.N_lit (Kd.slice 3 (Kd.int .i64)) _ 23 ?hg (N' := 9) ?hd (xs := ([l1] : List (List Int))) (inner := [.slice A1 l1.length c1]) (ok := (fun k_ => (P1_ k_ ∨ w.heap.size ≤ k_))) (okp := (fun k_ => (P1_ k_ ∨ w.heap.size ≤ k_))) ?hr ?hp (fun _ hk => hk) ((show ∀ k_, w.heap.size ≤ k_ → (fun k_ => (P1_ k_ ∨ w.heap.size ≤ k_)) k_ from fun k_ hk => (.inr (Nat.le_trans (below_size bX) hk))) _ (Nat.le_refl _)) (Below.refl _ _) (Nat.le_refl _) (by simp) ?_; (case hd => rfl); (case hg => rfl); (case hr => first | (go_simp; done) | (go_simp; rfl)); (case hp => exact (Reps.one (show Kd.FK (Kd.slice 3 (Kd.int .i64)) _ _ l1 [.slice A1 l1.length c1] from (Kd.FK_slice_mk (Kd.V_reads' (Kd.V_mono (ok' := (fun k_ => (P1_ k_ ∨ w.heap.size ≤ k_))) (HO1.out) (fun k_ hk => hk))).2.1 (Kd.V_F (Kd.V_mono (ok' := (fun k_ => (P1_ k_ ∨ w.heap.size ≤ k_))) (HO1.out) (fun k_ hk => hk))))) (Reps.none _ _))); intro v246 w6 ho7 hb hg_ hnew_; clear hg_ hnew_; (first | rw [← Ny245.out] at ho7 | (simp only [Int.reduceToNat] at ho7; rw [← Ny245.out] at ho7)); have n0_ := ak (Kd.V_elder' (vX HO1.out) (Kd.N_base ho7) hb); have n1_ := ak (Kd.N_lower ho7 (below_size bX)); have n2_ := ak (below_step bX hb); clear HO1; clear HB; have HO1 := n0_; have HO247 := n1_; have HB := n2_; clear n0_ n1_ n2_; clear hb ho7; obtain ⟨Ao8, co8, eo8⟩ := Kd.N_slice HO247.out; subst eo8) | ((with_reducible refine gate_callee (f := 60) rfl ?_); refine goesL_ (some 10) rfl rfl Try.func60 (by kernel_rfl) rfl #[.int .i64 a0, .slice Ao8 y245.length co8] rfl mX ?_; (with_reducible refine (polymod_first.calls k a0 _ _ y245 t248 _ ?side1 ?side2 A3.out).mono ?_); (case side1 => exact cX (Kd.N_reads' HO247.out).2.2); (case side2 => exact (Kd.N_reads' HO247.out).2.1); rintro e w9 ⟨rfl, hb⟩; refine ⟨_, rfl, ?_⟩; have n0_ := ak (Kd.V_below (vX HO1.out) hb); have n1_ := ak (Kd.N_below (by (with_reducible repeat (first | apply Kd.N_alloc | apply Kd.N_drewN | apply Kd.N_drew)); exact HO247.out) hb); have n2_ := ak (below_step bX hb); clear HO1; clear HO247; clear HB; have HO1 := n0_; have HO247 := n1_; have HB := n2_; clear n0_ n1_ n2_; (try clear hb); (try clear hb2); (try clear hk); (try clear hi)) | ((with_reducible refine gate_callee (f := 61) rfl ?_); refine goesL_ (some 16) rfl rfl Try.func61 (by kernel_rfl) rfl #[.int .i64 a0, .slice A1 l1.length c1] rfl mX ?_; (with_reducible refine (fp_Irreducible.calls k a0 _ _ l1 t249 _ ?side1 ?side2 A5.out).mono ?_); (case side1 => exact cX (Kd.V_reads' HO1.out).2.2); (case side2 => exact (Kd.V_reads' HO1.out).2.1); rintro e w10 ⟨rfl, hb⟩; refine ⟨_, rfl, ?_⟩; have n0_ := ak (Kd.V_below (vX HO1.out) hb); have n1_ := ak (Kd.N_below (by (with_reducible repeat (first | apply Kd.N_alloc | apply Kd.N_drewN | apply Kd.N_drew)); exact HO247.out) hb); have n2_ := ak (below_step bX hb); clear HO1; clear HO247; clear HB; have HO1 := n0_; have HO247 := n1_; have HB := n2_; clear n0_ n1_ n2_; (try clear hb); (try clear hb2); (try clear hk); (try clear hi)))
   go_ret2
   exact ⟨by first | rfl | (simp [errW_none, errW_some] <;> rfl) | (simp [*, errW_none, errW_some] <;> rfl), by repeat (first | (with_reducible first | exact HB.out | apply bA | apply bB | apply bC) | exact HB.out)⟩
 · rw [if_neg c4] at H
   have c4b0 : (t248 == 0) = false := beq_eq_false_iff_ne.mpr c4
   have c4b1 : (t248 != 0) = true := bne_iff_ne.mpr c4
   simp only [Option.some.injEq, Prod.mk.injEq] at H
   obtain ⟨rfl, rfl⟩ := H
   go_enter Try.func14, Try.ntmps14
   go_wp2_with (first | ((with_reducible refine gate_dst (N := 9) rfl ?_); refine Kd.N_lit (Kd.slice 3 (Kd.int .i64)) _ 23 ?hg (N' := 9) ?hd (xs := ([l1] : List (List Int))) (inner := [.slice A1 l1.length c1]) (ok := (fun k_ => (P1_ k_ ∨ w.heap.size ≤ k_))) (okp := (fun k_ => (P1_ k_ ∨ w.heap.size ≤ k_))) ?hr ?hp (fun _ hk => hk) ((show ∀ k_, w.heap.size ≤ k_ → (fun k_ => (P1_ k_ ∨ w.heap.size ≤ k_)) k_ from fun k_ hk => (.inr (Nat.le_trans (below_size bX) hk))) _ (Nat.le_refl _)) (Below.refl _ _) (Nat.le_refl _) (by simp) ?_; (case hd => rfl); (case hg => rfl); (case hr => first | (go_simp; done) | (go_simp; rfl)); (case hp => exact (Reps.one (show Kd.FK (Kd.slice 3 (Kd.int .i64)) _ _ l1 [.slice A1 l1.length c1] from (Kd.FK_slice_mk (Kd.V_reads' (Kd.V_mono (ok' := (fun k_ => (P1_ k_ ∨ w.heap.size ≤ k_))) (HO1.out) (fun k_ hk => hk))).2.1 (Kd.V_F (Kd.V_mono (ok' := (fun k_ => (P1_ k_ ∨ w.heap.size ≤ k_))) (HO1.out) (fun k_ hk => hk))))) (Reps.none _ _))); intro v246 w11 ho12 hb hg_ hnew_; clear hg_ hnew_; (first | rw [← Ny245.out] at ho12 | (simp only [Int.reduceToNat] at ho12; rw [← Ny245.out] at ho12)); have n0_ := ak (Kd.V_elder' (vX HO1.out) (Kd.N_base ho12) hb); have n1_ := ak (Kd.N_lower ho12 (below_size bX)); have n2_ := ak (below_step bX hb); clear HO1; clear HB; have HO1 := n0_; have HO247 := n1_; have HB := n2_; clear n0_ n1_ n2_; clear hb ho12; obtain ⟨Ao13, co13, eo13⟩ := Kd.N_slice HO247.out; subst eo13) | ((with_reducible refine gate_callee (f := 60) rfl ?_); refine goesL_ (some 10) rfl rfl Try.func60 (by kernel_rfl) rfl #[.int .i64 a0, .slice Ao13 y245.length co13] rfl mX ?_; (with_reducible refine (polymod_first.calls k a0 _ _ y245 t248 _ ?side1 ?side2 A3.out).mono ?_); (case side1 => exact cX (Kd.N_reads' HO247.out).2.2); (case side2 => exact (Kd.N_reads' HO247.out).2.1); rintro e w14 ⟨rfl, hb⟩; refine ⟨_, rfl, ?_⟩; have n0_ := ak (Kd.V_below (vX HO1.out) hb); have n1_ := ak (Kd.N_below (by (with_reducible repeat (first | apply Kd.N_alloc | apply Kd.N_drewN | apply Kd.N_drew)); exact HO247.out) hb); have n2_ := ak (below_step bX hb); clear HO1; clear HO247; clear HB; have HO1 := n0_; have HO247 := n1_; have HB := n2_; clear n0_ n1_ n2_; (try clear hb); (try clear hb2); (try clear hk); (try clear hi)))
   go_ret2
   exact ⟨by first | rfl | (simp [errW_none, errW_some] <;> rfl) | (simp [*, errW_none, errW_some] <;> rfl), by repeat (first | (with_reducible first | exact HB.out | apply bA | apply bB | apply bC) | exact HB.out)⟩

/-! ### natural_Check: function 68 -/
def natural_Check.j0 : Nat → ByteArray → Bool → Option (Int)
 | 0, _, _ => none
 | k + 1, x0, x10 => if x10 = true then (some 1) else (if (x0.size : Int) > 1024 then (some 4) else (some 0))
def natural_Check.f (k : Nat) (a0 : ByteArray) : Option (Int) := if (a0.size : Int) > 0 then (if 0 < (a0.size : Int) then (natural_Check.j0 k a0 ((bt a0 0) == 0)) else (none)) else (natural_Check.j0 k a0 false)
theorem natural_Check.mono_l : ∀ k, (∀ y0 y1, LeO (natural_Check.j0 k y0 y1) (natural_Check.j0 (k + 1) y0 y1))
 | 0 => fun _ _ r h => by simp [natural_Check.j0] at h
 | k + 1 => by
   have ih0 := natural_Check.mono_l k
   · intro y0 y1
     unfold natural_Check.j0
     repeat' first
     | (with_reducible apply ih0)
     | (with_reducible apply LeO.refl)
     | (with_reducible apply LeO.none)
     | (with_reducible refine LeO.ite ?_ ?_)
     | (with_reducible refine LeO.bind ?_ (fun _ => ?_))
theorem natural_Check.mono : ∀ a0 k, LeO (natural_Check.f k a0) (natural_Check.f (k + 1) a0) := by
 intro a0 k
 have ih0 := natural_Check.mono_l k
 unfold natural_Check.f
 repeat' first
  | (with_reducible apply ih0)
  | (with_reducible apply LeO.refl)
  | (with_reducible apply LeO.none)
  | (with_reducible refine LeO.ite ?_ ?_)
  | (with_reducible refine LeO.bind ?_ (fun _ => ?_))
set_option maxHeartbeats 8000000 in
set_option maxRecDepth 100000 in
theorem natural_Check.calls (k : Nat) (a0 : ByteArray) (r : Int) (w : World) (h : natural_Check.f k a0 = some r) :
 Calls Try.prog 68 #[.string a0] w fun e w' => e = .returned (.int .i64 r) ∧ Drawn0 w w' := by
 have H : (if (a0.size : Int) > 0 then (if 0 < (a0.size : Int) then (natural_Check.j0 k a0 ((bt a0 0) == 0)) else (none)) else (natural_Check.j0 k a0 false)) = some r := h
 clear h
 have HC2 := ak H
 clear H
 go_enter Try.func68, Try.ntmps68
 go_upto_region 1 with (fail)
 go_cut [10] (fun v10 wc => ∃ (kq : Nat) (x10_1 : Bool), v10 = .bool x10_1 ∧ Aside0 (natural_Check.j0 kq a0 x10_1 = some r) ∧ Aside0 (kq ≤ k) ∧ Drawn0 w wc)
 case first =>
  have H := HC2.out
  clear HC2
  by_cases c3 : (a0.size : Int) > 0
  · rw [if_pos c3] at H
    have c3b0 : decide (0 < (a0.size : Int)) = true := decide_eq_true c3
    have c3b1 : decide (0 < a0.size) = true := decide_eq_true (by omega)
    clear c3
    (first | rw [c3b0] | (simp only [i64_w, i32_w]; rw [c3b0]) | skip)
    by_cases c4 : 0 < (a0.size : Int)
    · rw [if_pos c4] at H
      have c4b0 : decide (0 < (a0.size : Int)) = true := decide_eq_true c4
      have c4b1 : decide (0 < a0.size) = true := decide_eq_true (by omega)
      clear c4
      have H' := ak H
      clear H
      have p5 : 0 ≤ (0 : Int) := (by omega)
      have q5 : 0 < a0.size := (by have : (0 : Int) < (a0.size : Int) := of_decide_eq_true aX; omega)
      have hx5 : ∀ h : 0 < a0.size, ((a0[0]'h).toNat : Int) = bt a0 0 := bt_at a0 0
      clear p5
      have qi5 : (0 < (a0.size : Int)) = True := eq_true (of_decide_eq_true aX)
      replace q5 := eq_true q5
      go_wp2
      go_meet
      case rel => exact ⟨_, (((bt a0 0) == 0)), (by first | rfl | (simp; done) | (simp [*]; done)), H', ⟨by first | omega | exact Nat.le_refl _⟩, by repeat (first | exact Drawn0.refl _ | apply Drawn0.step)⟩
    · rw [if_neg c4] at H
      exact absurd H (by simp)
  · rw [if_neg c3] at H
    have c3b0 : decide (0 < (a0.size : Int)) = false := decide_eq_false c3
    have c3b1 : decide (0 < a0.size) = false := decide_eq_false (by omega)
    clear c3
    (first | rw [c3b0] | (simp only [i64_w, i32_w]; rw [c3b0]) | skip)
    have H' := ak H
    clear H
    go_wp2
    go_meet
    case rel => exact ⟨_, (false), (by first | rfl | (simp; done) | (simp [*]; done)), H', ⟨by first | omega | exact Nat.le_refl _⟩, by repeat (first | exact Drawn0.refl _ | apply Drawn0.step)⟩
 case rest =>
  clear HC2
  try clear p2
  try clear c3
  try clear c3b0
  try clear c3b1
  try clear c4
  try clear c4b0
  try clear c4b1
  try clear p5
  try clear q5
  try clear hx5
  try clear qi5
  try clear p5
  try clear q5
  obtain ⟨kq, x10_1, rfl, HA, HJ1, ⟨mc1, rfl⟩⟩ := hcut
  cases kq with
  | zero => exact absurd HA.out (by simp [natural_Check.j0])
  | succ kj1 =>
    have H := HA.out
    clear HA
    simp only [natural_Check.j0] at H
    by_cases c6 : x10_1 = true
    · subst c6
      have H1 : (some 1) = some r := by rw [if_pos rfl] at H; exact H
      clear H
      have H := H1
      clear H1
      obtain rfl := Option.some.inj H
      go_wp2
      go_ret
      exact ⟨by first | rfl | (simp; done) | (simp [*]; done), by repeat (first | exact Drawn0.refl _ | apply Drawn0.step)⟩
    · replace c6 := Bool.eq_false_iff.mpr c6
      subst c6
      have H1 : (if (a0.size : Int) > 1024 then (some 4) else (some 0)) = some r := by rw [if_neg (show ¬ (false = true) by decide)] at H; exact H
      clear H
      have H := H1
      clear H1
      by_cases c7 : (a0.size : Int) > 1024
      · rw [if_pos c7] at H
        have c7b0 : decide (1024 < (a0.size : Int)) = true := decide_eq_true c7
        have c7b1 : decide (1024 < a0.size) = true := decide_eq_true (by omega)
        clear c7
        obtain rfl := Option.some.inj H
        go_wp2
        go_ret
        exact ⟨by first | rfl | (simp; done) | (simp [*]; done), by repeat (first | exact Drawn0.refl _ | apply Drawn0.step)⟩
      · rw [if_neg c7] at H
        have c7b0 : decide (1024 < (a0.size : Int)) = false := decide_eq_false c7
        have c7b1 : decide (1024 < a0.size) = false := decide_eq_false (by omega)
        clear c7
        obtain rfl := Option.some.inj H
        go_wp2
        go_ret
        exact ⟨by first | rfl | (simp; done) | (simp [*]; done), by repeat (first | exact Drawn0.refl _ | apply Drawn0.step)⟩

end Go.Proofs.Ytmknclgamadphaa.PPolymodDivisions
