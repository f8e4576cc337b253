-- WRITTEN BY sprint.py (a program of this repo, over the kit's print.py): nothing here is trusted, Lean checks it.
import Derived.Test.YtmknclgamadphaaPPolymodPrimesx0
import Derived.Test.YtmknclgamadphaaPPolymodPrimesx1
import Derived.Test.YtmknclgamadphaaPPolymodPrimesx3
import Derived.Test.YtmknclgamadphaaPPolymodPrimesx5
namespace Go.Proofs.Ytmknclgamadphaa.PPolymodPrimes
open Go.RowKit Go.Proofs.YtmknclgamadphaaW.PrintWords Go.Proofs.YtmknclgamadphaaW.PrintLast Go.Proofs.YtmknclgamadphaaW.PrintMore
attribute [local go_sem] max2_int min2_int max_two min_two max_three min_three max_four min_four   -- for this text's walks alone
set_option linter.unusedVariables false
set_option linter.unusedSimpArgs false

/-! ### polymod_Gcd: function 31 -/
def polymod_Gcd.f (k : Nat) (a0 : Int) (l1 : List Int) (l2 : List Int) : Option (List Int × Int) := (polymod_first.f k a0 (([l1, l2] : List (List Int)))).bind fun t274 => (if t274 = 0 then ((fp_Gcd.f k a0 l1 l2).bind fun t275 => (some (t275, 0))) else (some (([] : List Int), t274)))
theorem polymod_Gcd.mono : ∀ a0 a1 a2 k, LeO (polymod_Gcd.f k a0 a1 a2) (polymod_Gcd.f (k + 1) a0 a1 a2) := by
 intro a0 a1 a2 k
 unfold polymod_Gcd.f
 repeat' first
  | (with_reducible apply fp_Gcd.mono)
  | (with_reducible apply polymod_first.mono)
  | (with_reducible apply LeO.refl)
  | (with_reducible apply LeO.none)
  | (with_reducible refine LeO.ite ?_ ?_)
  | (with_reducible refine LeO.bind ?_ (fun _ => ?_))
set_option maxHeartbeats 8000000 in
set_option maxRecDepth 100000 in
theorem polymod_Gcd.calls (k : Nat) (a0 : Int) (P1_ : Nat → Prop) (A1 : Option Addr) (c1 : Nat) (l1 : List Int) (P2_ : Nat → Prop) (A2 : Option Addr) (c2 : Nat) (l2 : List Int) (r1 : List Int) (r2 : Int) (w : World) (hs1 : Kd.V (Kd.int .i64) 3 w w.heap.size (fun k_ => P1_ k_) (.slice A1 l1.length c1) l1) (hs2 : Kd.V (Kd.int .i64) 3 w w.heap.size (fun k_ => P2_ k_) (.slice A2 l2.length c2) l2) (h : polymod_Gcd.f k a0 l1 l2 = some (r1, r2)) :
 Calls Try.prog 31 #[.int .i64 a0, .slice A1 l1.length c1, .slice A2 l2.length c2] w fun e w' => ∃ v0_ : Value, e = .returned (.tuple #[v0_, .int .i64 r2]) ∧ Kd.V (Kd.int .i64) 3 w' w.heap.size (fun k_ => ((P1_ k_ ∨ P2_ k_) ∨ w.heap.size ≤ k_)) v0_ r1 ∧ Below w.heap.size w w' := by
 have HO1 := ak (show Kd.V (Kd.int .i64) 3 w w.heap.size (fun k_ => ((P1_ k_ ∨ P2_ k_) ∨ w.heap.size ≤ k_)) (.slice A1 l1.length c1) l1 from Kd.V_mono hs1 (fun k_ hk => .inl (.inl hk)))
 have HO2 := ak (show Kd.V (Kd.int .i64) 3 w w.heap.size (fun k_ => ((P1_ k_ ∨ P2_ k_) ∨ w.heap.size ≤ k_)) (.slice A2 l2.length c2) l2 from Kd.V_mono hs2 (fun k_ hk => .inl (.inr hk)))
 have HB := ak (Below.refl w.heap.size w)
 have H : ((polymod_first.f k a0 (([l1, l2] : List (List Int)))).bind fun t274 => (if t274 = 0 then ((fp_Gcd.f k a0 l1 l2).bind fun t275 => (some (t275, 0))) else (some (([] : List Int), t274)))) = some (r1, r2) := h
 clear h
 obtain ⟨y271, hy271⟩ : ∃ y_ : List (List Int), y_ = (([l1, l2] : List (List Int))) := ⟨_, rfl⟩
 replace H : ((polymod_first.f k a0 y271).bind fun t274 => (if t274 = 0 then ((fp_Gcd.f k a0 l1 l2).bind fun t275 => (some (t275, 0))) else (some (([] : List Int), t274)))) = some (r1, r2) := by first | (rw [hy271]; with_reducible exact H) | (have H2_ := (Option.bind_some _ _).symm.trans H; rw [hy271]; with_reducible exact H2_) | (have H2_ := (Option.bind_some _ _).symm.trans H; with_reducible exact H2_) | with_reducible exact H | (rw [hy271]; exact H) | exact H
 have Ny271 := ak hy271
 clear hy271
 replace H := Option.bind_eq_some_iff.mp H
 obtain ⟨t274, A40, H⟩ := H
 replace H : (if t274 = 0 then ((fp_Gcd.f k a0 l1 l2).bind fun t275 => (some (t275, 0))) else (some (([] : List Int), t274))) = some (r1, r2) := H
 have A4 := ak A40
 clear A40
 by_cases c5 : t274 = 0
 · rw [if_pos c5] at H
   have c5b0 : (t274 == 0) = true := beq_iff_eq.mpr c5
   have c5b1 : (t274 != 0) = false := bne_eq_false_iff_eq.mpr c5
   clear c5
   replace H := Option.bind_eq_some_iff.mp H
   obtain ⟨t275, A60, H⟩ := H
   replace H : (some (t275, 0)) = some (r1, r2) := H
   have A6 := ak A60
   clear A60
   as_aux_lemma =>
    simp only [Option.some.injEq, Prod.mk.injEq] at H
    obtain ⟨rfl, rfl⟩ := H
    go_enter Try.func31, Try.ntmps31
    go_wp2_with (first | ((with_reducible refine gate_dst (N := 12) rfl ?_); refine Kd.N_lit (Kd.slice 3 (Kd.int .i64)) _ 23 ?hg (N' := 12) ?hd (xs := ([l1, l2] : List (List Int))) (inner := [.slice A1 l1.length c1, .slice A2 l2.length c2]) (ok := (fun k_ => ((P1_ k_ ∨ P2_ k_) ∨ w.heap.size ≤ k_))) (okp := (fun k_ => ((P1_ k_ ∨ P2_ k_) ∨ w.heap.size ≤ k_))) ?hr ?hp (fun _ hk => hk) ((show ∀ k_, w.heap.size ≤ k_ → (fun k_ => ((P1_ k_ ∨ P2_ k_) ∨ w.heap.size ≤ k_)) k_ from fun k_ hk => (.inr (Nat.le_trans (below_size bX) hk))) _ (Nat.le_refl _)) (Below.refl _ _) (Nat.le_refl _) (by simp) ?_; (case hd => rfl); (case hg => rfl); (case hr => first | (go_simp; done) | (go_simp; rfl)); (case hp => exact (Reps.one (show Kd.FK (Kd.slice 3 (Kd.int .i64)) _ _ l1 [.slice A1 l1.length c1] from (Kd.FK_slice_mk (Kd.V_reads' (Kd.V_mono (ok' := (fun k_ => ((P1_ k_ ∨ P2_ k_) ∨ w.heap.size ≤ k_))) (HO1.out) (fun k_ hk => hk))).2.1 (Kd.V_F (Kd.V_mono (ok' := (fun k_ => ((P1_ k_ ∨ P2_ k_) ∨ w.heap.size ≤ k_))) (HO1.out) (fun k_ hk => hk))))) (Reps.one (show Kd.FK (Kd.slice 3 (Kd.int .i64)) _ _ l2 [.slice A2 l2.length c2] from (Kd.FK_slice_mk (Kd.V_reads' (Kd.V_mono (ok' := (fun k_ => ((P1_ k_ ∨ P2_ k_) ∨ w.heap.size ≤ k_))) (HO2.out) (fun k_ hk => hk))).2.1 (Kd.V_F (Kd.V_mono (ok' := (fun k_ => ((P1_ k_ ∨ P2_ k_) ∨ w.heap.size ≤ k_))) (HO2.out) (fun k_ hk => hk))))) (Reps.none _ _)))); intro v272 w7 ho8 hb hg_ hnew_; clear hg_ hnew_; (first | rw [← Ny271.out] at ho8 | (simp only [Int.reduceToNat] at ho8; rw [← Ny271.out] at ho8)); have n0_ := ak (Kd.V_elder' (vX HO1.out) (Kd.N_base ho8) hb); have n1_ := ak (Kd.V_elder' (vX HO2.out) (Kd.N_base ho8) hb); have n2_ := ak (Kd.N_lower ho8 (below_size bX)); have n3_ := ak (below_step bX hb); clear HO1; clear HO2; clear HB; have HO1 := n0_; have HO2 := n1_; have HO273 := n2_; have HB := n3_; clear n0_ n1_ n2_ n3_; clear hb ho8; obtain ⟨Ao9, co9, eo9⟩ := Kd.N_slice HO273.out; subst eo9) | ((with_reducible refine gate_callee (f := 60) rfl ?_); refine goesL_ (some 13) rfl rfl Try.func60 (by kernel_rfl) rfl #[.int .i64 a0, .slice Ao9 y271.length co9] rfl mX ?_; (with_reducible refine (polymod_first.calls k a0 _ _ y271 t274 _ ?side1 ?side2 A4.out).mono ?_); (case side1 => exact cX (Kd.N_reads' HO273.out).2.2); (case side2 => exact (Kd.N_reads' HO273.out).2.1); rintro e w10 ⟨rfl, hb⟩; refine ⟨_, rfl, ?_⟩; have n0_ := ak (Kd.V_below (vX HO1.out) hb); have n1_ := ak (Kd.V_below (vX HO2.out) hb); have n2_ := ak (Kd.N_below (by (with_reducible repeat (first | apply Kd.N_alloc | apply Kd.N_drewN | apply Kd.N_drew)); exact HO273.out) hb); have n3_ := ak (below_step bX hb); clear HO1; clear HO2; clear HO273; clear HB; have HO1 := n0_; have HO2 := n1_; have HO273 := n2_; have HB := n3_; clear n0_ n1_ n2_ n3_; (try clear hb); (try clear hb2); (try clear hk); (try clear hi)) | ((with_reducible refine gate_callee (f := 81) rfl ?_); refine goesL_ (some 20) rfl rfl Try.func81 (by kernel_rfl) rfl #[.int .i64 a0, .slice A1 l1.length c1, .slice A2 l2.length c2] rfl mX ?_; (with_reducible refine (fp_Gcd.calls k a0 (fun k_ => (((P1_ k_ ∨ P2_ k_) ∨ w.heap.size ≤ k_) ∧ some k_ ≠ (.slice Ao9 y271.length co9 : Value).ownBlock)) _ _ l1 (fun k_ => (((P1_ k_ ∨ P2_ k_) ∨ w.heap.size ≤ k_) ∧ some k_ ≠ (.slice Ao9 y271.length co9 : Value).ownBlock)) _ _ l2 t275 _ ?side1 ?side2 A6.out).mono ?_); (case side1 => exact HO1.out); (case side2 => exact HO2.out); rintro e w11 ⟨v276, rfl, ho0, hb⟩; refine ⟨_, rfl, ?_⟩; have n0_ := ak (Kd.V_below (vX HO1.out) hb); have n1_ := ak (Kd.V_below (vX HO2.out) hb); have n2_ := ak (Kd.N_below (by (with_reducible repeat (first | apply Kd.N_alloc | apply Kd.N_drewN | apply Kd.N_drew)); exact HO273.out) hb); have n3_ := ak (Kd.V_lower (Kd.V_mono (ok' := fun k_ => ((P1_ k_ ∨ P2_ k_) ∨ w.heap.size ≤ k_) ∧ some k_ ≠ (.slice Ao9 y271.length co9 : Value).ownBlock) ho0 (fun k_ hk_ => ⟨Or.elim hk_ (fun hs_ => Or.elim hs_ (fun hs_ => hs_.1) (fun hs_ => hs_.1)) (fun hn_ => (.inr (Nat.le_trans (below_size bX) hn_))), Or.elim hk_ (fun hs_ => Or.elim hs_ (fun hs_ => hs_.2) (fun hs_ => hs_.2)) (fun hn_ => (Kd.fresh' (Kd.N_lt (by (with_reducible repeat (first | apply Kd.N_alloc | apply Kd.N_drewN | apply Kd.N_drew)); exact HO273.out)) k_ hn_))⟩)) (below_size bX)); have n4_ := ak (below_step bX hb); clear HO1; clear HO2; clear HO273; clear HB; have HO1 := n0_; have HO2 := n1_; have HO273 := n2_; have HO277 := n3_; have HB := n4_; clear n0_ n1_ n2_ n3_ n4_; (try clear hb); (try clear hb2); (try clear hk); (try clear hi); (try clear ho0)))
    go_ret2
    exact ⟨_, by first | rfl | (simp [errW_none, errW_some] <;> rfl) | (simp [*, errW_none, errW_some] <;> rfl), by (with_reducible repeat (first | apply vA | apply vB | apply vC)); exact Kd.V_mono HO277.out (fun _ hk => hk.1), by repeat (first | (with_reducible first | exact HB.out | apply bA | apply bB | apply bC) | exact HB.out)⟩
 · rw [if_neg c5] at H
   have c5b0 : (t274 == 0) = false := beq_eq_false_iff_ne.mpr c5
   have c5b1 : (t274 != 0) = true := bne_iff_ne.mpr c5
   as_aux_lemma =>
    simp only [Option.some.injEq, Prod.mk.injEq] at H
    obtain ⟨rfl, rfl⟩ := H
    go_enter Try.func31, Try.ntmps31
    go_wp2_with (first | ((with_reducible refine gate_dst (N := 12) rfl ?_); refine Kd.N_lit (Kd.slice 3 (Kd.int .i64)) _ 23 ?hg (N' := 12) ?hd (xs := ([l1, l2] : List (List Int))) (inner := [.slice A1 l1.length c1, .slice A2 l2.length c2]) (ok := (fun k_ => ((P1_ k_ ∨ P2_ k_) ∨ w.heap.size ≤ k_))) (okp := (fun k_ => ((P1_ k_ ∨ P2_ k_) ∨ w.heap.size ≤ k_))) ?hr ?hp (fun _ hk => hk) ((show ∀ k_, w.heap.size ≤ k_ → (fun k_ => ((P1_ k_ ∨ P2_ k_) ∨ w.heap.size ≤ k_)) k_ from fun k_ hk => (.inr (Nat.le_trans (below_size bX) hk))) _ (Nat.le_refl _)) (Below.refl _ _) (Nat.le_refl _) (by simp) ?_; (case hd => rfl); (case hg => rfl); (case hr => first | (go_simp; done) | (go_simp; rfl)); (case hp => exact (Reps.one (show Kd.FK (Kd.slice 3 (Kd.int .i64)) _ _ l1 [.slice A1 l1.length c1] from (Kd.FK_slice_mk (Kd.V_reads' (Kd.V_mono (ok' := (fun k_ => ((P1_ k_ ∨ P2_ k_) ∨ w.heap.size ≤ k_))) (HO1.out) (fun k_ hk => hk))).2.1 (Kd.V_F (Kd.V_mono (ok' := (fun k_ => ((P1_ k_ ∨ P2_ k_) ∨ w.heap.size ≤ k_))) (HO1.out) (fun k_ hk => hk))))) (Reps.one (show Kd.FK (Kd.slice 3 (Kd.int .i64)) _ _ l2 [.slice A2 l2.length c2] from (Kd.FK_slice_mk (Kd.V_reads' (Kd.V_mono (ok' := (fun k_ => ((P1_ k_ ∨ P2_ k_) ∨ w.heap.size ≤ k_))) (HO2.out) (fun k_ hk => hk))).2.1 (Kd.V_F (Kd.V_mono (ok' := (fun k_ => ((P1_ k_ ∨ P2_ k_) ∨ w.heap.size ≤ k_))) (HO2.out) (fun k_ hk => hk))))) (Reps.none _ _)))); intro v272 w12 ho13 hb hg_ hnew_; clear hg_ hnew_; (first | rw [← Ny271.out] at ho13 | (simp only [Int.reduceToNat] at ho13; rw [← Ny271.out] at ho13)); have n0_ := ak (Kd.V_elder' (vX HO1.out) (Kd.N_base ho13) hb); have n1_ := ak (Kd.V_elder' (vX HO2.out) (Kd.N_base ho13) hb); have n2_ := ak (Kd.N_lower ho13 (below_size bX)); have n3_ := ak (below_step bX hb); clear HO1; clear HO2; clear HB; have HO1 := n0_; have HO2 := n1_; have HO273 := n2_; have HB := n3_; clear n0_ n1_ n2_ n3_; clear hb ho13; obtain ⟨Ao14, co14, eo14⟩ := Kd.N_slice HO273.out; subst eo14) | ((with_reducible refine gate_callee (f := 60) rfl ?_); refine goesL_ (some 13) rfl rfl Try.func60 (by kernel_rfl) rfl #[.int .i64 a0, .slice Ao14 y271.length co14] rfl mX ?_; (with_reducible refine (polymod_first.calls k a0 _ _ y271 t274 _ ?side1 ?side2 A4.out).mono ?_); (case side1 => exact cX (Kd.N_reads' HO273.out).2.2); (case side2 => exact (Kd.N_reads' HO273.out).2.1); rintro e w15 ⟨rfl, hb⟩; refine ⟨_, rfl, ?_⟩; have n0_ := ak (Kd.V_below (vX HO1.out) hb); have n1_ := ak (Kd.V_below (vX HO2.out) hb); have n2_ := ak (Kd.N_below (by (with_reducible repeat (first | apply Kd.N_alloc | apply Kd.N_drewN | apply Kd.N_drew)); exact HO273.out) hb); have n3_ := ak (below_step bX hb); clear HO1; clear HO2; clear HO273; clear HB; have HO1 := n0_; have HO2 := n1_; have HO273 := n2_; have HB := n3_; clear n0_ n1_ n2_ n3_; (try clear hb); (try clear hb2); (try clear hk); (try clear hi)))
    go_ret2
    exact ⟨_, by first | rfl | (simp [errW_none, errW_some] <;> rfl) | (simp [*, errW_none, errW_some] <;> rfl), (Kd.V_nil _ _ _ _ _), by repeat (first | (with_reducible first | exact HB.out | apply bA | apply bB | apply bC) | exact HB.out)⟩

/-! ### galoisref09_Same: function 37 -/
def galoisref09_Same.l0 : Nat → List Int → List Int → Int → Option (Bool)
 | 0, _, _, _ => none
 | k + 1, x0, x1, x5 => if x5 < (x0.length : Int) then (if 0 ≤ x5 then (if x5 < (x1.length : Int) then (if (rd x0 x5) = (rd x1 x5) then (galoisref09_Same.l0 k x0 x1 (wrap64 (x5 + 1))) else (some false)) else (none)) else (none)) else (some true)
def galoisref09_Same.f (k : Nat) (l0 : List Int) (l1 : List Int) : Option (Bool) := if (l0.length : Int) = (l1.length : Int) then (galoisref09_Same.l0 k l0 l1 0) else (some false)
theorem galoisref09_Same.mono_l : ∀ k, (∀ y0 y1 y2, LeO (galoisref09_Same.l0 k y0 y1 y2) (galoisref09_Same.l0 (k + 1) y0 y1 y2))
 | 0 => fun _ _ _ r h => by simp [galoisref09_Same.l0] at h
 | k + 1 => by
   have ih0 := galoisref09_Same.mono_l k
   · intro y0 y1 y2
     unfold galoisref09_Same.l0
     repeat' first
     | (with_reducible apply ih0)
     | (with_reducible apply LeO.refl)
     | (with_reducible apply LeO.none)
     | (with_reducible refine LeO.ite ?_ ?_)
     | (with_reducible refine LeO.bind ?_ (fun _ => ?_))
theorem galoisref09_Same.mono : ∀ a0 a1 k, LeO (galoisref09_Same.f k a0 a1) (galoisref09_Same.f (k + 1) a0 a1) := by
 intro a0 a1 k
 have ih0 := galoisref09_Same.mono_l k
 unfold galoisref09_Same.f
 repeat' first
  | (with_reducible apply ih0)
  | (with_reducible apply LeO.refl)
  | (with_reducible apply LeO.none)
  | (with_reducible refine LeO.ite ?_ ?_)
  | (with_reducible refine LeO.bind ?_ (fun _ => ?_))
set_option maxHeartbeats 8000000 in
set_option maxRecDepth 100000 in
theorem galoisref09_Same.calls (k : Nat) (A0 : Option Addr) (c0 : Nat) (l0 : List Int) (A1 : Option Addr) (c1 : Nat) (l1 : List Int) (r : Bool) (w : World) (hr0 : Kd.C (Kd.int .i64) w A0 l0.length l0) (hc0 : l0.length ≤ c0) (hr1 : Kd.C (Kd.int .i64) w A1 l1.length l1) (hc1 : l1.length ≤ c1) (h : galoisref09_Same.f k l0 l1 = some r) :
 Calls Try.prog 37 #[.slice A0 l0.length c0, .slice A1 l1.length c1] w fun e w' => e = .returned (.bool r) ∧ Drawn0 w w' := by
 have HR0 := ak hr0
 have HC0 := ak hc0
 clear hr0 hc0
 have HR1 := ak hr1
 have HC1 := ak hc1
 clear hr1 hc1
 have H : (if (l0.length : Int) = (l1.length : Int) then (galoisref09_Same.l0 k l0 l1 0) else (some false)) = some r := h
 clear h
 by_cases c3 : (l0.length : Int) = (l1.length : Int)
 · rw [if_pos c3] at H
   have c3b0 : ((l0.length : Int) == (l1.length : Int)) = true := beq_iff_eq.mpr c3
   have c3b1 : ((l0.length : Int) != (l1.length : Int)) = false := bne_eq_false_iff_eq.mpr c3
   have c3b2 : (l0.length == l1.length) = true := by first | simpa using c3 | (simp at c3 ⊢; omega)
   clear c3
   have H' := ak H
   clear H
   go_enter Try.func37, Try.ntmps37
   go_wp2
   repeat (go_quiet (fail); try go_wp2)
   go_loopg [5] k (fun kq v5 w' => ∃ (x5_1 : Int), v5 = .int .i64 x5_1 ∧ Aside0 (galoisref09_Same.l0 kq l0 l1 x5_1 = some r) ∧ Aside0 (kq ≤ k) ∧ Drawn0 w w')
   case atStart => exact ⟨(0), (by first | rfl | (simp; done) | (simp [*]; done)), H', ⟨Nat.le_refl _⟩, by repeat (first | exact Drawn0.refl _ | apply Drawn0.step)⟩
   case round =>
    clear H'
    try clear c1
    try clear p2
    try clear c3
    try clear c3b0
    try clear c3b1
    try clear c3b2
    obtain ⟨x5_1, rfl, HA, HK1, ⟨m1, rfl⟩⟩ := hrel
    cases gk with
    | zero => exact absurd HA.out (by simp [galoisref09_Same.l0])
    | succ k1 =>
      have H := HA.out
      clear HA
      simp only [galoisref09_Same.l0] at H
      by_cases c4 : x5_1 < (l0.length : Int)
      · rw [if_pos c4] at H
        have c4b0 : decide (x5_1 < (l0.length : Int)) = true := decide_eq_true c4
        clear c4
        by_cases c5 : 0 ≤ x5_1
        · rw [if_pos c5] at H
          have c5b0 : decide (0 ≤ x5_1) = true := decide_eq_true c5
          clear c5
          by_cases c6 : x5_1 < (l1.length : Int)
          · rw [if_pos c6] at H
            have c6b0 : decide (x5_1 < (l1.length : Int)) = true := decide_eq_true c6
            clear c6
            by_cases c7 : (rd l0 x5_1) = (rd l1 x5_1)
            · rw [if_pos c7] at H
              have c7b0 : ((rd l0 x5_1) == (rd l1 x5_1)) = true := beq_iff_eq.mpr c7
              have c7b1 : ((rd l0 x5_1) != (rd l1 x5_1)) = false := bne_eq_false_iff_eq.mpr c7
              clear c7
              as_aux_lemma =>
               have H' := ak H
               clear H
               have p278 : 0 ≤ (x5_1 : Int) := of_decide_eq_true aX
               have q278 : x5_1 < (l0.length : Int) := of_decide_eq_true aX
               obtain ⟨ad278, e278, hx278_0⟩ := Kd.at_int HR0.out x5_1 p278 q278
               cases e278
               replace p278 := eq_true p278
               replace q278 := eq_true q278
               have p279 : 0 ≤ (x5_1 : Int) := of_decide_eq_true aX
               have q279 : x5_1 < (l1.length : Int) := of_decide_eq_true aX
               obtain ⟨ad279, e279, hx279_0⟩ := Kd.at_int HR1.out x5_1 p279 q279
               cases e279
               replace p279 := eq_true p279
               replace q279 := eq_true q279
               go_wp2
               repeat (go_quiet (fail); try go_wp2)
               (first | go_roundg k1 | (refine Handed.intro k1 ?measure ?_; rotate_left; go_step; (repeat rw [add_plain]); (repeat apply Exists.intro); refine ⟨?rel, rfl⟩))
               case measure => have := HK1.out; omega
               case rel => exact ⟨(wrap64 (x5_1 + 1)), (by first | rfl | (simp; done) | (simp [*]; done)), H', ⟨by have := HK1.out; omega⟩, by repeat (first | exact Drawn0.refl _ | apply Drawn0.step)⟩
            · rw [if_neg c7] at H
              have c7b0 : ((rd l0 x5_1) == (rd l1 x5_1)) = false := beq_eq_false_iff_ne.mpr c7
              have c7b1 : ((rd l0 x5_1) != (rd l1 x5_1)) = true := bne_iff_ne.mpr c7
              as_aux_lemma =>
               obtain rfl := Option.some.inj H
               have p278 : 0 ≤ (x5_1 : Int) := of_decide_eq_true aX
               have q278 : x5_1 < (l0.length : Int) := of_decide_eq_true aX
               obtain ⟨ad278, e278, hx278_0⟩ := Kd.at_int HR0.out x5_1 p278 q278
               cases e278
               replace p278 := eq_true p278
               replace q278 := eq_true q278
               have p279 : 0 ≤ (x5_1 : Int) := of_decide_eq_true aX
               have q279 : x5_1 < (l1.length : Int) := of_decide_eq_true aX
               obtain ⟨ad279, e279, hx279_0⟩ := Kd.at_int HR1.out x5_1 p279 q279
               cases e279
               replace p279 := eq_true p279
               replace q279 := eq_true q279
               go_wp2
               repeat (go_quiet (fail); try go_wp2)
               go_ret
               exact ⟨by first | rfl | (simp; done) | (simp [*]; done), by repeat (first | exact Drawn0.refl _ | apply Drawn0.step)⟩
          · rw [if_neg c6] at H
            exact absurd H (by simp)
        · rw [if_neg c5] at H
          exact absurd H (by simp)
      · rw [if_neg c4] at H
        have c4b0 : decide (x5_1 < (l0.length : Int)) = false := decide_eq_false c4
        clear c4
        as_aux_lemma =>
         obtain rfl := Option.some.inj H
         go_wp2
         repeat (go_quiet (fail); try go_wp2)
         go_ret
         exact ⟨by first | rfl | (simp; done) | (simp [*]; done), by repeat (first | exact Drawn0.refl _ | apply Drawn0.step)⟩
 · rw [if_neg c3] at H
   have c3b0 : ((l0.length : Int) == (l1.length : Int)) = false := beq_eq_false_iff_ne.mpr c3
   have c3b1 : ((l0.length : Int) != (l1.length : Int)) = true := bne_iff_ne.mpr c3
   have c3b2 : (l0.length == l1.length) = false := by first | simpa using c3 | (simp at c3 ⊢; omega)
   as_aux_lemma =>
    obtain rfl := Option.some.inj H
    go_enter Try.func37, Try.ntmps37
    go_wp2
    repeat (go_quiet (fail); try go_wp2)
    go_ret
    exact ⟨by first | rfl | (simp; done) | (simp [*]; done), by repeat (first | exact Drawn0.refl _ | apply Drawn0.step)⟩

/-! ### galoislaw09_awake: function 13 -/
def galoislaw09_awake.j0 : Nat → List Int → List Int → List Int → List Int → Bool → Option (Bool)
 | 0, _, _, _, _, _ => none
 | k + 1, x1, x2, x4, x10, x65 => if x65 = true then (some false) else ((galoisref09_Same.f k x1 (([4, 1] : List Int))).bind fun t326 => (if t326 = true then ((galoisref09_Same.f k x2 (([3] : List Int))).bind fun t330 => (if t330 = true then ((galoisref09_Same.f k x4 (([1, 1] : List Int))).bind fun t334 => (if t334 = true then ((galoisref09_Same.f k x10 (([1] : List Int))).bind fun t338 => (some t338)) else (some false))) else (some false))) else (some false)))
def galoislaw09_awake.f (k : Nat)  : Option (Bool) := (polymod_DivMod.f k 7 (([1, 0, 1] : List Int)) (([3, 1] : List Int))).bind fun bt286 => ((polymod_Gcd.f k 5 (([4, 0, 1] : List Int)) (([2, 3, 1] : List Int))).bind fun bt299 => ((polymod_IsIrreducible.f k 3 (([1, 0, 1] : List Int))).bind fun bt306 => ((polymod_IsIrreducible.f k 5 (([1, 0, 1] : List Int))).bind fun bt311 => ((polymod_PowMod.f k 2 (([0, 0, 0, 1] : List Int)) (⟨#[5]⟩ : ByteArray) (([1, 1, 1] : List Int))).bind fun bt319 => (if bt286.2.2 = 0 then (if bt299.2 = 0 then (if bt306.2 = 0 then (if bt311.2 = 0 then (if bt319.2 = 0 then (if bt306.1 = true then (galoislaw09_awake.j0 k bt286.1 bt286.2.1 bt299.1 bt319.1 bt311.1) else (galoislaw09_awake.j0 k bt286.1 bt286.2.1 bt299.1 bt319.1 true)) else (galoislaw09_awake.j0 k bt286.1 bt286.2.1 bt299.1 bt319.1 true)) else (galoislaw09_awake.j0 k bt286.1 bt286.2.1 bt299.1 bt319.1 true)) else (galoislaw09_awake.j0 k bt286.1 bt286.2.1 bt299.1 bt319.1 true)) else (galoislaw09_awake.j0 k bt286.1 bt286.2.1 bt299.1 bt319.1 true)) else (galoislaw09_awake.j0 k bt286.1 bt286.2.1 bt299.1 bt319.1 true))))))
theorem galoislaw09_awake.mono_l : ∀ k, (∀ y0 y1 y2 y3 y4, LeO (galoislaw09_awake.j0 k y0 y1 y2 y3 y4) (galoislaw09_awake.j0 (k + 1) y0 y1 y2 y3 y4))
 | 0 => fun _ _ _ _ _ r h => by simp [galoislaw09_awake.j0] at h
 | k + 1 => by
   have ih0 := galoislaw09_awake.mono_l k
   · intro y0 y1 y2 y3 y4
     unfold galoislaw09_awake.j0
     repeat' first
     | (with_reducible apply ih0)
     | (with_reducible apply galoisref09_Same.mono)
     | (with_reducible apply polymod_DivMod.mono)
     | (with_reducible apply polymod_Gcd.mono)
     | (with_reducible apply polymod_IsIrreducible.mono)
     | (with_reducible apply polymod_PowMod.mono)
     | (with_reducible apply LeO.refl)
     | (with_reducible apply LeO.none)
     | (with_reducible refine LeO.ite ?_ ?_)
     | (with_reducible refine LeO.bind ?_ (fun _ => ?_))
theorem galoislaw09_awake.mono : ∀ k, LeO (galoislaw09_awake.f k ) (galoislaw09_awake.f (k + 1) ) := by
 intro  k
 have ih0 := galoislaw09_awake.mono_l k
 unfold galoislaw09_awake.f
 repeat' first
  | (with_reducible apply ih0)
  | (with_reducible apply galoisref09_Same.mono)
  | (with_reducible apply polymod_DivMod.mono)
  | (with_reducible apply polymod_Gcd.mono)
  | (with_reducible apply polymod_IsIrreducible.mono)
  | (with_reducible apply polymod_PowMod.mono)
  | (with_reducible apply LeO.refl)
  | (with_reducible apply LeO.none)
  | (with_reducible refine LeO.ite ?_ ?_)
  | (with_reducible refine LeO.bind ?_ (fun _ => ?_))
set_option maxHeartbeats 8000000 in
set_option maxRecDepth 100000 in
theorem galoislaw09_awake.calls (k : Nat)  (r : Bool) (w : World) (h : galoislaw09_awake.f k  = some r) :
 Calls Try.prog 13 #[] w fun e w' => e = .returned (.bool r) ∧ Below w.heap.size w w' := by
 have HB := ak (Below.refl w.heap.size w)
 have H : ((polymod_DivMod.f k 7 (([1, 0, 1] : List Int)) (([3, 1] : List Int))).bind fun bt286 => ((polymod_Gcd.f k 5 (([4, 0, 1] : List Int)) (([2, 3, 1] : List Int))).bind fun bt299 => ((polymod_IsIrreducible.f k 3 (([1, 0, 1] : List Int))).bind fun bt306 => ((polymod_IsIrreducible.f k 5 (([1, 0, 1] : List Int))).bind fun bt311 => ((polymod_PowMod.f k 2 (([0, 0, 0, 1] : List Int)) (⟨#[5]⟩ : ByteArray) (([1, 1, 1] : List Int))).bind fun bt319 => (if bt286.2.2 = 0 then (if bt299.2 = 0 then (if bt306.2 = 0 then (if bt311.2 = 0 then (if bt319.2 = 0 then (if bt306.1 = true then (galoislaw09_awake.j0 k bt286.1 bt286.2.1 bt299.1 bt319.1 bt311.1) else (galoislaw09_awake.j0 k bt286.1 bt286.2.1 bt299.1 bt319.1 true)) else (galoislaw09_awake.j0 k bt286.1 bt286.2.1 bt299.1 bt319.1 true)) else (galoislaw09_awake.j0 k bt286.1 bt286.2.1 bt299.1 bt319.1 true)) else (galoislaw09_awake.j0 k bt286.1 bt286.2.1 bt299.1 bt319.1 true)) else (galoislaw09_awake.j0 k bt286.1 bt286.2.1 bt299.1 bt319.1 true)) else (galoislaw09_awake.j0 k bt286.1 bt286.2.1 bt299.1 bt319.1 true))))))) = some r := h
 clear h
 obtain ⟨y280, hy280⟩ : ∃ y_ : List Int, y_ = (([1, 0, 1] : List Int)) := ⟨_, rfl⟩
 replace H : ((polymod_DivMod.f k 7 y280 (([3, 1] : List Int))).bind fun bt286 => ((polymod_Gcd.f k 5 (([4, 0, 1] : List Int)) (([2, 3, 1] : List Int))).bind fun bt299 => ((polymod_IsIrreducible.f k 3 (([1, 0, 1] : List Int))).bind fun bt306 => ((polymod_IsIrreducible.f k 5 (([1, 0, 1] : List Int))).bind fun bt311 => ((polymod_PowMod.f k 2 (([0, 0, 0, 1] : List Int)) (⟨#[5]⟩ : ByteArray) (([1, 1, 1] : List Int))).bind fun bt319 => (if bt286.2.2 = 0 then (if bt299.2 = 0 then (if bt306.2 = 0 then (if bt311.2 = 0 then (if bt319.2 = 0 then (if bt306.1 = true then (galoislaw09_awake.j0 k bt286.1 bt286.2.1 bt299.1 bt319.1 bt311.1) else (galoislaw09_awake.j0 k bt286.1 bt286.2.1 bt299.1 bt319.1 true)) else (galoislaw09_awake.j0 k bt286.1 bt286.2.1 bt299.1 bt319.1 true)) else (galoislaw09_awake.j0 k bt286.1 bt286.2.1 bt299.1 bt319.1 true)) else (galoislaw09_awake.j0 k bt286.1 bt286.2.1 bt299.1 bt319.1 true)) else (galoislaw09_awake.j0 k bt286.1 bt286.2.1 bt299.1 bt319.1 true)) else (galoislaw09_awake.j0 k bt286.1 bt286.2.1 bt299.1 bt319.1 true))))))) = some r := by first | (rw [hy280]; with_reducible exact H) | (have H2_ := (Option.bind_some _ _).symm.trans H; rw [hy280]; with_reducible exact H2_) | (have H2_ := (Option.bind_some _ _).symm.trans H; with_reducible exact H2_) | with_reducible exact H | (rw [hy280]; exact H) | exact H
 have Ny280 := ak hy280
 clear hy280
 obtain ⟨y283, hy283⟩ : ∃ y_ : List Int, y_ = (([3, 1] : List Int)) := ⟨_, rfl⟩
 replace H : ((polymod_DivMod.f k 7 y280 y283).bind fun bt286 => ((polymod_Gcd.f k 5 (([4, 0, 1] : List Int)) (([2, 3, 1] : List Int))).bind fun bt299 => ((polymod_IsIrreducible.f k 3 (([1, 0, 1] : List Int))).bind fun bt306 => ((polymod_IsIrreducible.f k 5 (([1, 0, 1] : List Int))).bind fun bt311 => ((polymod_PowMod.f k 2 (([0, 0, 0, 1] : List Int)) (⟨#[5]⟩ : ByteArray) (([1, 1, 1] : List Int))).bind fun bt319 => (if bt286.2.2 = 0 then (if bt299.2 = 0 then (if bt306.2 = 0 then (if bt311.2 = 0 then (if bt319.2 = 0 then (if bt306.1 = true then (galoislaw09_awake.j0 k bt286.1 bt286.2.1 bt299.1 bt319.1 bt311.1) else (galoislaw09_awake.j0 k bt286.1 bt286.2.1 bt299.1 bt319.1 true)) else (galoislaw09_awake.j0 k bt286.1 bt286.2.1 bt299.1 bt319.1 true)) else (galoislaw09_awake.j0 k bt286.1 bt286.2.1 bt299.1 bt319.1 true)) else (galoislaw09_awake.j0 k bt286.1 bt286.2.1 bt299.1 bt319.1 true)) else (galoislaw09_awake.j0 k bt286.1 bt286.2.1 bt299.1 bt319.1 true)) else (galoislaw09_awake.j0 k bt286.1 bt286.2.1 bt299.1 bt319.1 true))))))) = some r := by first | (rw [hy283]; with_reducible exact H) | (have H2_ := (Option.bind_some _ _).symm.trans H; rw [hy283]; with_reducible exact H2_) | (have H2_ := (Option.bind_some _ _).symm.trans H; with_reducible exact H2_) | with_reducible exact H | (rw [hy283]; exact H) | exact H
 have Ny283 := ak hy283
 clear hy283
 replace H := Option.bind_eq_some_iff.mp H
 obtain ⟨⟨t286, t289, t292⟩, A10, H⟩ := H
 replace H : ((polymod_Gcd.f k 5 (([4, 0, 1] : List Int)) (([2, 3, 1] : List Int))).bind fun bt299 => ((polymod_IsIrreducible.f k 3 (([1, 0, 1] : List Int))).bind fun bt306 => ((polymod_IsIrreducible.f k 5 (([1, 0, 1] : List Int))).bind fun bt311 => ((polymod_PowMod.f k 2 (([0, 0, 0, 1] : List Int)) (⟨#[5]⟩ : ByteArray) (([1, 1, 1] : List Int))).bind fun bt319 => (if t292 = 0 then (if bt299.2 = 0 then (if bt306.2 = 0 then (if bt311.2 = 0 then (if bt319.2 = 0 then (if bt306.1 = true then (galoislaw09_awake.j0 k t286 t289 bt299.1 bt319.1 bt311.1) else (galoislaw09_awake.j0 k t286 t289 bt299.1 bt319.1 true)) else (galoislaw09_awake.j0 k t286 t289 bt299.1 bt319.1 true)) else (galoislaw09_awake.j0 k t286 t289 bt299.1 bt319.1 true)) else (galoislaw09_awake.j0 k t286 t289 bt299.1 bt319.1 true)) else (galoislaw09_awake.j0 k t286 t289 bt299.1 bt319.1 true)) else (galoislaw09_awake.j0 k t286 t289 bt299.1 bt319.1 true)))))) = some r := H
 have A1 := ak A10
 clear A10
 obtain ⟨y293, hy293⟩ : ∃ y_ : List Int, y_ = (([4, 0, 1] : List Int)) := ⟨_, rfl⟩
 replace H : ((polymod_Gcd.f k 5 y293 (([2, 3, 1] : List Int))).bind fun bt299 => ((polymod_IsIrreducible.f k 3 (([1, 0, 1] : List Int))).bind fun bt306 => ((polymod_IsIrreducible.f k 5 (([1, 0, 1] : List Int))).bind fun bt311 => ((polymod_PowMod.f k 2 (([0, 0, 0, 1] : List Int)) (⟨#[5]⟩ : ByteArray) (([1, 1, 1] : List Int))).bind fun bt319 => (if t292 = 0 then (if bt299.2 = 0 then (if bt306.2 = 0 then (if bt311.2 = 0 then (if bt319.2 = 0 then (if bt306.1 = true then (galoislaw09_awake.j0 k t286 t289 bt299.1 bt319.1 bt311.1) else (galoislaw09_awake.j0 k t286 t289 bt299.1 bt319.1 true)) else (galoislaw09_awake.j0 k t286 t289 bt299.1 bt319.1 true)) else (galoislaw09_awake.j0 k t286 t289 bt299.1 bt319.1 true)) else (galoislaw09_awake.j0 k t286 t289 bt299.1 bt319.1 true)) else (galoislaw09_awake.j0 k t286 t289 bt299.1 bt319.1 true)) else (galoislaw09_awake.j0 k t286 t289 bt299.1 bt319.1 true)))))) = some r := by first | (rw [hy293]; with_reducible exact H) | (have H2_ := (Option.bind_some _ _).symm.trans H; rw [hy293]; with_reducible exact H2_) | (have H2_ := (Option.bind_some _ _).symm.trans H; with_reducible exact H2_) | with_reducible exact H | (rw [hy293]; exact H) | exact H
 have Ny293 := ak hy293
 clear hy293
 obtain ⟨y296, hy296⟩ : ∃ y_ : List Int, y_ = (([2, 3, 1] : List Int)) := ⟨_, rfl⟩
 replace H : ((polymod_Gcd.f k 5 y293 y296).bind fun bt299 => ((polymod_IsIrreducible.f k 3 (([1, 0, 1] : List Int))).bind fun bt306 => ((polymod_IsIrreducible.f k 5 (([1, 0, 1] : List Int))).bind fun bt311 => ((polymod_PowMod.f k 2 (([0, 0, 0, 1] : List Int)) (⟨#[5]⟩ : ByteArray) (([1, 1, 1] : List Int))).bind fun bt319 => (if t292 = 0 then (if bt299.2 = 0 then (if bt306.2 = 0 then (if bt311.2 = 0 then (if bt319.2 = 0 then (if bt306.1 = true then (galoislaw09_awake.j0 k t286 t289 bt299.1 bt319.1 bt311.1) else (galoislaw09_awake.j0 k t286 t289 bt299.1 bt319.1 true)) else (galoislaw09_awake.j0 k t286 t289 bt299.1 bt319.1 true)) else (galoislaw09_awake.j0 k t286 t289 bt299.1 bt319.1 true)) else (galoislaw09_awake.j0 k t286 t289 bt299.1 bt319.1 true)) else (galoislaw09_awake.j0 k t286 t289 bt299.1 bt319.1 true)) else (galoislaw09_awake.j0 k t286 t289 bt299.1 bt319.1 true)))))) = some r := by first | (rw [hy296]; with_reducible exact H) | (have H2_ := (Option.bind_some _ _).symm.trans H; rw [hy296]; with_reducible exact H2_) | (have H2_ := (Option.bind_some _ _).symm.trans H; with_reducible exact H2_) | with_reducible exact H | (rw [hy296]; exact H) | exact H
 have Ny296 := ak hy296
 clear hy296
 replace H := Option.bind_eq_some_iff.mp H
 obtain ⟨⟨t299, t302⟩, A20, H⟩ := H
 replace H : ((polymod_IsIrreducible.f k 3 (([1, 0, 1] : List Int))).bind fun bt306 => ((polymod_IsIrreducible.f k 5 (([1, 0, 1] : List Int))).bind fun bt311 => ((polymod_PowMod.f k 2 (([0, 0, 0, 1] : List Int)) (⟨#[5]⟩ : ByteArray) (([1, 1, 1] : List Int))).bind fun bt319 => (if t292 = 0 then (if t302 = 0 then (if bt306.2 = 0 then (if bt311.2 = 0 then (if bt319.2 = 0 then (if bt306.1 = true then (galoislaw09_awake.j0 k t286 t289 t299 bt319.1 bt311.1) else (galoislaw09_awake.j0 k t286 t289 t299 bt319.1 true)) else (galoislaw09_awake.j0 k t286 t289 t299 bt319.1 true)) else (galoislaw09_awake.j0 k t286 t289 t299 bt319.1 true)) else (galoislaw09_awake.j0 k t286 t289 t299 bt319.1 true)) else (galoislaw09_awake.j0 k t286 t289 t299 bt319.1 true)) else (galoislaw09_awake.j0 k t286 t289 t299 bt319.1 true))))) = some r := H
 have A2 := ak A20
 clear A20
 obtain ⟨y303, hy303⟩ : ∃ y_ : List Int, y_ = (([1, 0, 1] : List Int)) := ⟨_, rfl⟩
 replace H : ((polymod_IsIrreducible.f k 3 y303).bind fun bt306 => ((polymod_IsIrreducible.f k 5 (([1, 0, 1] : List Int))).bind fun bt311 => ((polymod_PowMod.f k 2 (([0, 0, 0, 1] : List Int)) (⟨#[5]⟩ : ByteArray) (([1, 1, 1] : List Int))).bind fun bt319 => (if t292 = 0 then (if t302 = 0 then (if bt306.2 = 0 then (if bt311.2 = 0 then (if bt319.2 = 0 then (if bt306.1 = true then (galoislaw09_awake.j0 k t286 t289 t299 bt319.1 bt311.1) else (galoislaw09_awake.j0 k t286 t289 t299 bt319.1 true)) else (galoislaw09_awake.j0 k t286 t289 t299 bt319.1 true)) else (galoislaw09_awake.j0 k t286 t289 t299 bt319.1 true)) else (galoislaw09_awake.j0 k t286 t289 t299 bt319.1 true)) else (galoislaw09_awake.j0 k t286 t289 t299 bt319.1 true)) else (galoislaw09_awake.j0 k t286 t289 t299 bt319.1 true))))) = some r := by first | (rw [hy303]; with_reducible exact H) | (have H2_ := (Option.bind_some _ _).symm.trans H; rw [hy303]; with_reducible exact H2_) | (have H2_ := (Option.bind_some _ _).symm.trans H; with_reducible exact H2_) | with_reducible exact H | (rw [hy303]; exact H) | exact H
 have Ny303 := ak hy303
 clear hy303
 replace H := Option.bind_eq_some_iff.mp H
 obtain ⟨⟨t306, t307⟩, A30, H⟩ := H
 replace H : ((polymod_IsIrreducible.f k 5 (([1, 0, 1] : List Int))).bind fun bt311 => ((polymod_PowMod.f k 2 (([0, 0, 0, 1] : List Int)) (⟨#[5]⟩ : ByteArray) (([1, 1, 1] : List Int))).bind fun bt319 => (if t292 = 0 then (if t302 = 0 then (if t307 = 0 then (if bt311.2 = 0 then (if bt319.2 = 0 then (if t306 = true then (galoislaw09_awake.j0 k t286 t289 t299 bt319.1 bt311.1) else (galoislaw09_awake.j0 k t286 t289 t299 bt319.1 true)) else (galoislaw09_awake.j0 k t286 t289 t299 bt319.1 true)) else (galoislaw09_awake.j0 k t286 t289 t299 bt319.1 true)) else (galoislaw09_awake.j0 k t286 t289 t299 bt319.1 true)) else (galoislaw09_awake.j0 k t286 t289 t299 bt319.1 true)) else (galoislaw09_awake.j0 k t286 t289 t299 bt319.1 true)))) = some r := H
 have A3 := ak A30
 clear A30
 obtain ⟨y308, hy308⟩ : ∃ y_ : List Int, y_ = (([1, 0, 1] : List Int)) := ⟨_, rfl⟩
 replace H : ((polymod_IsIrreducible.f k 5 y308).bind fun bt311 => ((polymod_PowMod.f k 2 (([0, 0, 0, 1] : List Int)) (⟨#[5]⟩ : ByteArray) (([1, 1, 1] : List Int))).bind fun bt319 => (if t292 = 0 then (if t302 = 0 then (if t307 = 0 then (if bt311.2 = 0 then (if bt319.2 = 0 then (if t306 = true then (galoislaw09_awake.j0 k t286 t289 t299 bt319.1 bt311.1) else (galoislaw09_awake.j0 k t286 t289 t299 bt319.1 true)) else (galoislaw09_awake.j0 k t286 t289 t299 bt319.1 true)) else (galoislaw09_awake.j0 k t286 t289 t299 bt319.1 true)) else (galoislaw09_awake.j0 k t286 t289 t299 bt319.1 true)) else (galoislaw09_awake.j0 k t286 t289 t299 bt319.1 true)) else (galoislaw09_awake.j0 k t286 t289 t299 bt319.1 true)))) = some r := by first | (rw [hy308]; with_reducible exact H) | (have H2_ := (Option.bind_some _ _).symm.trans H; rw [hy308]; with_reducible exact H2_) | (have H2_ := (Option.bind_some _ _).symm.trans H; with_reducible exact H2_) | with_reducible exact H | (rw [hy308]; exact H) | exact H
 have Ny308 := ak hy308
 clear hy308
 replace H := Option.bind_eq_some_iff.mp H
 obtain ⟨⟨t311, t312⟩, A40, H⟩ := H
 replace H : ((polymod_PowMod.f k 2 (([0, 0, 0, 1] : List Int)) (⟨#[5]⟩ : ByteArray) (([1, 1, 1] : List Int))).bind fun bt319 => (if t292 = 0 then (if t302 = 0 then (if t307 = 0 then (if t312 = 0 then (if bt319.2 = 0 then (if t306 = true then (galoislaw09_awake.j0 k t286 t289 t299 bt319.1 t311) else (galoislaw09_awake.j0 k t286 t289 t299 bt319.1 true)) else (galoislaw09_awake.j0 k t286 t289 t299 bt319.1 true)) else (galoislaw09_awake.j0 k t286 t289 t299 bt319.1 true)) else (galoislaw09_awake.j0 k t286 t289 t299 bt319.1 true)) else (galoislaw09_awake.j0 k t286 t289 t299 bt319.1 true)) else (galoislaw09_awake.j0 k t286 t289 t299 bt319.1 true))) = some r := H
 have A4 := ak A40
 clear A40
 obtain ⟨y313, hy313⟩ : ∃ y_ : List Int, y_ = (([0, 0, 0, 1] : List Int)) := ⟨_, rfl⟩
 replace H : ((polymod_PowMod.f k 2 y313 (⟨#[5]⟩ : ByteArray) (([1, 1, 1] : List Int))).bind fun bt319 => (if t292 = 0 then (if t302 = 0 then (if t307 = 0 then (if t312 = 0 then (if bt319.2 = 0 then (if t306 = true then (galoislaw09_awake.j0 k t286 t289 t299 bt319.1 t311) else (galoislaw09_awake.j0 k t286 t289 t299 bt319.1 true)) else (galoislaw09_awake.j0 k t286 t289 t299 bt319.1 true)) else (galoislaw09_awake.j0 k t286 t289 t299 bt319.1 true)) else (galoislaw09_awake.j0 k t286 t289 t299 bt319.1 true)) else (galoislaw09_awake.j0 k t286 t289 t299 bt319.1 true)) else (galoislaw09_awake.j0 k t286 t289 t299 bt319.1 true))) = some r := by first | (rw [hy313]; with_reducible exact H) | (have H2_ := (Option.bind_some _ _).symm.trans H; rw [hy313]; with_reducible exact H2_) | (have H2_ := (Option.bind_some _ _).symm.trans H; with_reducible exact H2_) | with_reducible exact H | (rw [hy313]; exact H) | exact H
 have Ny313 := ak hy313
 clear hy313
 obtain ⟨y316, hy316⟩ : ∃ y_ : List Int, y_ = (([1, 1, 1] : List Int)) := ⟨_, rfl⟩
 replace H : ((polymod_PowMod.f k 2 y313 (⟨#[5]⟩ : ByteArray) y316).bind fun bt319 => (if t292 = 0 then (if t302 = 0 then (if t307 = 0 then (if t312 = 0 then (if bt319.2 = 0 then (if t306 = true then (galoislaw09_awake.j0 k t286 t289 t299 bt319.1 t311) else (galoislaw09_awake.j0 k t286 t289 t299 bt319.1 true)) else (galoislaw09_awake.j0 k t286 t289 t299 bt319.1 true)) else (galoislaw09_awake.j0 k t286 t289 t299 bt319.1 true)) else (galoislaw09_awake.j0 k t286 t289 t299 bt319.1 true)) else (galoislaw09_awake.j0 k t286 t289 t299 bt319.1 true)) else (galoislaw09_awake.j0 k t286 t289 t299 bt319.1 true))) = some r := by first | (rw [hy316]; with_reducible exact H) | (have H2_ := (Option.bind_some _ _).symm.trans H; rw [hy316]; with_reducible exact H2_) | (have H2_ := (Option.bind_some _ _).symm.trans H; with_reducible exact H2_) | with_reducible exact H | (rw [hy316]; exact H) | exact H
 have Ny316 := ak hy316
 clear hy316
 replace H := Option.bind_eq_some_iff.mp H
 obtain ⟨⟨t319, t322⟩, A50, H⟩ := H
 replace H : (if t292 = 0 then (if t302 = 0 then (if t307 = 0 then (if t312 = 0 then (if t322 = 0 then (if t306 = true then (galoislaw09_awake.j0 k t286 t289 t299 t319 t311) else (galoislaw09_awake.j0 k t286 t289 t299 t319 true)) else (galoislaw09_awake.j0 k t286 t289 t299 t319 true)) else (galoislaw09_awake.j0 k t286 t289 t299 t319 true)) else (galoislaw09_awake.j0 k t286 t289 t299 t319 true)) else (galoislaw09_awake.j0 k t286 t289 t299 t319 true)) else (galoislaw09_awake.j0 k t286 t289 t299 t319 true)) = some r := H
 have A5 := ak A50
 clear A50
 have HC6 := ak H
 clear H
 go_enter Try.func13, Try.ntmps13
 go_upto_region 6 with (first | ((with_reducible refine gate_dst (N := 13) rfl ?_); (try (refine gate_guard (by rfl) ?_; dsimp only)); refine Kd.R_lit (Kd.int .i64) _ 3 ?hg (N := 13) ?hd (xs := ([1, 0, 1] : List Int)) (inner := [.int .i64 1, .int .i64 0, .int .i64 1]) (ok := fun _ => True) (okp := fun _ => True) ?hr ?hp (fun _ hk => hk) trivial (Below.refl _ _) (Nat.le_refl _) (by simp) ?_; (case hd => rfl); (case hg => rfl); (case hr => first | (go_simp; done) | (go_simp; rfl)); (case hp => exact (Reps.one (show Kd.M (Kd.int .i64) _ _ _ 1 [.int .i64 1] from rfl) (Reps.one (show Kd.M (Kd.int .i64) _ _ _ 0 [.int .i64 0] from rfl) (Reps.one (show Kd.M (Kd.int .i64) _ _ _ 1 [.int .i64 1] from rfl) (Reps.none _ _))))); intro v281 w7 ho8 hb hg_ hnew_; clear hg_ hnew_; (first | rw [← Ny280.out] at ho8 | (simp only [Int.reduceToNat] at ho8; rw [← Ny280.out] at ho8)); have n0_ := ak (Kd.R_lower ho8 (below_size bX)); have n1_ := ak (below_step bX hb); clear HB; have HO282 := n0_; have HB := n1_; clear n0_ n1_; clear hb ho8) | ((with_reducible refine gate_dst (N := 14) rfl ?_); (try (refine gate_guard (by rfl) ?_; dsimp only)); refine Kd.R_lit (Kd.int .i64) _ 3 ?hg (N := 14) ?hd (xs := ([3, 1] : List Int)) (inner := [.int .i64 3, .int .i64 1]) (ok := fun _ => True) (okp := fun _ => True) ?hr ?hp (fun _ hk => hk) trivial (Below.refl _ _) (Nat.le_refl _) (by simp) ?_; (case hd => rfl); (case hg => rfl); (case hr => first | (go_simp; done) | (go_simp; rfl)); (case hp => exact (Reps.one (show Kd.M (Kd.int .i64) _ _ _ 3 [.int .i64 3] from rfl) (Reps.one (show Kd.M (Kd.int .i64) _ _ _ 1 [.int .i64 1] from rfl) (Reps.none _ _)))); intro v284 w9 ho10 hb hg_ hnew_; clear hg_ hnew_; (first | rw [← Ny283.out] at ho10 | (simp only [Int.reduceToNat] at ho10; rw [← Ny283.out] at ho10)); have n0_ := ak (Kd.R_elder' (rX HO282.out) (Kd.R_base ho10) hb); have n1_ := ak (Kd.R_lower (Kd.R_new' ho10 (Kd.R_lt (rX HO282.out))) (below_size bX)); have n2_ := ak (below_step bX hb); clear HO282; clear HB; have HO282 := n0_; have HO285 := n1_; have HB := n2_; clear n0_ n1_ n2_; clear hb ho10; obtain ⟨Ao11, co11, eo11⟩ := Kd.R_slice HO282.out; subst eo11; obtain ⟨Ao12, co12, eo12⟩ := Kd.R_slice HO285.out; subst eo12) | ((with_reducible refine gate_callee (f := 22) rfl ?_); refine goesL_ (some 15) rfl rfl Try.func22 (by kernel_rfl) rfl #[.int .i64 7, .slice Ao11 y280.length co11, .slice Ao12 y283.length co12] rfl mX ?_; (with_reducible refine (polymod_DivMod.calls k 7 (fun k_ => some k_ = (.slice Ao11 y280.length co11 : Value).ownBlock) _ _ y280 (fun k_ => some k_ = (.slice Ao12 y283.length co12 : Value).ownBlock) _ _ y283 t286 t289 t292 _ ?side1 ?side2 A1.out).mono ?_); (case side1 => exact Kd.R_V (Kd.R_tight rfl (HO282.out))); (case side2 => exact Kd.R_V (Kd.R_tight rfl (HO285.out))); rintro e w13 ⟨v287, v290, rfl, ho0, ho1, hb⟩; refine ⟨_, rfl, ?_⟩; have n0_ := ak (Kd.R_below (rX HO282.out) hb); have n1_ := ak (Kd.R_below (rX HO285.out) hb); have n2_ := ak (Kd.V_lower (Kd.V_mono (ok' := fun k_ => True) ho0 (fun k_ hk_ => trivial)) (below_size bX)); have n3_ := ak (Kd.V_lower (Kd.V_mono (ok' := fun k_ => True) ho1 (fun k_ hk_ => trivial)) (below_size bX)); have n4_ := ak (below_step bX hb); clear HO282; clear HO285; clear HB; have HO282 := n0_; have HO285 := n1_; have HO288 := n2_; have HO291 := n3_; have HB := n4_; clear n0_ n1_ n2_ n3_ n4_; (try clear hb); (try clear hb2); (try clear hk); (try clear hi); (try clear ho0); (try clear ho1)) | ((with_reducible refine gate_dst (N := 20) rfl ?_); (try (refine gate_guard (by rfl) ?_; dsimp only)); refine Kd.R_lit (Kd.int .i64) _ 3 ?hg (N := 20) ?hd (xs := ([4, 0, 1] : List Int)) (inner := [.int .i64 4, .int .i64 0, .int .i64 1]) (ok := fun _ => True) (okp := fun _ => True) ?hr ?hp (fun _ hk => hk) trivial (Below.refl _ _) (Nat.le_refl _) (by simp) ?_; (case hd => rfl); (case hg => rfl); (case hr => first | (go_simp; done) | (go_simp; rfl)); (case hp => exact (Reps.one (show Kd.M (Kd.int .i64) _ _ _ 4 [.int .i64 4] from rfl) (Reps.one (show Kd.M (Kd.int .i64) _ _ _ 0 [.int .i64 0] from rfl) (Reps.one (show Kd.M (Kd.int .i64) _ _ _ 1 [.int .i64 1] from rfl) (Reps.none _ _))))); intro v294 w14 ho15 hb hg_ hnew_; clear hg_ hnew_; (first | rw [← Ny293.out] at ho15 | (simp only [Int.reduceToNat] at ho15; rw [← Ny293.out] at ho15)); have n0_ := ak (Kd.R_elder' (rX HO282.out) (Kd.R_base ho15) hb); have n1_ := ak (Kd.R_elder' (rX HO285.out) (Kd.R_base ho15) hb); have n2_ := ak (Kd.V_elder' (vX HO288.out) (Kd.R_base ho15) hb); have n3_ := ak (Kd.V_elder' (vX HO291.out) (Kd.R_base ho15) hb); have n4_ := ak (Kd.R_lower (Kd.R_new' (Kd.R_new' ho15 (Kd.R_lt (rX HO282.out))) (Kd.R_lt (rX HO285.out))) (below_size bX)); have n5_ := ak (below_step bX hb); clear HO282; clear HO285; clear HO288; clear HO291; clear HB; have HO282 := n0_; have HO285 := n1_; have HO288 := n2_; have HO291 := n3_; have HO295 := n4_; have HB := n5_; clear n0_ n1_ n2_ n3_ n4_ n5_; clear hb ho15) | ((with_reducible refine gate_dst (N := 21) rfl ?_); (try (refine gate_guard (by rfl) ?_; dsimp only)); refine Kd.R_lit (Kd.int .i64) _ 3 ?hg (N := 21) ?hd (xs := ([2, 3, 1] : List Int)) (inner := [.int .i64 2, .int .i64 3, .int .i64 1]) (ok := fun _ => True) (okp := fun _ => True) ?hr ?hp (fun _ hk => hk) trivial (Below.refl _ _) (Nat.le_refl _) (by simp) ?_; (case hd => rfl); (case hg => rfl); (case hr => first | (go_simp; done) | (go_simp; rfl)); (case hp => exact (Reps.one (show Kd.M (Kd.int .i64) _ _ _ 2 [.int .i64 2] from rfl) (Reps.one (show Kd.M (Kd.int .i64) _ _ _ 3 [.int .i64 3] from rfl) (Reps.one (show Kd.M (Kd.int .i64) _ _ _ 1 [.int .i64 1] from rfl) (Reps.none _ _))))); intro v297 w16 ho17 hb hg_ hnew_; clear hg_ hnew_; (first | rw [← Ny296.out] at ho17 | (simp only [Int.reduceToNat] at ho17; rw [← Ny296.out] at ho17)); have n0_ := ak (Kd.R_elder' (rX HO282.out) (Kd.R_base ho17) hb); have n1_ := ak (Kd.R_elder' (rX HO285.out) (Kd.R_base ho17) hb); have n2_ := ak (Kd.V_elder' (vX HO288.out) (Kd.R_base ho17) hb); have n3_ := ak (Kd.V_elder' (vX HO291.out) (Kd.R_base ho17) hb); have n4_ := ak (Kd.R_elder' (rX HO295.out) (Kd.R_base ho17) hb); have n5_ := ak (Kd.R_lower (Kd.R_new' (Kd.R_new' (Kd.R_new' ho17 (Kd.R_lt (rX HO282.out))) (Kd.R_lt (rX HO285.out))) (Kd.R_lt (rX HO295.out))) (below_size bX)); have n6_ := ak (below_step bX hb); clear HO282; clear HO285; clear HO288; clear HO291; clear HO295; clear HB; have HO282 := n0_; have HO285 := n1_; have HO288 := n2_; have HO291 := n3_; have HO295 := n4_; have HO298 := n5_; have HB := n6_; clear n0_ n1_ n2_ n3_ n4_ n5_ n6_; clear hb ho17; obtain ⟨Ao18, co18, eo18⟩ := Kd.R_slice HO295.out; subst eo18; obtain ⟨Ao19, co19, eo19⟩ := Kd.R_slice HO298.out; subst eo19) | ((with_reducible refine gate_callee (f := 31) rfl ?_); refine goesL_ (some 22) rfl rfl Try.func31 (by kernel_rfl) rfl #[.int .i64 5, .slice Ao18 y293.length co18, .slice Ao19 y296.length co19] rfl mX ?_; (with_reducible refine (polymod_Gcd.calls k 5 (fun k_ => some k_ = (.slice Ao18 y293.length co18 : Value).ownBlock) _ _ y293 (fun k_ => some k_ = (.slice Ao19 y296.length co19 : Value).ownBlock) _ _ y296 t299 t302 _ ?side1 ?side2 A2.out).mono ?_); (case side1 => exact Kd.R_V (Kd.R_tight rfl (HO295.out))); (case side2 => exact Kd.R_V (Kd.R_tight rfl (HO298.out))); rintro e w20 ⟨v300, rfl, ho0, hb⟩; refine ⟨_, rfl, ?_⟩; have n0_ := ak (Kd.R_below (rX HO282.out) hb); have n1_ := ak (Kd.R_below (rX HO285.out) hb); have n2_ := ak (Kd.V_below (vX HO288.out) hb); have n3_ := ak (Kd.V_below (vX HO291.out) hb); have n4_ := ak (Kd.R_below (rX HO295.out) hb); have n5_ := ak (Kd.R_below (rX HO298.out) hb); have n6_ := ak (Kd.V_lower (Kd.V_mono (ok' := fun k_ => some k_ ≠ (.slice Ao11 y280.length co11 : Value).ownBlock ∧ some k_ ≠ (.slice Ao12 y283.length co12 : Value).ownBlock) ho0 (fun k_ hk_ => ⟨Or.elim hk_ (fun hs_ => Or.elim hs_ (fun hs_ => ((HO295.out).1 k_ hs_.symm).1.1.2) (fun hs_ => ((HO298.out).1 k_ hs_.symm).1.1.2)) (fun hn_ => (Kd.fresh' (Kd.R_lt (rX HO282.out)) k_ hn_)), Or.elim hk_ (fun hs_ => Or.elim hs_ (fun hs_ => ((HO295.out).1 k_ hs_.symm).1.2) (fun hs_ => ((HO298.out).1 k_ hs_.symm).1.2)) (fun hn_ => (Kd.fresh' (Kd.R_lt (rX HO285.out)) k_ hn_))⟩)) (below_size bX)); have n7_ := ak (below_step bX hb); clear HO282; clear HO285; clear HO288; clear HO291; clear HO295; clear HO298; clear HB; have HO282 := n0_; have HO285 := n1_; have HO288 := n2_; have HO291 := n3_; have HO295 := n4_; have HO298 := n5_; have HO301 := n6_; have HB := n7_; clear n0_ n1_ n2_ n3_ n4_ n5_ n6_ n7_; (try clear hb); (try clear hb2); (try clear hk); (try clear hi); (try clear ho0)) | ((with_reducible refine gate_dst (N := 26) rfl ?_); (try (refine gate_guard (by rfl) ?_; dsimp only)); refine Kd.R_lit (Kd.int .i64) _ 3 ?hg (N := 26) ?hd (xs := ([1, 0, 1] : List Int)) (inner := [.int .i64 1, .int .i64 0, .int .i64 1]) (ok := fun _ => True) (okp := fun _ => True) ?hr ?hp (fun _ hk => hk) trivial (Below.refl _ _) (Nat.le_refl _) (by simp) ?_; (case hd => rfl); (case hg => rfl); (case hr => first | (go_simp; done) | (go_simp; rfl)); (case hp => exact (Reps.one (show Kd.M (Kd.int .i64) _ _ _ 1 [.int .i64 1] from rfl) (Reps.one (show Kd.M (Kd.int .i64) _ _ _ 0 [.int .i64 0] from rfl) (Reps.one (show Kd.M (Kd.int .i64) _ _ _ 1 [.int .i64 1] from rfl) (Reps.none _ _))))); intro v304 w21 ho22 hb hg_ hnew_; clear hg_ hnew_; (first | rw [← Ny303.out] at ho22 | (simp only [Int.reduceToNat] at ho22; rw [← Ny303.out] at ho22)); have n0_ := ak (Kd.R_elder' (rX HO282.out) (Kd.R_base ho22) hb); have n1_ := ak (Kd.R_elder' (rX HO285.out) (Kd.R_base ho22) hb); have n2_ := ak (Kd.V_elder' (vX HO288.out) (Kd.R_base ho22) hb); have n3_ := ak (Kd.V_elder' (vX HO291.out) (Kd.R_base ho22) hb); have n4_ := ak (Kd.R_elder' (rX HO295.out) (Kd.R_base ho22) hb); have n5_ := ak (Kd.R_elder' (rX HO298.out) (Kd.R_base ho22) hb); have n6_ := ak (Kd.V_elder' (vX HO301.out) (Kd.R_base ho22) hb); have n7_ := ak (Kd.R_lower (Kd.R_new' (Kd.R_new' (Kd.R_new' (Kd.R_new' ho22 (Kd.R_lt (rX HO282.out))) (Kd.R_lt (rX HO285.out))) (Kd.R_lt (rX HO295.out))) (Kd.R_lt (rX HO298.out))) (below_size bX)); have n8_ := ak (below_step bX hb); clear HO282; clear HO285; clear HO288; clear HO291; clear HO295; clear HO298; clear HO301; clear HB; have HO282 := n0_; have HO285 := n1_; have HO288 := n2_; have HO291 := n3_; have HO295 := n4_; have HO298 := n5_; have HO301 := n6_; have HO305 := n7_; have HB := n8_; clear n0_ n1_ n2_ n3_ n4_ n5_ n6_ n7_ n8_; clear hb ho22; obtain ⟨Ao23, co23, eo23⟩ := Kd.R_slice HO305.out; subst eo23) | ((with_reducible refine gate_callee (f := 14) rfl ?_); refine goesL_ (some 27) rfl rfl Try.func14 (by kernel_rfl) rfl #[.int .i64 3, .slice Ao23 y303.length co23] rfl mX ?_; (with_reducible refine (polymod_IsIrreducible.calls k 3 (fun k_ => some k_ = (.slice Ao23 y303.length co23 : Value).ownBlock) _ _ y303 t306 t307 _ ?side1 A3.out).mono ?_); (case side1 => exact Kd.R_V (Kd.R_tight rfl (HO305.out))); rintro e w24 ⟨rfl, hb⟩; refine ⟨_, rfl, ?_⟩; have n0_ := ak (Kd.R_below (rX HO282.out) hb); have n1_ := ak (Kd.R_below (rX HO285.out) hb); have n2_ := ak (Kd.V_below (vX HO288.out) hb); have n3_ := ak (Kd.V_below (vX HO291.out) hb); have n4_ := ak (Kd.R_below (rX HO295.out) hb); have n5_ := ak (Kd.R_below (rX HO298.out) hb); have n6_ := ak (Kd.V_below (vX HO301.out) hb); have n7_ := ak (Kd.R_below (rX HO305.out) hb); have n8_ := ak (below_step bX hb); clear HO282; clear HO285; clear HO288; clear HO291; clear HO295; clear HO298; clear HO301; clear HO305; clear HB; have HO282 := n0_; have HO285 := n1_; have HO288 := n2_; have HO291 := n3_; have HO295 := n4_; have HO298 := n5_; have HO301 := n6_; have HO305 := n7_; have HB := n8_; clear n0_ n1_ n2_ n3_ n4_ n5_ n6_ n7_ n8_; (try clear hb); (try clear hb2); (try clear hk); (try clear hi)) | ((with_reducible refine gate_dst (N := 31) rfl ?_); (try (refine gate_guard (by rfl) ?_; dsimp only)); refine Kd.R_lit (Kd.int .i64) _ 3 ?hg (N := 31) ?hd (xs := ([1, 0, 1] : List Int)) (inner := [.int .i64 1, .int .i64 0, .int .i64 1]) (ok := fun _ => True) (okp := fun _ => True) ?hr ?hp (fun _ hk => hk) trivial (Below.refl _ _) (Nat.le_refl _) (by simp) ?_; (case hd => rfl); (case hg => rfl); (case hr => first | (go_simp; done) | (go_simp; rfl)); (case hp => exact (Reps.one (show Kd.M (Kd.int .i64) _ _ _ 1 [.int .i64 1] from rfl) (Reps.one (show Kd.M (Kd.int .i64) _ _ _ 0 [.int .i64 0] from rfl) (Reps.one (show Kd.M (Kd.int .i64) _ _ _ 1 [.int .i64 1] from rfl) (Reps.none _ _))))); intro v309 w25 ho26 hb hg_ hnew_; clear hg_ hnew_; (first | rw [← Ny308.out] at ho26 | (simp only [Int.reduceToNat] at ho26; rw [← Ny308.out] at ho26)); have n0_ := ak (Kd.R_elder' (rX HO282.out) (Kd.R_base ho26) hb); have n1_ := ak (Kd.R_elder' (rX HO285.out) (Kd.R_base ho26) hb); have n2_ := ak (Kd.V_elder' (vX HO288.out) (Kd.R_base ho26) hb); have n3_ := ak (Kd.V_elder' (vX HO291.out) (Kd.R_base ho26) hb); have n4_ := ak (Kd.R_elder' (rX HO295.out) (Kd.R_base ho26) hb); have n5_ := ak (Kd.R_elder' (rX HO298.out) (Kd.R_base ho26) hb); have n6_ := ak (Kd.V_elder' (vX HO301.out) (Kd.R_base ho26) hb); have n7_ := ak (Kd.R_elder' (rX HO305.out) (Kd.R_base ho26) hb); have n8_ := ak (Kd.R_lower (Kd.R_new' (Kd.R_new' (Kd.R_new' (Kd.R_new' (Kd.R_new' ho26 (Kd.R_lt (rX HO282.out))) (Kd.R_lt (rX HO285.out))) (Kd.R_lt (rX HO295.out))) (Kd.R_lt (rX HO298.out))) (Kd.R_lt (rX HO305.out))) (below_size bX)); have n9_ := ak (below_step bX hb); clear HO282; clear HO285; clear HO288; clear HO291; clear HO295; clear HO298; clear HO301; clear HO305; clear HB; have HO282 := n0_; have HO285 := n1_; have HO288 := n2_; have HO291 := n3_; have HO295 := n4_; have HO298 := n5_; have HO301 := n6_; have HO305 := n7_; have HO310 := n8_; have HB := n9_; clear n0_ n1_ n2_ n3_ n4_ n5_ n6_ n7_ n8_ n9_; clear hb ho26; obtain ⟨Ao27, co27, eo27⟩ := Kd.R_slice HO310.out; subst eo27) | ((with_reducible refine gate_callee (f := 14) rfl ?_); refine goesL_ (some 32) rfl rfl Try.func14 (by kernel_rfl) rfl #[.int .i64 5, .slice Ao27 y308.length co27] rfl mX ?_; (with_reducible refine (polymod_IsIrreducible.calls k 5 (fun k_ => some k_ = (.slice Ao27 y308.length co27 : Value).ownBlock) _ _ y308 t311 t312 _ ?side1 A4.out).mono ?_); (case side1 => exact Kd.R_V (Kd.R_tight rfl (HO310.out))); rintro e w28 ⟨rfl, hb⟩; refine ⟨_, rfl, ?_⟩; have n0_ := ak (Kd.R_below (rX HO282.out) hb); have n1_ := ak (Kd.R_below (rX HO285.out) hb); have n2_ := ak (Kd.V_below (vX HO288.out) hb); have n3_ := ak (Kd.V_below (vX HO291.out) hb); have n4_ := ak (Kd.R_below (rX HO295.out) hb); have n5_ := ak (Kd.R_below (rX HO298.out) hb); have n6_ := ak (Kd.V_below (vX HO301.out) hb); have n7_ := ak (Kd.R_below (rX HO305.out) hb); have n8_ := ak (Kd.R_below (rX HO310.out) hb); have n9_ := ak (below_step bX hb); clear HO282; clear HO285; clear HO288; clear HO291; clear HO295; clear HO298; clear HO301; clear HO305; clear HO310; clear HB; have HO282 := n0_; have HO285 := n1_; have HO288 := n2_; have HO291 := n3_; have HO295 := n4_; have HO298 := n5_; have HO301 := n6_; have HO305 := n7_; have HO310 := n8_; have HB := n9_; clear n0_ n1_ n2_ n3_ n4_ n5_ n6_ n7_ n8_ n9_; (try clear hb); (try clear hb2); (try clear hk); (try clear hi)) | ((with_reducible refine gate_dst (N := 36) rfl ?_); (try (refine gate_guard (by rfl) ?_; dsimp only)); refine Kd.R_lit (Kd.int .i64) _ 3 ?hg (N := 36) ?hd (xs := ([0, 0, 0, 1] : List Int)) (inner := [.int .i64 0, .int .i64 0, .int .i64 0, .int .i64 1]) (ok := fun _ => True) (okp := fun _ => True) ?hr ?hp (fun _ hk => hk) trivial (Below.refl _ _) (Nat.le_refl _) (by simp) ?_; (case hd => rfl); (case hg => rfl); (case hr => first | (go_simp; done) | (go_simp; rfl)); (case hp => exact (Reps.one (show Kd.M (Kd.int .i64) _ _ _ 0 [.int .i64 0] from rfl) (Reps.one (show Kd.M (Kd.int .i64) _ _ _ 0 [.int .i64 0] from rfl) (Reps.one (show Kd.M (Kd.int .i64) _ _ _ 0 [.int .i64 0] from rfl) (Reps.one (show Kd.M (Kd.int .i64) _ _ _ 1 [.int .i64 1] from rfl) (Reps.none _ _)))))); intro v314 w29 ho30 hb hg_ hnew_; clear hg_ hnew_; (first | rw [← Ny313.out] at ho30 | (simp only [Int.reduceToNat] at ho30; rw [← Ny313.out] at ho30)); have n0_ := ak (Kd.R_elder' (rX HO282.out) (Kd.R_base ho30) hb); have n1_ := ak (Kd.R_elder' (rX HO285.out) (Kd.R_base ho30) hb); have n2_ := ak (Kd.V_elder' (vX HO288.out) (Kd.R_base ho30) hb); have n3_ := ak (Kd.V_elder' (vX HO291.out) (Kd.R_base ho30) hb); have n4_ := ak (Kd.R_elder' (rX HO295.out) (Kd.R_base ho30) hb); have n5_ := ak (Kd.R_elder' (rX HO298.out) (Kd.R_base ho30) hb); have n6_ := ak (Kd.V_elder' (vX HO301.out) (Kd.R_base ho30) hb); have n7_ := ak (Kd.R_elder' (rX HO305.out) (Kd.R_base ho30) hb); have n8_ := ak (Kd.R_elder' (rX HO310.out) (Kd.R_base ho30) hb); have n9_ := ak (Kd.R_lower (Kd.R_new' (Kd.R_new' (Kd.R_new' (Kd.R_new' (Kd.R_new' (Kd.R_new' ho30 (Kd.R_lt (rX HO282.out))) (Kd.R_lt (rX HO285.out))) (Kd.R_lt (rX HO295.out))) (Kd.R_lt (rX HO298.out))) (Kd.R_lt (rX HO305.out))) (Kd.R_lt (rX HO310.out))) (below_size bX)); have n10_ := ak (below_step bX hb); clear HO282; clear HO285; clear HO288; clear HO291; clear HO295; clear HO298; clear HO301; clear HO305; clear HO310; clear HB; have HO282 := n0_; have HO285 := n1_; have HO288 := n2_; have HO291 := n3_; have HO295 := n4_; have HO298 := n5_; have HO301 := n6_; have HO305 := n7_; have HO310 := n8_; have HO315 := n9_; have HB := n10_; clear n0_ n1_ n2_ n3_ n4_ n5_ n6_ n7_ n8_ n9_ n10_; clear hb ho30) | ((with_reducible refine gate_dst (N := 37) rfl ?_); (try (refine gate_guard (by rfl) ?_; dsimp only)); refine Kd.R_lit (Kd.int .i64) _ 3 ?hg (N := 37) ?hd (xs := ([1, 1, 1] : List Int)) (inner := [.int .i64 1, .int .i64 1, .int .i64 1]) (ok := fun _ => True) (okp := fun _ => True) ?hr ?hp (fun _ hk => hk) trivial (Below.refl _ _) (Nat.le_refl _) (by simp) ?_; (case hd => rfl); (case hg => rfl); (case hr => first | (go_simp; done) | (go_simp; rfl)); (case hp => exact (Reps.one (show Kd.M (Kd.int .i64) _ _ _ 1 [.int .i64 1] from rfl) (Reps.one (show Kd.M (Kd.int .i64) _ _ _ 1 [.int .i64 1] from rfl) (Reps.one (show Kd.M (Kd.int .i64) _ _ _ 1 [.int .i64 1] from rfl) (Reps.none _ _))))); intro v317 w31 ho32 hb hg_ hnew_; clear hg_ hnew_; (first | rw [← Ny316.out] at ho32 | (simp only [Int.reduceToNat] at ho32; rw [← Ny316.out] at ho32)); have n0_ := ak (Kd.R_elder' (rX HO282.out) (Kd.R_base ho32) hb); have n1_ := ak (Kd.R_elder' (rX HO285.out) (Kd.R_base ho32) hb); have n2_ := ak (Kd.V_elder' (vX HO288.out) (Kd.R_base ho32) hb); have n3_ := ak (Kd.V_elder' (vX HO291.out) (Kd.R_base ho32) hb); have n4_ := ak (Kd.R_elder' (rX HO295.out) (Kd.R_base ho32) hb); have n5_ := ak (Kd.R_elder' (rX HO298.out) (Kd.R_base ho32) hb); have n6_ := ak (Kd.V_elder' (vX HO301.out) (Kd.R_base ho32) hb); have n7_ := ak (Kd.R_elder' (rX HO305.out) (Kd.R_base ho32) hb); have n8_ := ak (Kd.R_elder' (rX HO310.out) (Kd.R_base ho32) hb); have n9_ := ak (Kd.R_elder' (rX HO315.out) (Kd.R_base ho32) hb); have n10_ := ak (Kd.R_lower (Kd.R_new' (Kd.R_new' (Kd.R_new' (Kd.R_new' (Kd.R_new' (Kd.R_new' (Kd.R_new' ho32 (Kd.R_lt (rX HO282.out))) (Kd.R_lt (rX HO285.out))) (Kd.R_lt (rX HO295.out))) (Kd.R_lt (rX HO298.out))) (Kd.R_lt (rX HO305.out))) (Kd.R_lt (rX HO310.out))) (Kd.R_lt (rX HO315.out))) (below_size bX)); have n11_ := ak (below_step bX hb); clear HO282; clear HO285; clear HO288; clear HO291; clear HO295; clear HO298; clear HO301; clear HO305; clear HO310; clear HO315; clear HB; have HO282 := n0_; have HO285 := n1_; have HO288 := n2_; have HO291 := n3_; have HO295 := n4_; have HO298 := n5_; have HO301 := n6_; have HO305 := n7_; have HO310 := n8_; have HO315 := n9_; have HO318 := n10_; have HB := n11_; clear n0_ n1_ n2_ n3_ n4_ n5_ n6_ n7_ n8_ n9_ n10_ n11_; clear hb ho32; obtain ⟨Ao33, co33, eo33⟩ := Kd.R_slice HO315.out; subst eo33; obtain ⟨Ao34, co34, eo34⟩ := Kd.R_slice HO318.out; subst eo34) | ((with_reducible refine gate_callee (f := 19) rfl ?_); refine goesL_ (some 38) rfl rfl Try.func19 (by kernel_rfl) rfl #[.int .i64 2, .slice Ao33 y313.length co33, .string (⟨#[5]⟩ : ByteArray), .slice Ao34 y316.length co34] rfl mX ?_; (with_reducible refine (polymod_PowMod.calls k 2 (fun k_ => some k_ = (.slice Ao33 y313.length co33 : Value).ownBlock) _ _ y313 (⟨#[5]⟩ : ByteArray) (fun k_ => some k_ = (.slice Ao34 y316.length co34 : Value).ownBlock) _ _ y316 t319 t322 _ ?side1 ?side2 A5.out).mono ?_); (case side1 => exact Kd.R_V (Kd.R_tight rfl (HO315.out))); (case side2 => exact Kd.R_V (Kd.R_tight rfl (HO318.out))); rintro e w35 ⟨v320, rfl, ho0, hb⟩; refine ⟨_, rfl, ?_⟩; have n0_ := ak (Kd.R_below (rX HO282.out) hb); have n1_ := ak (Kd.R_below (rX HO285.out) hb); have n2_ := ak (Kd.V_below (vX HO288.out) hb); have n3_ := ak (Kd.V_below (vX HO291.out) hb); have n4_ := ak (Kd.R_below (rX HO295.out) hb); have n5_ := ak (Kd.R_below (rX HO298.out) hb); have n6_ := ak (Kd.V_below (vX HO301.out) hb); have n7_ := ak (Kd.R_below (rX HO305.out) hb); have n8_ := ak (Kd.R_below (rX HO310.out) hb); have n9_ := ak (Kd.R_below (rX HO315.out) hb); have n10_ := ak (Kd.R_below (rX HO318.out) hb); have n11_ := ak (Kd.V_lower (Kd.V_mono (ok' := fun k_ => some k_ ≠ (.slice Ao11 y280.length co11 : Value).ownBlock ∧ some k_ ≠ (.slice Ao12 y283.length co12 : Value).ownBlock ∧ some k_ ≠ (.slice Ao18 y293.length co18 : Value).ownBlock ∧ some k_ ≠ (.slice Ao19 y296.length co19 : Value).ownBlock ∧ some k_ ≠ (.slice Ao23 y303.length co23 : Value).ownBlock ∧ some k_ ≠ (.slice Ao27 y308.length co27 : Value).ownBlock) ho0 (fun k_ hk_ => ⟨Or.elim hk_ (fun hs_ => Or.elim hs_ (fun hs_ => ((HO315.out).1 k_ hs_.symm).1.1.1.1.1.1.2) (fun hs_ => ((HO318.out).1 k_ hs_.symm).1.1.1.1.1.1.2)) (fun hn_ => (Kd.fresh' (Kd.R_lt (rX HO282.out)) k_ hn_)), Or.elim hk_ (fun hs_ => Or.elim hs_ (fun hs_ => ((HO315.out).1 k_ hs_.symm).1.1.1.1.1.2) (fun hs_ => ((HO318.out).1 k_ hs_.symm).1.1.1.1.1.2)) (fun hn_ => (Kd.fresh' (Kd.R_lt (rX HO285.out)) k_ hn_)), Or.elim hk_ (fun hs_ => Or.elim hs_ (fun hs_ => ((HO315.out).1 k_ hs_.symm).1.1.1.1.2) (fun hs_ => ((HO318.out).1 k_ hs_.symm).1.1.1.1.2)) (fun hn_ => (Kd.fresh' (Kd.R_lt (rX HO295.out)) k_ hn_)), Or.elim hk_ (fun hs_ => Or.elim hs_ (fun hs_ => ((HO315.out).1 k_ hs_.symm).1.1.1.2) (fun hs_ => ((HO318.out).1 k_ hs_.symm).1.1.1.2)) (fun hn_ => (Kd.fresh' (Kd.R_lt (rX HO298.out)) k_ hn_)), Or.elim hk_ (fun hs_ => Or.elim hs_ (fun hs_ => ((HO315.out).1 k_ hs_.symm).1.1.2) (fun hs_ => ((HO318.out).1 k_ hs_.symm).1.1.2)) (fun hn_ => (Kd.fresh' (Kd.R_lt (rX HO305.out)) k_ hn_)), Or.elim hk_ (fun hs_ => Or.elim hs_ (fun hs_ => ((HO315.out).1 k_ hs_.symm).1.2) (fun hs_ => ((HO318.out).1 k_ hs_.symm).1.2)) (fun hn_ => (Kd.fresh' (Kd.R_lt (rX HO310.out)) k_ hn_))⟩)) (below_size bX)); have n12_ := ak (below_step bX hb); clear HO282; clear HO285; clear HO288; clear HO291; clear HO295; clear HO298; clear HO301; clear HO305; clear HO310; clear HO315; clear HO318; clear HB; have HO282 := n0_; have HO285 := n1_; have HO288 := n2_; have HO291 := n3_; have HO295 := n4_; have HO298 := n5_; have HO301 := n6_; have HO305 := n7_; have HO310 := n8_; have HO315 := n9_; have HO318 := n10_; have HO321 := n11_; have HB := n12_; clear n0_ n1_ n2_ n3_ n4_ n5_ n6_ n7_ n8_ n9_ n10_ n11_ n12_; (try clear hb); (try clear hb2); (try clear hk); (try clear hi); (try clear ho0)))
 (try simp only [Act.put, sS, s0, s1])
 go_cut [65] (fun v65 wc => ∃ (kq : Nat) (x65_5 : Bool), v65 = .bool x65_5 ∧ Aside0 (galoislaw09_awake.j0 kq t286 t289 t299 t319 x65_5 = some r) ∧ Aside0 (kq ≤ k) ∧ Aside0 (Kd.V (Kd.int .i64) 3 wc w.heap.size (fun _ => True) v287 t286) ∧ Aside0 (Kd.V (Kd.int .i64) 3 wc w.heap.size (fun _ => True) v290 t289) ∧ Aside0 (Kd.V (Kd.int .i64) 3 wc w.heap.size (fun _ => True) v300 t299) ∧ Aside0 (Kd.V (Kd.int .i64) 3 wc w.heap.size (fun _ => True) v320 t319) ∧ Aside0 (Below w.heap.size w wc))
 case first =>
  have H := HC6.out
  clear HC6
  by_cases c36 : t292 = 0
  · rw [if_pos c36] at H
    have c36b0 : (t292 == 0) = true := beq_iff_eq.mpr c36
    have c36b1 : (t292 != 0) = false := bne_eq_false_iff_eq.mpr c36
    clear c36
    (first | rw [c36b0] | (simp only [i64_w, i32_w]; rw [c36b0]) | skip)
    by_cases c37 : t302 = 0
    · rw [if_pos c37] at H
      have c37b0 : (t302 == 0) = true := beq_iff_eq.mpr c37
      have c37b1 : (t302 != 0) = false := bne_eq_false_iff_eq.mpr c37
      clear c37
      by_cases c38 : t307 = 0
      · rw [if_pos c38] at H
        have c38b0 : (t307 == 0) = true := beq_iff_eq.mpr c38
        have c38b1 : (t307 != 0) = false := bne_eq_false_iff_eq.mpr c38
        clear c38
        by_cases c39 : t312 = 0
        · rw [if_pos c39] at H
          have c39b0 : (t312 == 0) = true := beq_iff_eq.mpr c39
          have c39b1 : (t312 != 0) = false := bne_eq_false_iff_eq.mpr c39
          clear c39
          by_cases c40 : t322 = 0
          · rw [if_pos c40] at H
            have c40b0 : (t322 == 0) = true := beq_iff_eq.mpr c40
            have c40b1 : (t322 != 0) = false := bne_eq_false_iff_eq.mpr c40
            clear c40
            by_cases c41 : t306 = true
            · subst c41
              have H1 : (galoislaw09_awake.j0 k t286 t289 t299 t319 t311) = some r := by rw [if_pos rfl] at H; exact H
              clear H
              have H := H1
              clear H1
              as_aux_lemma =>
               have H' := ak H
               clear H
               go_wp2
               go_meet
               case rel => exact ⟨_, (t311), (by first | rfl | (simp; done) | (simp [*]; done)), H', ⟨by first | omega | exact Nat.le_refl _⟩, ⟨by (with_reducible repeat (first | apply vA | apply vB | apply vC)); exact Kd.V_mono HO288.out (fun _ hk => trivial)⟩, ⟨by (with_reducible repeat (first | apply vA | apply vB | apply vC)); exact Kd.V_mono HO291.out (fun _ hk => trivial)⟩, ⟨by (with_reducible repeat (first | apply vA | apply vB | apply vC)); exact Kd.V_mono HO301.out (fun _ hk => trivial)⟩, ⟨by (with_reducible repeat (first | apply vA | apply vB | apply vC)); exact Kd.V_mono HO321.out (fun _ hk => trivial)⟩, ⟨by repeat (first | (with_reducible first | exact HB.out | apply bA | apply bB | apply bC) | exact HB.out)⟩⟩
            · replace c41 := Bool.eq_false_iff.mpr c41
              subst c41
              have H1 : (galoislaw09_awake.j0 k t286 t289 t299 t319 true) = some r := by rw [if_neg (show ¬ (false = true) by decide)] at H; exact H
              clear H
              have H := H1
              clear H1
              as_aux_lemma =>
               have H' := ak H
               clear H
               go_wp2
               go_meet
               case rel => exact ⟨_, (true), (by first | rfl | (simp; done) | (simp [*]; done)), H', ⟨by first | omega | exact Nat.le_refl _⟩, ⟨by (with_reducible repeat (first | apply vA | apply vB | apply vC)); exact Kd.V_mono HO288.out (fun _ hk => trivial)⟩, ⟨by (with_reducible repeat (first | apply vA | apply vB | apply vC)); exact Kd.V_mono HO291.out (fun _ hk => trivial)⟩, ⟨by (with_reducible repeat (first | apply vA | apply vB | apply vC)); exact Kd.V_mono HO301.out (fun _ hk => trivial)⟩, ⟨by (with_reducible repeat (first | apply vA | apply vB | apply vC)); exact Kd.V_mono HO321.out (fun _ hk => trivial)⟩, ⟨by repeat (first | (with_reducible first | exact HB.out | apply bA | apply bB | apply bC) | exact HB.out)⟩⟩
          · rw [if_neg c40] at H
            have c40b0 : (t322 == 0) = false := beq_eq_false_iff_ne.mpr c40
            have c40b1 : (t322 != 0) = true := bne_iff_ne.mpr c40
            as_aux_lemma =>
             have H' := ak H
             clear H
             go_wp2
             go_meet
             case rel => exact ⟨_, (true), (by first | rfl | (simp; done) | (simp [*]; done)), H', ⟨by first | omega | exact Nat.le_refl _⟩, ⟨by (with_reducible repeat (first | apply vA | apply vB | apply vC)); exact Kd.V_mono HO288.out (fun _ hk => trivial)⟩, ⟨by (with_reducible repeat (first | apply vA | apply vB | apply vC)); exact Kd.V_mono HO291.out (fun _ hk => trivial)⟩, ⟨by (with_reducible repeat (first | apply vA | apply vB | apply vC)); exact Kd.V_mono HO301.out (fun _ hk => trivial)⟩, ⟨by (with_reducible repeat (first | apply vA | apply vB | apply vC)); exact Kd.V_mono HO321.out (fun _ hk => trivial)⟩, ⟨by repeat (first | (with_reducible first | exact HB.out | apply bA | apply bB | apply bC) | exact HB.out)⟩⟩
        · rw [if_neg c39] at H
          have c39b0 : (t312 == 0) = false := beq_eq_false_iff_ne.mpr c39
          have c39b1 : (t312 != 0) = true := bne_iff_ne.mpr c39
          as_aux_lemma =>
           have H' := ak H
           clear H
           go_wp2
           go_meet
           case rel => exact ⟨_, (true), (by first | rfl | (simp; done) | (simp [*]; done)), H', ⟨by first | omega | exact Nat.le_refl _⟩, ⟨by (with_reducible repeat (first | apply vA | apply vB | apply vC)); exact Kd.V_mono HO288.out (fun _ hk => trivial)⟩, ⟨by (with_reducible repeat (first | apply vA | apply vB | apply vC)); exact Kd.V_mono HO291.out (fun _ hk => trivial)⟩, ⟨by (with_reducible repeat (first | apply vA | apply vB | apply vC)); exact Kd.V_mono HO301.out (fun _ hk => trivial)⟩, ⟨by (with_reducible repeat (first | apply vA | apply vB | apply vC)); exact Kd.V_mono HO321.out (fun _ hk => trivial)⟩, ⟨by repeat (first | (with_reducible first | exact HB.out | apply bA | apply bB | apply bC) | exact HB.out)⟩⟩
      · rw [if_neg c38] at H
        have c38b0 : (t307 == 0) = false := beq_eq_false_iff_ne.mpr c38
        have c38b1 : (t307 != 0) = true := bne_iff_ne.mpr c38
        as_aux_lemma =>
         have H' := ak H
         clear H
         go_wp2
         go_meet
         case rel => exact ⟨_, (true), (by first | rfl | (simp; done) | (simp [*]; done)), H', ⟨by first | omega | exact Nat.le_refl _⟩, ⟨by (with_reducible repeat (first | apply vA | apply vB | apply vC)); exact Kd.V_mono HO288.out (fun _ hk => trivial)⟩, ⟨by (with_reducible repeat (first | apply vA | apply vB | apply vC)); exact Kd.V_mono HO291.out (fun _ hk => trivial)⟩, ⟨by (with_reducible repeat (first | apply vA | apply vB | apply vC)); exact Kd.V_mono HO301.out (fun _ hk => trivial)⟩, ⟨by (with_reducible repeat (first | apply vA | apply vB | apply vC)); exact Kd.V_mono HO321.out (fun _ hk => trivial)⟩, ⟨by repeat (first | (with_reducible first | exact HB.out | apply bA | apply bB | apply bC) | exact HB.out)⟩⟩
    · rw [if_neg c37] at H
      have c37b0 : (t302 == 0) = false := beq_eq_false_iff_ne.mpr c37
      have c37b1 : (t302 != 0) = true := bne_iff_ne.mpr c37
      as_aux_lemma =>
       have H' := ak H
       clear H
       go_wp2
       go_meet
       case rel => exact ⟨_, (true), (by first | rfl | (simp; done) | (simp [*]; done)), H', ⟨by first | omega | exact Nat.le_refl _⟩, ⟨by (with_reducible repeat (first | apply vA | apply vB | apply vC)); exact Kd.V_mono HO288.out (fun _ hk => trivial)⟩, ⟨by (with_reducible repeat (first | apply vA | apply vB | apply vC)); exact Kd.V_mono HO291.out (fun _ hk => trivial)⟩, ⟨by (with_reducible repeat (first | apply vA | apply vB | apply vC)); exact Kd.V_mono HO301.out (fun _ hk => trivial)⟩, ⟨by (with_reducible repeat (first | apply vA | apply vB | apply vC)); exact Kd.V_mono HO321.out (fun _ hk => trivial)⟩, ⟨by repeat (first | (with_reducible first | exact HB.out | apply bA | apply bB | apply bC) | exact HB.out)⟩⟩
  · rw [if_neg c36] at H
    have c36b0 : (t292 == 0) = false := beq_eq_false_iff_ne.mpr c36
    have c36b1 : (t292 != 0) = true := bne_iff_ne.mpr c36
    (first | rw [c36b0] | (simp only [i64_w, i32_w]; rw [c36b0]) | skip)
    as_aux_lemma =>
     have H' := ak H
     clear H
     go_wp2
     go_meet
     case rel => exact ⟨_, (true), (by first | rfl | (simp; done) | (simp [*]; done)), H', ⟨by first | omega | exact Nat.le_refl _⟩, ⟨by (with_reducible repeat (first | apply vA | apply vB | apply vC)); exact Kd.V_mono HO288.out (fun _ hk => trivial)⟩, ⟨by (with_reducible repeat (first | apply vA | apply vB | apply vC)); exact Kd.V_mono HO291.out (fun _ hk => trivial)⟩, ⟨by (with_reducible repeat (first | apply vA | apply vB | apply vC)); exact Kd.V_mono HO301.out (fun _ hk => trivial)⟩, ⟨by (with_reducible repeat (first | apply vA | apply vB | apply vC)); exact Kd.V_mono HO321.out (fun _ hk => trivial)⟩, ⟨by repeat (first | (with_reducible first | exact HB.out | apply bA | apply bB | apply bC) | exact HB.out)⟩⟩
 case rest =>
  clear HC6
  try clear c1
  try clear c2
  try clear p2
  try clear c3
  try clear c4
  try clear c13
  try clear c14
  try clear c19
  try clear c22
  try clear c31
  try clear c36
  try clear c36b0
  try clear c36b1
  try clear c37
  try clear c37b0
  try clear c37b1
  try clear c38
  try clear c38b0
  try clear c38b1
  try clear c39
  try clear c39b0
  try clear c39b1
  try clear c40
  try clear c40b0
  try clear c40b1
  try clear c41
  obtain ⟨kq, x65_5, rfl, HA, HJ5, HO_1, HO_2, HO_4, HO_10, HB⟩ := hcut
  cases kq with
  | zero => exact absurd HA.out (by simp [galoislaw09_awake.j0])
  | succ kj5 =>
    have H := HA.out
    clear HA
    simp only [galoislaw09_awake.j0] at H
    by_cases c42 : x65_5 = true
    · subst c42
      have H1 : (some false) = some r := by rw [if_pos rfl] at H; exact H
      clear H
      have H := H1
      clear H1
      as_aux_lemma =>
       obtain rfl := Option.some.inj H
       go_wp2
       go_ret
       exact ⟨by first | rfl | (simp [errW_none, errW_some] <;> rfl) | (simp [*, errW_none, errW_some] <;> rfl), by repeat (first | (with_reducible first | exact HB.out | apply bA | apply bB | apply bC) | exact HB.out)⟩
    · replace c42 := Bool.eq_false_iff.mpr c42
      subst c42
      have H1 : ((galoisref09_Same.f kj5 t286 (([4, 1] : List Int))).bind fun t326 => (if t326 = true then ((galoisref09_Same.f kj5 t289 (([3] : List Int))).bind fun t330 => (if t330 = true then ((galoisref09_Same.f kj5 t299 (([1, 1] : List Int))).bind fun t334 => (if t334 = true then ((galoisref09_Same.f kj5 t319 (([1] : List Int))).bind fun t338 => (some t338)) else (some false))) else (some false))) else (some false))) = some r := by rw [if_neg (show ¬ (false = true) by decide)] at H; exact H
      clear H
      have H := H1
      clear H1
      obtain ⟨y323, hy323⟩ : ∃ y_ : List Int, y_ = (([4, 1] : List Int)) := ⟨_, rfl⟩
      replace H : ((galoisref09_Same.f kj5 t286 y323).bind fun t326 => (if t326 = true then ((galoisref09_Same.f kj5 t289 (([3] : List Int))).bind fun t330 => (if t330 = true then ((galoisref09_Same.f kj5 t299 (([1, 1] : List Int))).bind fun t334 => (if t334 = true then ((galoisref09_Same.f kj5 t319 (([1] : List Int))).bind fun t338 => (some t338)) else (some false))) else (some false))) else (some false))) = some r := by first | (rw [hy323]; with_reducible exact H) | (have H2_ := (Option.bind_some _ _).symm.trans H; rw [hy323]; with_reducible exact H2_) | (have H2_ := (Option.bind_some _ _).symm.trans H; with_reducible exact H2_) | with_reducible exact H | (rw [hy323]; exact H) | exact H
      have Ny323 := ak hy323
      clear hy323
      replace H := Option.bind_eq_some_iff.mp H
      obtain ⟨t326, A430, H⟩ := H
      replace H : (if t326 = true then ((galoisref09_Same.f kj5 t289 (([3] : List Int))).bind fun t330 => (if t330 = true then ((galoisref09_Same.f kj5 t299 (([1, 1] : List Int))).bind fun t334 => (if t334 = true then ((galoisref09_Same.f kj5 t319 (([1] : List Int))).bind fun t338 => (some t338)) else (some false))) else (some false))) else (some false)) = some r := H
      have A43 := ak A430
      clear A430
      by_cases c44 : t326 = true
      · subst c44
        have H1 : ((galoisref09_Same.f kj5 t289 (([3] : List Int))).bind fun t330 => (if t330 = true then ((galoisref09_Same.f kj5 t299 (([1, 1] : List Int))).bind fun t334 => (if t334 = true then ((galoisref09_Same.f kj5 t319 (([1] : List Int))).bind fun t338 => (some t338)) else (some false))) else (some false))) = some r := by rw [if_pos rfl] at H; exact H
        clear H
        have H := H1
        clear H1
        obtain ⟨y327, hy327⟩ : ∃ y_ : List Int, y_ = (([3] : List Int)) := ⟨_, rfl⟩
        replace H : ((galoisref09_Same.f kj5 t289 y327).bind fun t330 => (if t330 = true then ((galoisref09_Same.f kj5 t299 (([1, 1] : List Int))).bind fun t334 => (if t334 = true then ((galoisref09_Same.f kj5 t319 (([1] : List Int))).bind fun t338 => (some t338)) else (some false))) else (some false))) = some r := by first | (rw [hy327]; with_reducible exact H) | (have H2_ := (Option.bind_some _ _).symm.trans H; rw [hy327]; with_reducible exact H2_) | (have H2_ := (Option.bind_some _ _).symm.trans H; with_reducible exact H2_) | with_reducible exact H | (rw [hy327]; exact H) | exact H
        have Ny327 := ak hy327
        clear hy327
        replace H := Option.bind_eq_some_iff.mp H
        obtain ⟨t330, A450, H⟩ := H
        replace H : (if t330 = true then ((galoisref09_Same.f kj5 t299 (([1, 1] : List Int))).bind fun t334 => (if t334 = true then ((galoisref09_Same.f kj5 t319 (([1] : List Int))).bind fun t338 => (some t338)) else (some false))) else (some false)) = some r := H
        have A45 := ak A450
        clear A450
        by_cases c46 : t330 = true
        · subst c46
          have H1 : ((galoisref09_Same.f kj5 t299 (([1, 1] : List Int))).bind fun t334 => (if t334 = true then ((galoisref09_Same.f kj5 t319 (([1] : List Int))).bind fun t338 => (some t338)) else (some false))) = some r := by rw [if_pos rfl] at H; exact H
          clear H
          have H := H1
          clear H1
          obtain ⟨y331, hy331⟩ : ∃ y_ : List Int, y_ = (([1, 1] : List Int)) := ⟨_, rfl⟩
          replace H : ((galoisref09_Same.f kj5 t299 y331).bind fun t334 => (if t334 = true then ((galoisref09_Same.f kj5 t319 (([1] : List Int))).bind fun t338 => (some t338)) else (some false))) = some r := by first | (rw [hy331]; with_reducible exact H) | (have H2_ := (Option.bind_some _ _).symm.trans H; rw [hy331]; with_reducible exact H2_) | (have H2_ := (Option.bind_some _ _).symm.trans H; with_reducible exact H2_) | with_reducible exact H | (rw [hy331]; exact H) | exact H
          have Ny331 := ak hy331
          clear hy331
          replace H := Option.bind_eq_some_iff.mp H
          obtain ⟨t334, A470, H⟩ := H
          replace H : (if t334 = true then ((galoisref09_Same.f kj5 t319 (([1] : List Int))).bind fun t338 => (some t338)) else (some false)) = some r := H
          have A47 := ak A470
          clear A470
          by_cases c48 : t334 = true
          · subst c48
            have H1 : ((galoisref09_Same.f kj5 t319 (([1] : List Int))).bind fun t338 => (some t338)) = some r := by rw [if_pos rfl] at H; exact H
            clear H
            have H := H1
            clear H1
            obtain ⟨y335, hy335⟩ : ∃ y_ : List Int, y_ = (([1] : List Int)) := ⟨_, rfl⟩
            replace H : ((galoisref09_Same.f kj5 t319 y335).bind fun t338 => (some t338)) = some r := by first | (rw [hy335]; with_reducible exact H) | (have H2_ := (Option.bind_some _ _).symm.trans H; rw [hy335]; with_reducible exact H2_) | (have H2_ := (Option.bind_some _ _).symm.trans H; with_reducible exact H2_) | with_reducible exact H | (rw [hy335]; exact H) | exact H
            have Ny335 := ak hy335
            clear hy335
            replace H := Option.bind_eq_some_iff.mp H
            obtain ⟨t338, A490, H⟩ := H
            replace H : (some t338) = some r := H
            have A49 := ak A490
            clear A490
            as_aux_lemma =>
             obtain rfl := Option.some.inj H
             go_wp2_with (first | ((with_reducible refine gate_dst (N := 67) rfl ?_); (try (refine gate_guard (by rfl) ?_; dsimp only)); refine Kd.R_lit (Kd.int .i64) _ 3 ?hg (N := 67) ?hd (xs := ([4, 1] : List Int)) (inner := [.int .i64 4, .int .i64 1]) (ok := fun _ => True) (okp := fun _ => True) ?hr ?hp (fun _ hk => hk) trivial (Below.refl _ _) (Nat.le_refl _) (by simp) ?_; (case hd => rfl); (case hg => rfl); (case hr => first | (go_simp; done) | (go_simp; rfl)); (case hp => exact (Reps.one (show Kd.M (Kd.int .i64) _ _ _ 4 [.int .i64 4] from rfl) (Reps.one (show Kd.M (Kd.int .i64) _ _ _ 1 [.int .i64 1] from rfl) (Reps.none _ _)))); intro v324 w50 ho51 hb hg_ hnew_; clear hg_ hnew_; (first | rw [← Ny323.out] at ho51 | (simp only [Int.reduceToNat] at ho51; rw [← Ny323.out] at ho51)); have n0_ := ak (Kd.V_elder' (vX HO_1.out) (Kd.R_base ho51) hb); have n1_ := ak (Kd.V_elder' (vX HO_2.out) (Kd.R_base ho51) hb); have n2_ := ak (Kd.V_elder' (vX HO_4.out) (Kd.R_base ho51) hb); have n3_ := ak (Kd.V_elder' (vX HO_10.out) (Kd.R_base ho51) hb); have n4_ := ak (Kd.R_lower ho51 (below_size bX)); have n5_ := ak (below_step bX hb); clear HO_1; clear HO_2; clear HO_4; clear HO_10; clear HB; have HO_1 := n0_; have HO_2 := n1_; have HO_4 := n2_; have HO_10 := n3_; have HO325 := n4_; have HB := n5_; clear n0_ n1_ n2_ n3_ n4_ n5_; clear hb ho51; obtain ⟨Ao52, co52, eo52⟩ := Kd.V_slice HO_1.out; subst eo52; obtain ⟨Ao53, co53, eo53⟩ := Kd.R_slice HO325.out; subst eo53) | ((with_reducible refine gate_callee (f := 37) rfl ?_); refine goesL_ (some 68) rfl rfl Try.func37 (by kernel_rfl) rfl #[.slice Ao52 t286.length co52, .slice Ao53 y323.length co53] rfl mX ?_; (with_reducible refine (galoisref09_Same.calls kj5 _ _ t286 _ _ y323 true _ ?side1 ?side2 ?side3 ?side4 A43.out).mono ?_); (case side1 => exact cX (Kd.V_reads' HO_1.out).2.2); (case side2 => exact (Kd.V_reads' HO_1.out).2.1); (case side3 => exact cX (Kd.R_reads' HO325.out).2.2); (case side4 => exact (Kd.R_reads' HO325.out).2.1); rintro e w' ⟨rfl, ⟨nd, rfl⟩⟩; refine ⟨_, rfl, ?_⟩) | ((with_reducible refine gate_dst (N := 71) rfl ?_); (try (refine gate_guard (by rfl) ?_; dsimp only)); refine Kd.R_lit (Kd.int .i64) _ 3 ?hg (N := 71) ?hd (xs := ([3] : List Int)) (inner := [.int .i64 3]) (ok := fun _ => True) (okp := fun _ => True) ?hr ?hp (fun _ hk => hk) trivial (Below.refl _ _) (Nat.le_refl _) (by simp) ?_; (case hd => rfl); (case hg => rfl); (case hr => first | (go_simp; done) | (go_simp; rfl)); (case hp => exact (Reps.one (show Kd.M (Kd.int .i64) _ _ _ 3 [.int .i64 3] from rfl) (Reps.none _ _))); intro v328 w54 ho55 hb hg_ hnew_; clear hg_ hnew_; (first | rw [← Ny327.out] at ho55 | (simp only [Int.reduceToNat] at ho55; rw [← Ny327.out] at ho55)); have n0_ := ak (Kd.V_elder' (vX HO_1.out) (Kd.R_base ho55) hb); have n1_ := ak (Kd.V_elder' (vX HO_2.out) (Kd.R_base ho55) hb); have n2_ := ak (Kd.V_elder' (vX HO_4.out) (Kd.R_base ho55) hb); have n3_ := ak (Kd.V_elder' (vX HO_10.out) (Kd.R_base ho55) hb); have n4_ := ak (Kd.R_elder' (rX HO325.out) (Kd.R_base ho55) hb); have n5_ := ak (Kd.R_lower (Kd.R_new' ho55 (Kd.R_lt (rX HO325.out))) (below_size bX)); have n6_ := ak (below_step bX hb); clear HO_1; clear HO_2; clear HO_4; clear HO_10; clear HO325; clear HB; have HO_1 := n0_; have HO_2 := n1_; have HO_4 := n2_; have HO_10 := n3_; have HO325 := n4_; have HO329 := n5_; have HB := n6_; clear n0_ n1_ n2_ n3_ n4_ n5_ n6_; clear hb ho55; obtain ⟨Ao56, co56, eo56⟩ := Kd.V_slice HO_2.out; subst eo56; obtain ⟨Ao57, co57, eo57⟩ := Kd.R_slice HO329.out; subst eo57) | (go_at_call 37; (with_reducible refine (galoisref09_Same.calls kj5 _ _ t289 _ _ y327 true _ ?side1 ?side2 ?side3 ?side4 A45.out).mono ?_); (case side1 => exact cX (Kd.V_reads' HO_2.out).2.2); (case side2 => exact (Kd.V_reads' HO_2.out).2.1); (case side3 => exact cX (Kd.R_reads' HO329.out).2.2); (case side4 => exact (Kd.R_reads' HO329.out).2.1); rintro e w' ⟨rfl, ⟨nd, rfl⟩⟩) | ((with_reducible refine gate_dst (N := 76) rfl ?_); (try (refine gate_guard (by rfl) ?_; dsimp only)); refine Kd.R_lit (Kd.int .i64) _ 3 ?hg (N := 76) ?hd (xs := ([1, 1] : List Int)) (inner := [.int .i64 1, .int .i64 1]) (ok := fun _ => True) (okp := fun _ => True) ?hr ?hp (fun _ hk => hk) trivial (Below.refl _ _) (Nat.le_refl _) (by simp) ?_; (case hd => rfl); (case hg => rfl); (case hr => first | (go_simp; done) | (go_simp; rfl)); (case hp => exact (Reps.one (show Kd.M (Kd.int .i64) _ _ _ 1 [.int .i64 1] from rfl) (Reps.one (show Kd.M (Kd.int .i64) _ _ _ 1 [.int .i64 1] from rfl) (Reps.none _ _)))); intro v332 w58 ho59 hb hg_ hnew_; clear hg_ hnew_; (first | rw [← Ny331.out] at ho59 | (simp only [Int.reduceToNat] at ho59; rw [← Ny331.out] at ho59)); have n0_ := ak (Kd.V_elder' (vX HO_1.out) (Kd.R_base ho59) hb); have n1_ := ak (Kd.V_elder' (vX HO_2.out) (Kd.R_base ho59) hb); have n2_ := ak (Kd.V_elder' (vX HO_4.out) (Kd.R_base ho59) hb); have n3_ := ak (Kd.V_elder' (vX HO_10.out) (Kd.R_base ho59) hb); have n4_ := ak (Kd.R_elder' (rX HO325.out) (Kd.R_base ho59) hb); have n5_ := ak (Kd.R_elder' (rX HO329.out) (Kd.R_base ho59) hb); have n6_ := ak (Kd.R_lower (Kd.R_new' (Kd.R_new' ho59 (Kd.R_lt (rX HO325.out))) (Kd.R_lt (rX HO329.out))) (below_size bX)); have n7_ := ak (below_step bX hb); clear HO_1; clear HO_2; clear HO_4; clear HO_10; clear HO325; clear HO329; clear HB; have HO_1 := n0_; have HO_2 := n1_; have HO_4 := n2_; have HO_10 := n3_; have HO325 := n4_; have HO329 := n5_; have HO333 := n6_; have HB := n7_; clear n0_ n1_ n2_ n3_ n4_ n5_ n6_ n7_; clear hb ho59; obtain ⟨Ao60, co60, eo60⟩ := Kd.V_slice HO_4.out; subst eo60; obtain ⟨Ao61, co61, eo61⟩ := Kd.R_slice HO333.out; subst eo61) | (go_at_call 37; (with_reducible refine (galoisref09_Same.calls kj5 _ _ t299 _ _ y331 true _ ?side1 ?side2 ?side3 ?side4 A47.out).mono ?_); (case side1 => exact cX (Kd.V_reads' HO_4.out).2.2); (case side2 => exact (Kd.V_reads' HO_4.out).2.1); (case side3 => exact cX (Kd.R_reads' HO333.out).2.2); (case side4 => exact (Kd.R_reads' HO333.out).2.1); rintro e w' ⟨rfl, ⟨nd, rfl⟩⟩) | ((with_reducible refine gate_dst (N := 81) rfl ?_); (try (refine gate_guard (by rfl) ?_; dsimp only)); refine Kd.R_lit (Kd.int .i64) _ 3 ?hg (N := 81) ?hd (xs := ([1] : List Int)) (inner := [.int .i64 1]) (ok := fun _ => True) (okp := fun _ => True) ?hr ?hp (fun _ hk => hk) trivial (Below.refl _ _) (Nat.le_refl _) (by simp) ?_; (case hd => rfl); (case hg => rfl); (case hr => first | (go_simp; done) | (go_simp; rfl)); (case hp => exact (Reps.one (show Kd.M (Kd.int .i64) _ _ _ 1 [.int .i64 1] from rfl) (Reps.none _ _))); intro v336 w62 ho63 hb hg_ hnew_; clear hg_ hnew_; (first | rw [← Ny335.out] at ho63 | (simp only [Int.reduceToNat] at ho63; rw [← Ny335.out] at ho63)); have n0_ := ak (Kd.V_elder' (vX HO_1.out) (Kd.R_base ho63) hb); have n1_ := ak (Kd.V_elder' (vX HO_2.out) (Kd.R_base ho63) hb); have n2_ := ak (Kd.V_elder' (vX HO_4.out) (Kd.R_base ho63) hb); have n3_ := ak (Kd.V_elder' (vX HO_10.out) (Kd.R_base ho63) hb); have n4_ := ak (Kd.R_elder' (rX HO325.out) (Kd.R_base ho63) hb); have n5_ := ak (Kd.R_elder' (rX HO329.out) (Kd.R_base ho63) hb); have n6_ := ak (Kd.R_elder' (rX HO333.out) (Kd.R_base ho63) hb); have n7_ := ak (Kd.R_lower (Kd.R_new' (Kd.R_new' (Kd.R_new' ho63 (Kd.R_lt (rX HO325.out))) (Kd.R_lt (rX HO329.out))) (Kd.R_lt (rX HO333.out))) (below_size bX)); have n8_ := ak (below_step bX hb); clear HO_1; clear HO_2; clear HO_4; clear HO_10; clear HO325; clear HO329; clear HO333; clear HB; have HO_1 := n0_; have HO_2 := n1_; have HO_4 := n2_; have HO_10 := n3_; have HO325 := n4_; have HO329 := n5_; have HO333 := n6_; have HO337 := n7_; have HB := n8_; clear n0_ n1_ n2_ n3_ n4_ n5_ n6_ n7_ n8_; clear hb ho63; obtain ⟨Ao64, co64, eo64⟩ := Kd.V_slice HO_10.out; subst eo64; obtain ⟨Ao65, co65, eo65⟩ := Kd.R_slice HO337.out; subst eo65) | (go_at_call 37; (with_reducible refine (galoisref09_Same.calls kj5 _ _ t319 _ _ y335 t338 _ ?side1 ?side2 ?side3 ?side4 A49.out).mono ?_); (case side1 => exact cX (Kd.V_reads' HO_10.out).2.2); (case side2 => exact (Kd.V_reads' HO_10.out).2.1); (case side3 => exact cX (Kd.R_reads' HO337.out).2.2); (case side4 => exact (Kd.R_reads' HO337.out).2.1); rintro e w' ⟨rfl, ⟨nd, rfl⟩⟩))
             go_ret
             exact ⟨by first | rfl | (simp [errW_none, errW_some] <;> rfl) | (simp [*, errW_none, errW_some] <;> rfl), by repeat (first | (with_reducible first | exact HB.out | apply bA | apply bB | apply bC) | exact HB.out)⟩
          · replace c48 := Bool.eq_false_iff.mpr c48
            subst c48
            have H1 : (some false) = some r := by rw [if_neg (show ¬ (false = true) by decide)] at H; exact H
            clear H
            have H := H1
            clear H1
            as_aux_lemma =>
             obtain rfl := Option.some.inj H
             go_wp2_with (first | ((with_reducible refine gate_dst (N := 67) rfl ?_); (try (refine gate_guard (by rfl) ?_; dsimp only)); refine Kd.R_lit (Kd.int .i64) _ 3 ?hg (N := 67) ?hd (xs := ([4, 1] : List Int)) (inner := [.int .i64 4, .int .i64 1]) (ok := fun _ => True) (okp := fun _ => True) ?hr ?hp (fun _ hk => hk) trivial (Below.refl _ _) (Nat.le_refl _) (by simp) ?_; (case hd => rfl); (case hg => rfl); (case hr => first | (go_simp; done) | (go_simp; rfl)); (case hp => exact (Reps.one (show Kd.M (Kd.int .i64) _ _ _ 4 [.int .i64 4] from rfl) (Reps.one (show Kd.M (Kd.int .i64) _ _ _ 1 [.int .i64 1] from rfl) (Reps.none _ _)))); intro v324 w66 ho67 hb hg_ hnew_; clear hg_ hnew_; (first | rw [← Ny323.out] at ho67 | (simp only [Int.reduceToNat] at ho67; rw [← Ny323.out] at ho67)); have n0_ := ak (Kd.V_elder' (vX HO_1.out) (Kd.R_base ho67) hb); have n1_ := ak (Kd.V_elder' (vX HO_2.out) (Kd.R_base ho67) hb); have n2_ := ak (Kd.V_elder' (vX HO_4.out) (Kd.R_base ho67) hb); have n3_ := ak (Kd.V_elder' (vX HO_10.out) (Kd.R_base ho67) hb); have n4_ := ak (Kd.R_lower ho67 (below_size bX)); have n5_ := ak (below_step bX hb); clear HO_1; clear HO_2; clear HO_4; clear HO_10; clear HB; have HO_1 := n0_; have HO_2 := n1_; have HO_4 := n2_; have HO_10 := n3_; have HO325 := n4_; have HB := n5_; clear n0_ n1_ n2_ n3_ n4_ n5_; clear hb ho67; obtain ⟨Ao68, co68, eo68⟩ := Kd.V_slice HO_1.out; subst eo68; obtain ⟨Ao69, co69, eo69⟩ := Kd.R_slice HO325.out; subst eo69) | ((with_reducible refine gate_callee (f := 37) rfl ?_); refine goesL_ (some 68) rfl rfl Try.func37 (by kernel_rfl) rfl #[.slice Ao68 t286.length co68, .slice Ao69 y323.length co69] rfl mX ?_; (with_reducible refine (galoisref09_Same.calls kj5 _ _ t286 _ _ y323 true _ ?side1 ?side2 ?side3 ?side4 A43.out).mono ?_); (case side1 => exact cX (Kd.V_reads' HO_1.out).2.2); (case side2 => exact (Kd.V_reads' HO_1.out).2.1); (case side3 => exact cX (Kd.R_reads' HO325.out).2.2); (case side4 => exact (Kd.R_reads' HO325.out).2.1); rintro e w' ⟨rfl, ⟨nd, rfl⟩⟩; refine ⟨_, rfl, ?_⟩) | ((with_reducible refine gate_dst (N := 71) rfl ?_); (try (refine gate_guard (by rfl) ?_; dsimp only)); refine Kd.R_lit (Kd.int .i64) _ 3 ?hg (N := 71) ?hd (xs := ([3] : List Int)) (inner := [.int .i64 3]) (ok := fun _ => True) (okp := fun _ => True) ?hr ?hp (fun _ hk => hk) trivial (Below.refl _ _) (Nat.le_refl _) (by simp) ?_; (case hd => rfl); (case hg => rfl); (case hr => first | (go_simp; done) | (go_simp; rfl)); (case hp => exact (Reps.one (show Kd.M (Kd.int .i64) _ _ _ 3 [.int .i64 3] from rfl) (Reps.none _ _))); intro v328 w70 ho71 hb hg_ hnew_; clear hg_ hnew_; (first | rw [← Ny327.out] at ho71 | (simp only [Int.reduceToNat] at ho71; rw [← Ny327.out] at ho71)); have n0_ := ak (Kd.V_elder' (vX HO_1.out) (Kd.R_base ho71) hb); have n1_ := ak (Kd.V_elder' (vX HO_2.out) (Kd.R_base ho71) hb); have n2_ := ak (Kd.V_elder' (vX HO_4.out) (Kd.R_base ho71) hb); have n3_ := ak (Kd.V_elder' (vX HO_10.out) (Kd.R_base ho71) hb); have n4_ := ak (Kd.R_elder' (rX HO325.out) (Kd.R_base ho71) hb); have n5_ := ak (Kd.R_lower (Kd.R_new' ho71 (Kd.R_lt (rX HO325.out))) (below_size bX)); have n6_ := ak (below_step bX hb); clear HO_1; clear HO_2; clear HO_4; clear HO_10; clear HO325; clear HB; have HO_1 := n0_; have HO_2 := n1_; have HO_4 := n2_; have HO_10 := n3_; have HO325 := n4_; have HO329 := n5_; have HB := n6_; clear n0_ n1_ n2_ n3_ n4_ n5_ n6_; clear hb ho71; obtain ⟨Ao72, co72, eo72⟩ := Kd.V_slice HO_2.out; subst eo72; obtain ⟨Ao73, co73, eo73⟩ := Kd.R_slice HO329.out; subst eo73) | (go_at_call 37; (with_reducible refine (galoisref09_Same.calls kj5 _ _ t289 _ _ y327 true _ ?side1 ?side2 ?side3 ?side4 A45.out).mono ?_); (case side1 => exact cX (Kd.V_reads' HO_2.out).2.2); (case side2 => exact (Kd.V_reads' HO_2.out).2.1); (case side3 => exact cX (Kd.R_reads' HO329.out).2.2); (case side4 => exact (Kd.R_reads' HO329.out).2.1); rintro e w' ⟨rfl, ⟨nd, rfl⟩⟩) | ((with_reducible refine gate_dst (N := 76) rfl ?_); (try (refine gate_guard (by rfl) ?_; dsimp only)); refine Kd.R_lit (Kd.int .i64) _ 3 ?hg (N := 76) ?hd (xs := ([1, 1] : List Int)) (inner := [.int .i64 1, .int .i64 1]) (ok := fun _ => True) (okp := fun _ => True) ?hr ?hp (fun _ hk => hk) trivial (Below.refl _ _) (Nat.le_refl _) (by simp) ?_; (case hd => rfl); (case hg => rfl); (case hr => first | (go_simp; done) | (go_simp; rfl)); (case hp => exact (Reps.one (show Kd.M (Kd.int .i64) _ _ _ 1 [.int .i64 1] from rfl) (Reps.one (show Kd.M (Kd.int .i64) _ _ _ 1 [.int .i64 1] from rfl) (Reps.none _ _)))); intro v332 w74 ho75 hb hg_ hnew_; clear hg_ hnew_; (first | rw [← Ny331.out] at ho75 | (simp only [Int.reduceToNat] at ho75; rw [← Ny331.out] at ho75)); have n0_ := ak (Kd.V_elder' (vX HO_1.out) (Kd.R_base ho75) hb); have n1_ := ak (Kd.V_elder' (vX HO_2.out) (Kd.R_base ho75) hb); have n2_ := ak (Kd.V_elder' (vX HO_4.out) (Kd.R_base ho75) hb); have n3_ := ak (Kd.V_elder' (vX HO_10.out) (Kd.R_base ho75) hb); have n4_ := ak (Kd.R_elder' (rX HO325.out) (Kd.R_base ho75) hb); have n5_ := ak (Kd.R_elder' (rX HO329.out) (Kd.R_base ho75) hb); have n6_ := ak (Kd.R_lower (Kd.R_new' (Kd.R_new' ho75 (Kd.R_lt (rX HO325.out))) (Kd.R_lt (rX HO329.out))) (below_size bX)); have n7_ := ak (below_step bX hb); clear HO_1; clear HO_2; clear HO_4; clear HO_10; clear HO325; clear HO329; clear HB; have HO_1 := n0_; have HO_2 := n1_; have HO_4 := n2_; have HO_10 := n3_; have HO325 := n4_; have HO329 := n5_; have HO333 := n6_; have HB := n7_; clear n0_ n1_ n2_ n3_ n4_ n5_ n6_ n7_; clear hb ho75; obtain ⟨Ao76, co76, eo76⟩ := Kd.V_slice HO_4.out; subst eo76; obtain ⟨Ao77, co77, eo77⟩ := Kd.R_slice HO333.out; subst eo77) | (go_at_call 37; (with_reducible refine (galoisref09_Same.calls kj5 _ _ t299 _ _ y331 false _ ?side1 ?side2 ?side3 ?side4 A47.out).mono ?_); (case side1 => exact cX (Kd.V_reads' HO_4.out).2.2); (case side2 => exact (Kd.V_reads' HO_4.out).2.1); (case side3 => exact cX (Kd.R_reads' HO333.out).2.2); (case side4 => exact (Kd.R_reads' HO333.out).2.1); rintro e w' ⟨rfl, ⟨nd, rfl⟩⟩))
             go_ret
             exact ⟨by first | rfl | (simp [errW_none, errW_some] <;> rfl) | (simp [*, errW_none, errW_some] <;> rfl), by repeat (first | (with_reducible first | exact HB.out | apply bA | apply bB | apply bC) | exact HB.out)⟩
        · replace c46 := Bool.eq_false_iff.mpr c46
          subst c46
          have H1 : (some false) = some r := by rw [if_neg (show ¬ (false = true) by decide)] at H; exact H
          clear H
          have H := H1
          clear H1
          as_aux_lemma =>
           obtain rfl := Option.some.inj H
           go_wp2_with (first | ((with_reducible refine gate_dst (N := 67) rfl ?_); (try (refine gate_guard (by rfl) ?_; dsimp only)); refine Kd.R_lit (Kd.int .i64) _ 3 ?hg (N := 67) ?hd (xs := ([4, 1] : List Int)) (inner := [.int .i64 4, .int .i64 1]) (ok := fun _ => True) (okp := fun _ => True) ?hr ?hp (fun _ hk => hk) trivial (Below.refl _ _) (Nat.le_refl _) (by simp) ?_; (case hd => rfl); (case hg => rfl); (case hr => first | (go_simp; done) | (go_simp; rfl)); (case hp => exact (Reps.one (show Kd.M (Kd.int .i64) _ _ _ 4 [.int .i64 4] from rfl) (Reps.one (show Kd.M (Kd.int .i64) _ _ _ 1 [.int .i64 1] from rfl) (Reps.none _ _)))); intro v324 w78 ho79 hb hg_ hnew_; clear hg_ hnew_; (first | rw [← Ny323.out] at ho79 | (simp only [Int.reduceToNat] at ho79; rw [← Ny323.out] at ho79)); have n0_ := ak (Kd.V_elder' (vX HO_1.out) (Kd.R_base ho79) hb); have n1_ := ak (Kd.V_elder' (vX HO_2.out) (Kd.R_base ho79) hb); have n2_ := ak (Kd.V_elder' (vX HO_4.out) (Kd.R_base ho79) hb); have n3_ := ak (Kd.V_elder' (vX HO_10.out) (Kd.R_base ho79) hb); have n4_ := ak (Kd.R_lower ho79 (below_size bX)); have n5_ := ak (below_step bX hb); clear HO_1; clear HO_2; clear HO_4; clear HO_10; clear HB; have HO_1 := n0_; have HO_2 := n1_; have HO_4 := n2_; have HO_10 := n3_; have HO325 := n4_; have HB := n5_; clear n0_ n1_ n2_ n3_ n4_ n5_; clear hb ho79; obtain ⟨Ao80, co80, eo80⟩ := Kd.V_slice HO_1.out; subst eo80; obtain ⟨Ao81, co81, eo81⟩ := Kd.R_slice HO325.out; subst eo81) | ((with_reducible refine gate_callee (f := 37) rfl ?_); refine goesL_ (some 68) rfl rfl Try.func37 (by kernel_rfl) rfl #[.slice Ao80 t286.length co80, .slice Ao81 y323.length co81] rfl mX ?_; (with_reducible refine (galoisref09_Same.calls kj5 _ _ t286 _ _ y323 true _ ?side1 ?side2 ?side3 ?side4 A43.out).mono ?_); (case side1 => exact cX (Kd.V_reads' HO_1.out).2.2); (case side2 => exact (Kd.V_reads' HO_1.out).2.1); (case side3 => exact cX (Kd.R_reads' HO325.out).2.2); (case side4 => exact (Kd.R_reads' HO325.out).2.1); rintro e w' ⟨rfl, ⟨nd, rfl⟩⟩; refine ⟨_, rfl, ?_⟩) | ((with_reducible refine gate_dst (N := 71) rfl ?_); (try (refine gate_guard (by rfl) ?_; dsimp only)); refine Kd.R_lit (Kd.int .i64) _ 3 ?hg (N := 71) ?hd (xs := ([3] : List Int)) (inner := [.int .i64 3]) (ok := fun _ => True) (okp := fun _ => True) ?hr ?hp (fun _ hk => hk) trivial (Below.refl _ _) (Nat.le_refl _) (by simp) ?_; (case hd => rfl); (case hg => rfl); (case hr => first | (go_simp; done) | (go_simp; rfl)); (case hp => exact (Reps.one (show Kd.M (Kd.int .i64) _ _ _ 3 [.int .i64 3] from rfl) (Reps.none _ _))); intro v328 w82 ho83 hb hg_ hnew_; clear hg_ hnew_; (first | rw [← Ny327.out] at ho83 | (simp only [Int.reduceToNat] at ho83; rw [← Ny327.out] at ho83)); have n0_ := ak (Kd.V_elder' (vX HO_1.out) (Kd.R_base ho83) hb); have n1_ := ak (Kd.V_elder' (vX HO_2.out) (Kd.R_base ho83) hb); have n2_ := ak (Kd.V_elder' (vX HO_4.out) (Kd.R_base ho83) hb); have n3_ := ak (Kd.V_elder' (vX HO_10.out) (Kd.R_base ho83) hb); have n4_ := ak (Kd.R_elder' (rX HO325.out) (Kd.R_base ho83) hb); have n5_ := ak (Kd.R_lower (Kd.R_new' ho83 (Kd.R_lt (rX HO325.out))) (below_size bX)); have n6_ := ak (below_step bX hb); clear HO_1; clear HO_2; clear HO_4; clear HO_10; clear HO325; clear HB; have HO_1 := n0_; have HO_2 := n1_; have HO_4 := n2_; have HO_10 := n3_; have HO325 := n4_; have HO329 := n5_; have HB := n6_; clear n0_ n1_ n2_ n3_ n4_ n5_ n6_; clear hb ho83; obtain ⟨Ao84, co84, eo84⟩ := Kd.V_slice HO_2.out; subst eo84; obtain ⟨Ao85, co85, eo85⟩ := Kd.R_slice HO329.out; subst eo85) | (go_at_call 37; (with_reducible refine (galoisref09_Same.calls kj5 _ _ t289 _ _ y327 false _ ?side1 ?side2 ?side3 ?side4 A45.out).mono ?_); (case side1 => exact cX (Kd.V_reads' HO_2.out).2.2); (case side2 => exact (Kd.V_reads' HO_2.out).2.1); (case side3 => exact cX (Kd.R_reads' HO329.out).2.2); (case side4 => exact (Kd.R_reads' HO329.out).2.1); rintro e w' ⟨rfl, ⟨nd, rfl⟩⟩))
           go_ret
           exact ⟨by first | rfl | (simp [errW_none, errW_some] <;> rfl) | (simp [*, errW_none, errW_some] <;> rfl), by repeat (first | (with_reducible first | exact HB.out | apply bA | apply bB | apply bC) | exact HB.out)⟩
      · replace c44 := Bool.eq_false_iff.mpr c44
        subst c44
        have H1 : (some false) = some r := by rw [if_neg (show ¬ (false = true) by decide)] at H; exact H
        clear H
        have H := H1
        clear H1
        as_aux_lemma =>
         obtain rfl := Option.some.inj H
         go_wp2_with (first | ((with_reducible refine gate_dst (N := 67) rfl ?_); (try (refine gate_guard (by rfl) ?_; dsimp only)); refine Kd.R_lit (Kd.int .i64) _ 3 ?hg (N := 67) ?hd (xs := ([4, 1] : List Int)) (inner := [.int .i64 4, .int .i64 1]) (ok := fun _ => True) (okp := fun _ => True) ?hr ?hp (fun _ hk => hk) trivial (Below.refl _ _) (Nat.le_refl _) (by simp) ?_; (case hd => rfl); (case hg => rfl); (case hr => first | (go_simp; done) | (go_simp; rfl)); (case hp => exact (Reps.one (show Kd.M (Kd.int .i64) _ _ _ 4 [.int .i64 4] from rfl) (Reps.one (show Kd.M (Kd.int .i64) _ _ _ 1 [.int .i64 1] from rfl) (Reps.none _ _)))); intro v324 w86 ho87 hb hg_ hnew_; clear hg_ hnew_; (first | rw [← Ny323.out] at ho87 | (simp only [Int.reduceToNat] at ho87; rw [← Ny323.out] at ho87)); have n0_ := ak (Kd.V_elder' (vX HO_1.out) (Kd.R_base ho87) hb); have n1_ := ak (Kd.V_elder' (vX HO_2.out) (Kd.R_base ho87) hb); have n2_ := ak (Kd.V_elder' (vX HO_4.out) (Kd.R_base ho87) hb); have n3_ := ak (Kd.V_elder' (vX HO_10.out) (Kd.R_base ho87) hb); have n4_ := ak (Kd.R_lower ho87 (below_size bX)); have n5_ := ak (below_step bX hb); clear HO_1; clear HO_2; clear HO_4; clear HO_10; clear HB; have HO_1 := n0_; have HO_2 := n1_; have HO_4 := n2_; have HO_10 := n3_; have HO325 := n4_; have HB := n5_; clear n0_ n1_ n2_ n3_ n4_ n5_; clear hb ho87; obtain ⟨Ao88, co88, eo88⟩ := Kd.V_slice HO_1.out; subst eo88; obtain ⟨Ao89, co89, eo89⟩ := Kd.R_slice HO325.out; subst eo89) | ((with_reducible refine gate_callee (f := 37) rfl ?_); refine goesL_ (some 68) rfl rfl Try.func37 (by kernel_rfl) rfl #[.slice Ao88 t286.length co88, .slice Ao89 y323.length co89] rfl mX ?_; (with_reducible refine (galoisref09_Same.calls kj5 _ _ t286 _ _ y323 false _ ?side1 ?side2 ?side3 ?side4 A43.out).mono ?_); (case side1 => exact cX (Kd.V_reads' HO_1.out).2.2); (case side2 => exact (Kd.V_reads' HO_1.out).2.1); (case side3 => exact cX (Kd.R_reads' HO325.out).2.2); (case side4 => exact (Kd.R_reads' HO325.out).2.1); rintro e w' ⟨rfl, ⟨nd, rfl⟩⟩; refine ⟨_, rfl, ?_⟩))
         go_ret
         exact ⟨by first | rfl | (simp [errW_none, errW_some] <;> rfl) | (simp [*, errW_none, errW_some] <;> rfl), by repeat (first | (with_reducible first | exact HB.out | apply bA | apply bB | apply bC) | exact HB.out)⟩

/-! ### galoisref04_IsPrime: function 100 -/
def galoisref04_IsPrime.l0 : Nat → Int → Int → Option (Bool)
 | 0, _, _ => none
 | k + 1, x0, x3 => if (wrap64 (x3 * x3)) ≤ x0 then (if x3 = 0 then (none) else (if (Int.tmod x0 x3) = 0 then (some false) else (galoisref04_IsPrime.l0 k x0 (wrap64 (x3 + 1))))) else (some (decide (x0 > 1)))
def galoisref04_IsPrime.f (k : Nat) (a0 : Int) : Option (Bool) := galoisref04_IsPrime.l0 k a0 2
theorem galoisref04_IsPrime.mono_l : ∀ k, (∀ y0 y1, LeO (galoisref04_IsPrime.l0 k y0 y1) (galoisref04_IsPrime.l0 (k + 1) y0 y1))
 | 0 => fun _ _ r h => by simp [galoisref04_IsPrime.l0] at h
 | k + 1 => by
   have ih0 := galoisref04_IsPrime.mono_l k
   · intro y0 y1
     unfold galoisref04_IsPrime.l0
     repeat' first
     | (with_reducible apply ih0)
     | (with_reducible apply LeO.refl)
     | (with_reducible apply LeO.none)
     | (with_reducible refine LeO.ite ?_ ?_)
     | (with_reducible refine LeO.bind ?_ (fun _ => ?_))
theorem galoisref04_IsPrime.mono : ∀ a0 k, LeO (galoisref04_IsPrime.f k a0) (galoisref04_IsPrime.f (k + 1) a0) := by
 intro a0 k
 have ih0 := galoisref04_IsPrime.mono_l k
 unfold galoisref04_IsPrime.f
 repeat' first
  | (with_reducible apply ih0)
  | (with_reducible apply LeO.refl)
  | (with_reducible apply LeO.none)
  | (with_reducible refine LeO.ite ?_ ?_)
  | (with_reducible refine LeO.bind ?_ (fun _ => ?_))
set_option maxHeartbeats 8000000 in
set_option maxRecDepth 100000 in
theorem galoisref04_IsPrime.calls (k : Nat) (a0 : Int) (r : Bool) (w : World) (h : galoisref04_IsPrime.f k a0 = some r) :
 Calls Try.prog 100 #[.int .i64 a0] w fun e w' => e = .returned (.bool r) ∧ Drawn0 w w' := by
 have H : (galoisref04_IsPrime.l0 k a0 2) = some r := h
 clear h
 have H' := ak H
 clear H
 go_enter Try.func100, Try.ntmps100
 go_wp2
 go_loopg [3] k (fun kq v3 w' => ∃ (x3_1 : Int), v3 = .int .i64 x3_1 ∧ Aside0 (galoisref04_IsPrime.l0 kq a0 x3_1 = some r) ∧ Aside0 (kq ≤ k) ∧ Drawn0 w w')
 case atStart => exact ⟨(2), (by first | rfl | (simp; done) | (simp [*]; done)), H', ⟨Nat.le_refl _⟩, by repeat (first | exact Drawn0.refl _ | apply Drawn0.step)⟩
 case round =>
  clear H'
  try clear c1
  obtain ⟨x3_1, rfl, HA, HK1, ⟨m1, rfl⟩⟩ := hrel
  cases gk with
  | zero => exact absurd HA.out (by simp [galoisref04_IsPrime.l0])
  | succ k1 =>
    have H := HA.out
    clear HA
    simp only [galoisref04_IsPrime.l0] at H
    by_cases c2 : (wrap64 (x3_1 * x3_1)) ≤ a0
    · rw [if_pos c2] at H
      have c2b0 : decide ((wrap64 (x3_1 * x3_1)) ≤ a0) = true := decide_eq_true c2
      clear c2
      by_cases c3 : x3_1 = 0
      · rw [if_pos c3] at H
        exact absurd H (by simp)
      · rw [if_neg c3] at H
        have c3b0 : (x3_1 == 0) = false := beq_eq_false_iff_ne.mpr c3
        have c3b1 : (x3_1 != 0) = true := bne_iff_ne.mpr c3
        by_cases c4 : (Int.tmod a0 x3_1) = 0
        · rw [if_pos c4] at H
          have c4b0 : ((Int.tmod a0 x3_1) == 0) = true := beq_iff_eq.mpr c4
          have c4b1 : ((Int.tmod a0 x3_1) != 0) = false := bne_eq_false_iff_eq.mpr c4
          clear c4
          as_aux_lemma =>
           obtain rfl := Option.some.inj H
           go_wp2
           go_ret
           exact ⟨by first | rfl | (simp; done) | (simp [*]; done), by repeat (first | exact Drawn0.refl _ | apply Drawn0.step)⟩
        · rw [if_neg c4] at H
          have c4b0 : ((Int.tmod a0 x3_1) == 0) = false := beq_eq_false_iff_ne.mpr c4
          have c4b1 : ((Int.tmod a0 x3_1) != 0) = true := bne_iff_ne.mpr c4
          as_aux_lemma =>
           have H' := ak H
           clear H
           go_wp2
           (first | go_roundg k1 | (refine Handed.intro k1 ?measure ?_; rotate_left; go_step; (repeat rw [add_plain]); (repeat apply Exists.intro); refine ⟨?rel, rfl⟩))
           case measure => have := HK1.out; omega
           case rel => exact ⟨(wrap64 (x3_1 + 1)), (by first | rfl | (simp; done) | (simp [*]; done)), H', ⟨by have := HK1.out; omega⟩, by repeat (first | exact Drawn0.refl _ | apply Drawn0.step)⟩
    · rw [if_neg c2] at H
      have c2b0 : decide ((wrap64 (x3_1 * x3_1)) ≤ a0) = false := decide_eq_false c2
      clear c2
      as_aux_lemma =>
       obtain rfl := Option.some.inj H
       go_wp2
       go_ret
       exact ⟨by first | rfl | (simp; done) | (simp [*]; done), by repeat (first | exact Drawn0.refl _ | apply Drawn0.step)⟩

/-! ### galoisref09_IsPrime: function 55 -/
def galoisref09_IsPrime.f (k : Nat) (a0 : Int) : Option (Bool) := if a0 ≥ 2 then (if a0 ≤ 65521 then ((galoisref04_IsPrime.f k a0).bind fun t339 => (some t339)) else (some false)) else (some false)
theorem galoisref09_IsPrime.mono : ∀ a0 k, LeO (galoisref09_IsPrime.f k a0) (galoisref09_IsPrime.f (k + 1) a0) := by
 intro a0 k
 unfold galoisref09_IsPrime.f
 repeat' first
  | (with_reducible apply galoisref04_IsPrime.mono)
  | (with_reducible apply LeO.refl)
  | (with_reducible apply LeO.none)
  | (with_reducible refine LeO.ite ?_ ?_)
  | (with_reducible refine LeO.bind ?_ (fun _ => ?_))
set_option maxHeartbeats 8000000 in
set_option maxRecDepth 100000 in
theorem galoisref09_IsPrime.calls (k : Nat) (a0 : Int) (r : Bool) (w : World) (h : galoisref09_IsPrime.f k a0 = some r) :
 Calls Try.prog 55 #[.int .i64 a0] w fun e w' => e = .returned (.bool r) ∧ Drawn0 w w' := by
 have H : (if a0 ≥ 2 then (if a0 ≤ 65521 then ((galoisref04_IsPrime.f k a0).bind fun t339 => (some t339)) else (some false)) else (some false)) = some r := h
 clear h
 by_cases c2 : a0 ≥ 2
 · rw [if_pos c2] at H
   have c2b0 : decide (2 ≤ a0) = true := decide_eq_true c2
   clear c2
   by_cases c3 : a0 ≤ 65521
   · rw [if_pos c3] at H
     have c3b0 : decide (a0 ≤ 65521) = true := decide_eq_true c3
     clear c3
     replace H := Option.bind_eq_some_iff.mp H
     obtain ⟨t339, A40, H⟩ := H
     replace H : (some t339) = some r := H
     have A4 := ak A40
     clear A40
     as_aux_lemma =>
      obtain rfl := Option.some.inj H
      go_enter Try.func55, Try.ntmps55
      go_wp2_with (first | (go_at_call 100; (with_reducible refine (galoisref04_IsPrime.calls k a0 t339 _ A4.out).mono ?_); rintro e w' ⟨rfl, ⟨nd, rfl⟩⟩))
      go_ret
      exact ⟨by first | rfl | (simp; done) | (simp [*]; done), by repeat (first | exact Drawn0.refl _ | apply Drawn0.step)⟩
   · rw [if_neg c3] at H
     have c3b0 : decide (a0 ≤ 65521) = false := decide_eq_false c3
     clear c3
     as_aux_lemma =>
      obtain rfl := Option.some.inj H
      go_enter Try.func55, Try.ntmps55
      go_wp2
      go_ret
      exact ⟨by first | rfl | (simp; done) | (simp [*]; done), by repeat (first | exact Drawn0.refl _ | apply Drawn0.step)⟩
 · rw [if_neg c2] at H
   have c2b0 : decide (2 ≤ a0) = false := decide_eq_false c2
   clear c2
   as_aux_lemma =>
    obtain rfl := Option.some.inj H
    go_enter Try.func55, Try.ntmps55
    go_wp2
    go_ret
    exact ⟨by first | rfl | (simp; done) | (simp [*]; done), by repeat (first | exact Drawn0.refl _ | apply Drawn0.step)⟩

end Go.Proofs.Ytmknclgamadphaa.PPolymodPrimes
