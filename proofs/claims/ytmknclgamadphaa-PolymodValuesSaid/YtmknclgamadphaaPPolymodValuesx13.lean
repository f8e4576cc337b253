-- WRITTEN BY sprint.py (a program of this repo, over the kit's print.py): nothing here is trusted, Lean checks it.
import Derived.Test.YtmknclgamadphaaPPolymodValuesx0
import Derived.Test.YtmknclgamadphaaPPolymodValuesx9
import Derived.Test.YtmknclgamadphaaPPolymodValuesx11
import Derived.Test.YtmknclgamadphaaPPolymodValuesx12
namespace Go.Proofs.Ytmknclgamadphaa.PPolymodValues
open Go.RowKit Go.Proofs.YtmknclgamadphaaW.PrintWords Go.Proofs.YtmknclgamadphaaW.PrintLast Go.Proofs.YtmknclgamadphaaW.PrintMore
attribute [local go_sem] max2_int min2_int max_two min_two max_three min_three max_four min_four   -- for this text's walks alone
set_option linter.unusedVariables false
set_option linter.unusedSimpArgs false

/-! ### galoisref09_Compose: function 46 -/
def galoisref09_Compose.l0 : Nat → Int → List Int → List Int → List Int → Int → Option (List Int)
 | 0, _, _, _, _, _ => none
 | k + 1, x0, x1, x2, x7, x8 => if x8 ≥ 0 then ((galoisref09_Mul.f k x0 x7 x2).bind fun t464 => (if 0 ≤ x8 then (if x8 < (x1.length : Int) then ((galoisref09_Trim.f k (([rd x1 x8] : List Int))).bind fun t471 => ((galoisref09_Add.f k x0 t464 t471).bind fun t474 => (galoisref09_Compose.l0 k x0 x1 x2 t474 (wrap64 (x8 - 1))))) else (none)) else (none))) else (some x7)
def galoisref09_Compose.f (k : Nat) (a0 : Int) (l1 : List Int) (l2 : List Int) : Option (List Int) := galoisref09_Compose.l0 k a0 l1 l2 ([] : List Int) (wrap64 ((l1.length : Int) - 1))
theorem galoisref09_Compose.mono_l : ∀ k, (∀ y0 y1 y2 y3 y4, LeO (galoisref09_Compose.l0 k y0 y1 y2 y3 y4) (galoisref09_Compose.l0 (k + 1) y0 y1 y2 y3 y4))
 | 0 => fun _ _ _ _ _ r h => by simp [galoisref09_Compose.l0] at h
 | k + 1 => by
   have ih0 := galoisref09_Compose.mono_l k
   · intro y0 y1 y2 y3 y4
     unfold galoisref09_Compose.l0
     repeat' first
     | (with_reducible apply ih0)
     | (with_reducible apply galoisref09_Add.mono)
     | (with_reducible apply galoisref09_Mul.mono)
     | (with_reducible apply galoisref09_Trim.mono)
     | (with_reducible apply LeO.refl)
     | (with_reducible apply LeO.none)
     | (with_reducible refine LeO.ite ?_ ?_)
     | (with_reducible refine LeO.bind ?_ (fun _ => ?_))
theorem galoisref09_Compose.mono : ∀ a0 a1 a2 k, LeO (galoisref09_Compose.f k a0 a1 a2) (galoisref09_Compose.f (k + 1) a0 a1 a2) := by
 intro a0 a1 a2 k
 have ih0 := galoisref09_Compose.mono_l k
 unfold galoisref09_Compose.f
 repeat' first
  | (with_reducible apply ih0)
  | (with_reducible apply galoisref09_Add.mono)
  | (with_reducible apply galoisref09_Mul.mono)
  | (with_reducible apply galoisref09_Trim.mono)
  | (with_reducible apply LeO.refl)
  | (with_reducible apply LeO.none)
  | (with_reducible refine LeO.ite ?_ ?_)
  | (with_reducible refine LeO.bind ?_ (fun _ => ?_))
def galoisref09_Compose.T5 : Bool × List (List Nat × List Nat) := (true, [([], []), ([], []), ([], []), ([], []), ([1, 2, 3], [1, 2, 3]), ([], []), ([], []), ([5, 6], [5, 6]), ([7], [7]), ([8], [8]), ([9, 4], [9]), ([0, 4, 10, 10], [0, 4, 10]), ([11, 11, 0, 1, 2, 3, 4, 5, 6, 7, 8, 9, 10, 11], [2, 11])])
def galoisref09_Compose.B5 : List Nat := [0, 0, 0, 0, 14, 0, 0, 96, 224, 480, 1022, 2047, 4095]
theorem galoisref09_Compose.tab5 : rtab .any (opsOf Try.f46 5) = galoisref09_Compose.T5 := by kernel_rfl
theorem galoisref09_Compose.bits5 : waitsOk galoisref09_Compose.T5.2 galoisref09_Compose.B5 = true := by kernel_rfl
set_option maxHeartbeats 8000000 in
set_option maxRecDepth 100000 in
theorem galoisref09_Compose.calls (k : Nat) (a0 : Int) (A1 : Option Addr) (c1 : Nat) (l1 : List Int) (A2 : Option Addr) (c2 : Nat) (l2 : List Int) (r : List Int) (w : World) (hr1 : Kd.C (Kd.int .i64) w A1 l1.length l1) (hc1 : l1.length ≤ c1) (hr2 : Kd.C (Kd.int .i64) w A2 l2.length l2) (hc2 : l2.length ≤ c2) (h : galoisref09_Compose.f k a0 l1 l2 = some r) :
 Calls Try.prog 46 #[.int .i64 a0, .slice A1 l1.length c1, .slice A2 l2.length c2] w fun e w' => ∃ v0_ : Value, e = .returned (v0_) ∧ Kd.V (Kd.int .i64) 3 w' w.heap.size (fun k_ => (w.heap.size ≤ k_)) v0_ r ∧ Below w.heap.size w w' := by
 have HR1 := Aside0.mk hr1
 have HC1 := Aside0.mk hc1
 clear hr1 hc1
 have HR2 := Aside0.mk hr2
 have HC2 := Aside0.mk hc2
 clear hr2 hc2
 have HB := Aside0.mk (Below.refl w.heap.size w)
 have H : (galoisref09_Compose.l0 k a0 l1 l2 ([] : List Int) (wrap64 ((l1.length : Int) - 1))) = some r := h
 clear h
 have H' := Aside0.mk H
 clear H
 go_enter Try.func46, Try.ntmps46
 go_wp2
 go_loopg [7, 8] k (fun kq v7 v8 w' => ∃ (x7_1 : List Int) (x8_1 : Int), v8 = .int .i64 x8_1 ∧ Aside0 (galoisref09_Compose.l0 kq a0 l1 l2 x7_1 x8_1 = some r) ∧ Aside0 (kq ≤ k) ∧ Aside0 (Kd.V (Kd.int .i64) 3 w' w.heap.size (fun k_ => (w.heap.size ≤ k_)) v7 x7_1) ∧ Aside0 (Below w.heap.size w w'))
 case atStart => exact ⟨(([] : List Int)), (wrap64 ((l1.length : Int) - 1)), (by first | rfl | (simp; done) | (simp [*]; done)), H', ⟨Nat.le_refl _⟩, ⟨Kd.V_nil _ _ _ _ _⟩, ⟨by with_reducible repeat (first | exact HB.out | apply bA | apply bB | apply bC)⟩⟩
 case round =>
  clear H'
  try clear c1
  try clear c2
  try clear p2
  obtain ⟨x7_1, x8_1, rfl, HA, HK1, HO_7, HB⟩ := hrel
  cases gk with
  | zero => exact absurd HA.out (by simp [galoisref09_Compose.l0])
  | succ k1 =>
    have H := HA.out
    clear HA
    simp only [galoisref09_Compose.l0] at H
    by_cases c4 : x8_1 ≥ 0
    · rw [if_pos c4] at H
      have c4b0 : decide (0 ≤ x8_1) = true := decide_eq_true c4
      clear c4
      replace H := Option.bind_eq_some_iff.mp H
      obtain ⟨t464, A50, H⟩ := H
      replace H : (if 0 ≤ x8_1 then (if x8_1 < (l1.length : Int) then ((galoisref09_Trim.f k1 (([rd l1 x8_1] : List Int))).bind fun t471 => ((galoisref09_Add.f k1 a0 t464 t471).bind fun t474 => (galoisref09_Compose.l0 k1 a0 l1 l2 t474 (wrap64 (x8_1 - 1))))) else (none)) else (none)) = some r := H
      have A5 := Aside0.mk A50
      clear A50
      by_cases c6 : 0 ≤ x8_1
      · rw [if_pos c6] at H
        have c6b0 : decide (0 ≤ x8_1) = true := decide_eq_true c6
        clear c6
        by_cases c7 : x8_1 < (l1.length : Int)
        · rw [if_pos c7] at H
          have c7b0 : decide (x8_1 < (l1.length : Int)) = true := decide_eq_true c7
          clear c7
          obtain ⟨y468, hy468⟩ : ∃ y_ : List Int, y_ = (([rd l1 x8_1] : List Int)) := ⟨_, rfl⟩
          replace H : ((galoisref09_Trim.f k1 y468).bind fun t471 => ((galoisref09_Add.f k1 a0 t464 t471).bind fun t474 => (galoisref09_Compose.l0 k1 a0 l1 l2 t474 (wrap64 (x8_1 - 1))))) = some r := by first | (rw [hy468]; with_reducible exact H) | (have H2_ := (Option.bind_some _ _).symm.trans H; rw [hy468]; with_reducible exact H2_) | (have H2_ := (Option.bind_some _ _).symm.trans H; with_reducible exact H2_) | with_reducible exact H | (rw [hy468]; exact H) | exact H
          have Ny468 := Aside0.mk hy468
          clear hy468
          replace H := Option.bind_eq_some_iff.mp H
          obtain ⟨t471, A80, H⟩ := H
          replace H : ((galoisref09_Add.f k1 a0 t464 t471).bind fun t474 => (galoisref09_Compose.l0 k1 a0 l1 l2 t474 (wrap64 (x8_1 - 1)))) = some r := H
          have A8 := Aside0.mk A80
          clear A80
          replace H := Option.bind_eq_some_iff.mp H
          obtain ⟨t474, A90, H⟩ := H
          replace H : (galoisref09_Compose.l0 k1 a0 l1 l2 t474 (wrap64 (x8_1 - 1))) = some r := H
          have A9 := Aside0.mk A90
          clear A90
          have H' := Aside0.mk H
          clear H
          obtain ⟨Ao10, co10, eo10⟩ := Kd.V_slice HO_7.out
          subst eo10
          try go_wp2
          have n0_ := Aside0.mk (Kd.V_drew HO_7.out)
          have n1_ := Aside0.mk (below_drew1 HB.out)
          clear HO_7
          clear HB
          have HO_7 := n0_
          have HB := n1_
          clear n0_ n1_
          have p467 : 0 ≤ (x8_1 : Int) := of_decide_eq_true (by first | (with_reducible assumption) | assumption)
          have q467 : x8_1 < (l1.length : Int) := of_decide_eq_true (by first | (with_reducible assumption) | assumption)
          obtain ⟨ad467, e467, hx467_0⟩ := Kd.at_int HR1.out x8_1 p467 q467
          have hw467_0 := hx467_0
          cases e467
          replace hx467_0 := (HB.out.cell (World.block_lt_of_cell? w _ hx467_0)).trans hx467_0
          replace p467 := eq_true p467
          replace q467 := eq_true q467
          refine start_ (n := 13) (S := fun w' => w'.cell? (ad467.add (x8_1).toNat) = some (.int .i64 (rd l1 x8_1))) (ds := []) #[false, false, false, false, false, false, false, false, false, false, false, false, false] (by kernel_rfl) rfl rfl (((HB.out.cell (World.block_lt_of_cell? w _ hw467_0)).trans hw467_0)) (fun hHeld => ?_); refine with_tabW galoisref09_Compose.tab5 galoisref09_Compose.bits5 (fun HT_ HW_ => ?_)
          generalize wr.drew = w11 at HO_7 HB hx467_0 hHeld ⊢
          refine pure_ (i := 0) (N := some 16) (v := ?_) (a' := ?_) #[true, false, false, false, false, false, false, false, false, false, false, false, false] rfl rfl (any_of HT_.out (by kernel_rfl)) (fun _ _ _ h => h) (Or.inl ⟨by rfl, ?_⟩) ?_ ?_
          rotate_left
          · intro w'
            go_simp
            with_reducible rfl
          rotate_left
          · simp only [Act.put, List.setIfInBounds_toArray, List.set_cons_zero, List.set_cons_succ, i64_w, i32_w]
            rfl
          refine pure_ (i := 1) (N := some 17) (v := ?_) (a' := ?_) #[true, true, false, false, false, false, false, false, false, false, false, false, false] rfl rfl (any_of HT_.out (by kernel_rfl)) (fun _ _ _ h => h) (Or.inl ⟨by rfl, ?_⟩) ?_ ?_
          rotate_left
          · intro w'
            go_simp
            with_reducible rfl
          rotate_left
          · simp only [Act.put, List.setIfInBounds_toArray, List.set_cons_zero, List.set_cons_succ, i64_w, i32_w]
            rfl
          refine pure_ (i := 2) (N := some 18) (v := ?_) (a' := ?_) #[true, true, true, false, false, false, false, false, false, false, false, false, false] rfl rfl (any_of HT_.out (by kernel_rfl)) (fun _ _ _ h => h) (Or.inl ⟨by rfl, ?_⟩) ?_ ?_
          rotate_left
          · intro w'
            go_simp
            with_reducible rfl
          rotate_left
          · simp only [Act.put, List.setIfInBounds_toArray, List.set_cons_zero, List.set_cons_succ, i64_w, i32_w]
            rfl
          refine pure_ (i := 3) (N := some 19) (v := ?_) (a' := ?_) #[true, true, true, true, false, false, false, false, false, false, false, false, false] rfl rfl (any_of HT_.out (by kernel_rfl)) (fun _ _ _ h => h) (Or.inl ⟨by rfl, ?_⟩) ?_ ?_
          rotate_left
          · intro w'
            go_simp
            with_reducible rfl
          rotate_left
          · simp only [Act.put, List.setIfInBounds_toArray, List.set_cons_zero, List.set_cons_succ, i64_w, i32_w]
            rfl
          refine pure_ (i := 5) (N := some 21) (v := ?_) (a' := ?_) #[true, true, true, true, false, true, false, false, false, false, false, false, false] rfl rfl (any_of HT_.out (by kernel_rfl)) (fun _ _ _ h => h) (Or.inl ⟨by rfl, ?_⟩) ?_ ?_
          rotate_left
          · intro w'
            go_simp
            with_reducible rfl
          rotate_left
          · simp only [Act.put, List.setIfInBounds_toArray, List.set_cons_zero, List.set_cons_succ, i64_w, i32_w]
            rfl
          refine pure_ (i := 6) (N := some 22) (v := ?_) (a' := ?_) #[true, true, true, true, false, true, true, false, false, false, false, false, false] rfl rfl (any_of HT_.out (by kernel_rfl)) (fun _ _ _ h => h) (Or.inl ⟨by rfl, ?_⟩) ?_ ?_
          rotate_left
          · intro w'
            go_simp
            with_reducible rfl
          rotate_left
          · simp only [Act.put, List.setIfInBounds_toArray, List.set_cons_zero, List.set_cons_succ, i64_w, i32_w]
            rfl
          refine pure_ (i := 7) (N := some 23) (v := ?_) (a' := ?_) #[true, true, true, true, false, true, true, true, false, false, false, false, false] rfl rfl (any_of HT_.out (by kernel_rfl)) (fun _ _ _ h => h) (Or.inl ⟨by rfl, ?_⟩) ?_ ?_
          rotate_left
          · intro w'
            go_simp
            with_reducible rfl
          rotate_left
          · simp only [Act.put, List.setIfInBounds_toArray, List.set_cons_zero, List.set_cons_succ, i64_w, i32_w]
            rfl
          refine take_ (i := 8) (N := some 24) (v := ?_) (a' := ?_) #[true, true, true, true, false, true, true, true, true, false, false, false, false] rfl rfl (take_ofW HT_.out HW_.out (by kernel_rfl)) (fun _ _ _ h => h) (Or.inl ⟨by rfl, ?_⟩) hHeld ?_ ?_
          rotate_left
          · intro w' s0
            go_simp
            with_reducible rfl
          rotate_left
          · simp only [Act.put, List.setIfInBounds_toArray, List.set_cons_zero, List.set_cons_succ, i64_w, i32_w]
            rfl
          refine join_ (σ := Value × Value) 3 #[true, true, true, true, true, true, true, true, true, true, false, false, false] (fun s_ => [(20, s_.1), (25, s_.2)]) (fun s_ w' => (w'.cell? (ad467.add (x8_1).toNat) = some (.int .i64 (rd l1 x8_1))) ∧ (Kd.V (Kd.int .i64) 3 w' w.heap.size (fun k_ => (w.heap.size ≤ k_) ∧ some k_ ≠ (s_.2 : Value).ownBlock) s_.1 t464) ∧ (Kd.R (Kd.int .i64) 3 w' w.heap.size (fun k_ => (w.heap.size ≤ k_)) s_.2 y468) ∧ (Kd.V (Kd.int .i64) 3 w' w.heap.size (fun k_ => (w.heap.size ≤ k_) ∧ some k_ ≠ (s_.2 : Value).ownBlock) (.slice Ao10 x7_1.length co10) x7_1) ∧ (Below w.heap.size w w')) ?_ ?_
          rotate_left
          · intro hCont
            refine two_ (i := 4) (j := 9) (Ni := some 20) (Nj := some 25) #[true, true, true, true, true, true, true, true, true, false, false, false, false] #[true, true, true, true, false, true, true, true, true, true, false, false, false] rfl rfl rfl rfl (two_of HT_.out (by kernel_rfl)) (by decide) (by decide) (fun K hK => ?_) (fun K hK => ?_)
            · skip
              refine goes_ Try.func52 (by kernel_rfl) rfl #[.int .i64 a0, .slice Ao10 x7_1.length co10, .slice A2 l2.length c2] (by rfl) rfl rfl (by (try simp only [mA, mB, mC]); first | done | rfl | (simp only [lD, lT]; rfl)) ?_
              with_reducible refine (galoisref09_Mul.calls k1 a0 _ _ x7_1 _ _ l2 t464 _ ?side1 ?side2 ?side3 ?side4 A5.out).mono ?_
              (case side1 => repeat (first | exact (Kd.V_reads' HO_7.out).2.2 | (with_reducible refine Kd.C_alloc ?_ _) | (with_reducible refine Kd.C_drewN ?_ _) | (with_reducible refine Kd.C_drew ?_)))
              (case side2 => exact (Kd.V_reads' HO_7.out).2.1)
              (case side3 => repeat (first | exact (Kd.C_below HR2.out HB.out) | (with_reducible refine Kd.C_alloc ?_ _) | (with_reducible refine Kd.C_drewN ?_ _) | (with_reducible refine Kd.C_drew ?_)))
              (case side4 => exact HC2.out)
              rintro e w12 ⟨v465, rfl, ho0, hb⟩
              refine ⟨_, rfl, ?_⟩
              have n0_ := Aside0.mk (Kd.V_below (by (with_reducible repeat (first | apply vA | apply vB | apply vC)); exact HO_7.out) hb)
              have n1_ := Aside0.mk (Kd.V_lower (Kd.V_mono (ok' := fun k_ => (w.heap.size ≤ k_)) ho0 (fun k_ hk_ => (Nat.le_trans (below_size (by with_reducible repeat (first | exact HB.out | apply bA | apply bB | apply bC))) hk_))) (below_size (by with_reducible repeat (first | exact HB.out | apply bA | apply bB | apply bC))))
              have n2_ := Aside0.mk (below_step (by with_reducible repeat (first | exact HB.out | apply bA | apply bB | apply bC)) hb)
              clear HO_7
              clear HB
              have HO_7 := n0_
              have HO466 := n1_
              have HB := n2_
              clear n0_ n1_ n2_
              (try clear hb)
              (try clear hb2)
              (try clear hk)
              (try clear hi)
              (try clear ho0)
              refine hK.out _ _ (((HB.out.cell (World.block_lt_of_cell? w _ hw467_0)).trans hw467_0)) (fun hHeld => ?_)
              clear hK K
              refine norm_ (a' := ?_) ?_ ?_
              rotate_left
              · show Act.put _ (some 20) _ = _
                simp only [Act.put, List.setIfInBounds_toArray, List.set_cons_zero, List.set_cons_succ, i64_w, i32_w]
                rfl
              refine one_ (i := 9) (N := some 25) #[true, true, true, true, true, true, true, true, true, true, false, false, false] rfl rfl (one_of HT_.out (by kernel_rfl)) (by decide) (fun K hK => ?_)
              refine Kd.R_lit_step (Kd.int .i64) _ 3 ?hg (N := 25) ?hd (xs := ([rd l1 x8_1] : List Int)) (inner := [.int .i64 (rd l1 x8_1)]) (ok := fun _ => True) (okp := fun _ => True) ?hr ?hp (fun _ hk => hk) trivial (Below.refl _ _) (Nat.le_refl _) (by simp) ?_; (case hd => rfl); (case hg => rfl); (case hr => first | (go_simp; done) | (go_simp; rfl)); (case hp => exact (Reps.one (show Kd.M (Kd.int .i64) _ _ _ (rd l1 x8_1) [.int .i64 (rd l1 x8_1)] from rfl) (Reps.none _ _)))
              intro v469 w13 ho14 hb hg_ hnew_
              clear hg_ hnew_
              (first | rw [← Ny468.out] at ho14 | (simp only [Int.reduceToNat] at ho14; rw [← Ny468.out] at ho14))
              have n0_ := Aside0.mk (Kd.V_elder' (by (with_reducible repeat (first | apply vA | apply vB | apply vC)); exact HO_7.out) (Kd.R_base ho14) hb)
              have n1_ := Aside0.mk (Kd.V_elder' (by (with_reducible repeat (first | apply vA | apply vB | apply vC)); exact HO466.out) (Kd.R_base ho14) hb)
              have n2_ := Aside0.mk (Kd.R_lower (Kd.R_newM (M := fun k_ => (w.heap.size ≤ k_)) ho14 (below_size (by with_reducible repeat (first | exact HB.out | apply bA | apply bB | apply bC))) (fun k_ h_ => h_)) (below_size (by with_reducible repeat (first | exact HB.out | apply bA | apply bB | apply bC))))
              have n3_ := Aside0.mk (below_step (by with_reducible repeat (first | exact HB.out | apply bA | apply bB | apply bC)) hb)
              clear HO_7
              clear HO466
              clear HB
              have HO_7 := n0_
              have HO466 := n1_
              have HO470 := n2_
              have HB := n3_
              clear n0_ n1_ n2_ n3_
              clear hb ho14
              refine hK.out _ _ (((HB.out.cell (World.block_lt_of_cell? w _ hw467_0)).trans hw467_0)) (fun hHeld => ?_)
              clear hK K
              refine norm_ (a' := ?_) ?_ ?_
              rotate_left
              · show Act.put _ (some 25) _ = _
                simp only [Act.put, List.setIfInBounds_toArray, List.set_cons_zero, List.set_cons_succ, i64_w, i32_w]
                rfl
              exact norm_ (by simp only [putAll, Act.put, List.setIfInBounds_toArray, List.set_cons_zero, List.set_cons_succ]) (hCont (v465, v469) _ ⟨hHeld, (by (with_reducible repeat (first | apply vA | apply vB | apply vC)); exact HO466.out), (by (with_reducible repeat (first | apply Kd.R_alloc | apply Kd.R_drewN | apply Kd.R_drew)); exact Kd.R_mono HO470.out (fun _ hk => hk.1)), (by (with_reducible repeat (first | apply vA | apply vB | apply vC)); exact HO_7.out), (by with_reducible repeat (first | exact HB.out | apply bA | apply bB | apply bC))⟩)
            · skip
              refine Kd.R_lit_step (Kd.int .i64) _ 3 ?hg (N := 25) ?hd (xs := ([rd l1 x8_1] : List Int)) (inner := [.int .i64 (rd l1 x8_1)]) (ok := fun _ => True) (okp := fun _ => True) ?hr ?hp (fun _ hk => hk) trivial (Below.refl _ _) (Nat.le_refl _) (by simp) ?_; (case hd => rfl); (case hg => rfl); (case hr => first | (go_simp; done) | (go_simp; rfl)); (case hp => exact (Reps.one (show Kd.M (Kd.int .i64) _ _ _ (rd l1 x8_1) [.int .i64 (rd l1 x8_1)] from rfl) (Reps.none _ _)))
              intro v469 w12 ho13 hb hg_ hnew_
              clear hg_ hnew_
              (first | rw [← Ny468.out] at ho13 | (simp only [Int.reduceToNat] at ho13; rw [← Ny468.out] at ho13))
              have n0_ := Aside0.mk (Kd.V_elder' (by (with_reducible repeat (first | apply vA | apply vB | apply vC)); exact HO_7.out) (Kd.R_base ho13) hb)
              have n1_ := Aside0.mk (Kd.R_lower (Kd.R_newM (M := fun k_ => (w.heap.size ≤ k_)) ho13 (below_size (by with_reducible repeat (first | exact HB.out | apply bA | apply bB | apply bC))) (fun k_ h_ => h_)) (below_size (by with_reducible repeat (first | exact HB.out | apply bA | apply bB | apply bC))))
              have n2_ := Aside0.mk (below_step (by with_reducible repeat (first | exact HB.out | apply bA | apply bB | apply bC)) hb)
              clear HO_7
              clear HB
              have HO_7 := n0_
              have HO470 := n1_
              have HB := n2_
              clear n0_ n1_ n2_
              clear hb ho13
              refine hK.out _ _ (((HB.out.cell (World.block_lt_of_cell? w _ hw467_0)).trans hw467_0)) (fun hHeld => ?_)
              clear hK K
              refine norm_ (a' := ?_) ?_ ?_
              rotate_left
              · show Act.put _ (some 25) _ = _
                simp only [Act.put, List.setIfInBounds_toArray, List.set_cons_zero, List.set_cons_succ, i64_w, i32_w]
                rfl
              refine one_ (i := 4) (N := some 20) #[true, true, true, true, true, true, true, true, true, true, false, false, false] rfl rfl (one_of HT_.out (by kernel_rfl)) (by decide) (fun K hK => ?_)
              refine goes_ Try.func52 (by kernel_rfl) rfl #[.int .i64 a0, .slice Ao10 x7_1.length co10, .slice A2 l2.length c2] (by rfl) rfl rfl (by (try simp only [mA, mB, mC]); first | done | rfl | (simp only [lD, lT]; rfl)) ?_
              with_reducible refine (galoisref09_Mul.calls k1 a0 _ _ x7_1 _ _ l2 t464 _ ?side1 ?side2 ?side3 ?side4 A5.out).mono ?_
              (case side1 => repeat (first | exact (Kd.V_reads' HO_7.out).2.2 | (with_reducible refine Kd.C_alloc ?_ _) | (with_reducible refine Kd.C_drewN ?_ _) | (with_reducible refine Kd.C_drew ?_)))
              (case side2 => exact (Kd.V_reads' HO_7.out).2.1)
              (case side3 => repeat (first | exact (Kd.C_below HR2.out HB.out) | (with_reducible refine Kd.C_alloc ?_ _) | (with_reducible refine Kd.C_drewN ?_ _) | (with_reducible refine Kd.C_drew ?_)))
              (case side4 => exact HC2.out)
              rintro e w14 ⟨v465, rfl, ho0, hb⟩
              refine ⟨_, rfl, ?_⟩
              have n0_ := Aside0.mk (Kd.V_below (by (with_reducible repeat (first | apply vA | apply vB | apply vC)); exact HO_7.out) hb)
              have n1_ := Aside0.mk (Kd.R_below (by (with_reducible repeat (first | apply Kd.R_alloc | apply Kd.R_drewN | apply Kd.R_drew)); exact HO470.out) hb)
              have n2_ := Aside0.mk (Kd.V_lower (Kd.V_mono (ok' := fun k_ => (w.heap.size ≤ k_) ∧ some k_ ≠ (v469 : Value).ownBlock) ho0 (fun k_ hk_ => ⟨(Nat.le_trans (below_size (by with_reducible repeat (first | exact HB.out | apply bA | apply bB | apply bC))) hk_), (Kd.fresh' (Kd.R_lt (by (with_reducible repeat (first | apply Kd.R_alloc | apply Kd.R_drewN | apply Kd.R_drew)); exact HO470.out)) k_ hk_)⟩)) (below_size (by with_reducible repeat (first | exact HB.out | apply bA | apply bB | apply bC))))
              have n3_ := Aside0.mk (below_step (by with_reducible repeat (first | exact HB.out | apply bA | apply bB | apply bC)) hb)
              clear HO_7
              clear HO470
              clear HB
              have HO_7 := n0_
              have HO470 := n1_
              have HO466 := n2_
              have HB := n3_
              clear n0_ n1_ n2_ n3_
              (try clear hb)
              (try clear hb2)
              (try clear hk)
              (try clear hi)
              (try clear ho0)
              refine hK.out _ _ (((HB.out.cell (World.block_lt_of_cell? w _ hw467_0)).trans hw467_0)) (fun hHeld => ?_)
              clear hK K
              refine norm_ (a' := ?_) ?_ ?_
              rotate_left
              · show Act.put _ (some 20) _ = _
                simp only [Act.put, List.setIfInBounds_toArray, List.set_cons_zero, List.set_cons_succ, i64_w, i32_w]
                rfl
              exact norm_ (by simp only [putAll, Act.put, List.setIfInBounds_toArray, List.set_cons_zero, List.set_cons_succ]) (hCont (v465, v469) _ ⟨hHeld, (by (with_reducible repeat (first | apply vA | apply vB | apply vC)); exact HO466.out), (by (with_reducible repeat (first | apply Kd.R_alloc | apply Kd.R_drewN | apply Kd.R_drew)); exact Kd.R_mono HO470.out (fun _ hk => hk.1)), (by (with_reducible repeat (first | apply vA | apply vB | apply vC)); exact HO_7.out), (by with_reducible repeat (first | exact HB.out | apply bA | apply bB | apply bC))⟩)
          rintro ⟨v465, v469⟩ w15 ⟨hS_, h0_, h1_, h2_, h3_⟩
          have n0_ : Aside0 (Kd.V (Kd.int .i64) 3 w15 w.heap.size (fun k_ => (w.heap.size ≤ k_) ∧ some k_ ≠ (v469 : Value).ownBlock) v465 t464) := ⟨h0_⟩
          have n1_ : Aside0 (Kd.R (Kd.int .i64) 3 w15 w.heap.size (fun k_ => (w.heap.size ≤ k_)) v469 y468) := ⟨h1_⟩
          have n2_ : Aside0 (Kd.V (Kd.int .i64) 3 w15 w.heap.size (fun k_ => (w.heap.size ≤ k_) ∧ some k_ ≠ (v469 : Value).ownBlock) (.slice Ao10 x7_1.length co10) x7_1) := ⟨h2_⟩
          have n3_ : Aside0 (Below w.heap.size w w15) := ⟨h3_⟩
          clear HO_7
          clear HB
          clear h0_ h1_ h2_ h3_
          have HO466 := n0_
          have HO470 := n1_
          have HO_7 := n2_
          have HB := n3_
          clear n0_ n1_ n2_ n3_
          have hHeld : w15.cell? (ad467.add (x8_1).toNat) = some (.int .i64 (rd l1 x8_1)) := hS_
          obtain ⟨Ao16, co16, eo16⟩ := Kd.R_slice HO470.out
          (first | subst eo16 | (injection eo16 with f1_ f2_ f3_; have f4_ := f1_.symm; have f5_ := f3_.symm; clear f1_ f2_ f3_; subst f4_; subst f5_))
          refine norm_ (a' := ?_) ?_ ?_
          rotate_left
          · simp only [putAll, Act.put, List.setIfInBounds_toArray, List.set_cons_zero, List.set_cons_succ]
            rfl
          refine one_ (i := 10) (N := some 26) #[true, true, true, true, true, true, true, true, true, true, true, false, false] rfl rfl (one_of HT_.out (by kernel_rfl)) (by decide) (fun K hK => ?_)
          refine goes_ Try.func40 (by kernel_rfl) rfl #[.slice Ao16 y468.length co16] (by rfl) rfl rfl (by (try simp only [mA, mB, mC]); first | done | rfl | (simp only [lD, lT]; rfl)) ?_
          with_reducible refine (galoisref09_Trim.calls k1 (fun k_ => some k_ = (.slice Ao16 y468.length co16 : Value).ownBlock) _ _ y468 t471 _ ?side1 A8.out).mono ?_
          (case side1 => exact Kd.R_V (Kd.R_tight rfl (HO470.out)))
          rintro e w17 ⟨v472, rfl, ho0, hb⟩
          refine ⟨_, rfl, ?_⟩
          have n0_ := Aside0.mk (Kd.V_below (by (with_reducible repeat (first | apply vA | apply vB | apply vC)); exact HO_7.out) hb)
          have n1_ := Aside0.mk (Kd.V_below (by (with_reducible repeat (first | apply vA | apply vB | apply vC)); exact HO466.out) hb)
          have n2_ := Aside0.mk (Kd.R_below (by (with_reducible repeat (first | apply Kd.R_alloc | apply Kd.R_drewN | apply Kd.R_drew)); exact HO470.out) hb)
          have n3_ := Aside0.mk (Kd.V_lower (Kd.V_mono (ok' := fun k_ => (w.heap.size ≤ k_)) ho0 (fun k_ hk_ => Or.elim hk_ (fun hs_ => ((HO470.out).1 k_ hs_.symm)) (fun hn_ => (Nat.le_trans (below_size (by with_reducible repeat (first | exact HB.out | apply bA | apply bB | apply bC))) hn_)))) (below_size (by with_reducible repeat (first | exact HB.out | apply bA | apply bB | apply bC))))
          have n4_ := Aside0.mk (below_step (by with_reducible repeat (first | exact HB.out | apply bA | apply bB | apply bC)) hb)
          clear HO_7
          clear HO466
          clear HO470
          clear HB
          have HO_7 := n0_
          have HO466 := n1_
          have HO470 := n2_
          have HO473 := n3_
          have HB := n4_
          clear n0_ n1_ n2_ n3_ n4_
          (try clear hb)
          (try clear hb2)
          (try clear hk)
          (try clear hi)
          (try clear ho0)
          obtain ⟨Ao18, co18, eo18⟩ := Kd.V_slice HO466.out
          (first | subst eo18 | (injection eo18 with f1_ f2_ f3_; have f4_ := f1_.symm; have f5_ := f3_.symm; clear f1_ f2_ f3_; subst f4_; subst f5_))
          obtain ⟨Ao19, co19, eo19⟩ := Kd.V_slice HO473.out
          (first | subst eo19 | (injection eo19 with f1_ f2_ f3_; have f4_ := f1_.symm; have f5_ := f3_.symm; clear f1_ f2_ f3_; subst f4_; subst f5_))
          refine hK.out _ _ (((HB.out.cell (World.block_lt_of_cell? w _ hw467_0)).trans hw467_0)) (fun hHeld => ?_)
          clear hK K
          refine norm_ (a' := ?_) ?_ ?_
          rotate_left
          · show Act.put _ (some 26) _ = _
            simp only [Act.put, List.setIfInBounds_toArray, List.set_cons_zero, List.set_cons_succ, i64_w, i32_w]
            rfl
          refine one_ (i := 11) (N := some 27) #[true, true, true, true, true, true, true, true, true, true, true, true, false] rfl rfl (one_of HT_.out (by kernel_rfl)) (by decide) (fun K hK => ?_)
          refine goes_ Try.func50 (by kernel_rfl) rfl #[.int .i64 a0, .slice Ao18 t464.length co18, .slice Ao19 t471.length co19] (by rfl) rfl rfl (by (try simp only [mA, mB, mC]); first | done | rfl | (simp only [lD, lT]; rfl)) ?_
          with_reducible refine (galoisref09_Add.calls k1 a0 _ _ t464 _ _ t471 t474 _ ?side1 ?side2 ?side3 ?side4 A9.out).mono ?_
          (case side1 => repeat (first | exact (Kd.V_reads' HO466.out).2.2 | (with_reducible refine Kd.C_alloc ?_ _) | (with_reducible refine Kd.C_drewN ?_ _) | (with_reducible refine Kd.C_drew ?_)))
          (case side2 => exact (Kd.V_reads' HO466.out).2.1)
          (case side3 => repeat (first | exact (Kd.V_reads' HO473.out).2.2 | (with_reducible refine Kd.C_alloc ?_ _) | (with_reducible refine Kd.C_drewN ?_ _) | (with_reducible refine Kd.C_drew ?_)))
          (case side4 => exact (Kd.V_reads' HO473.out).2.1)
          rintro e w20 ⟨v475, rfl, ho0, hb⟩
          refine ⟨_, rfl, ?_⟩
          have n0_ := Aside0.mk (Kd.V_below (by (with_reducible repeat (first | apply vA | apply vB | apply vC)); exact HO_7.out) hb)
          have n1_ := Aside0.mk (Kd.V_below (by (with_reducible repeat (first | apply vA | apply vB | apply vC)); exact HO466.out) hb)
          have n2_ := Aside0.mk (Kd.R_below (by (with_reducible repeat (first | apply Kd.R_alloc | apply Kd.R_drewN | apply Kd.R_drew)); exact HO470.out) hb)
          have n3_ := Aside0.mk (Kd.V_below (by (with_reducible repeat (first | apply vA | apply vB | apply vC)); exact HO473.out) hb)
          have n4_ := Aside0.mk (Kd.V_lower (Kd.V_mono (ok' := fun k_ => (w.heap.size ≤ k_) ∧ some k_ ≠ (.slice Ao16 y468.length co16 : Value).ownBlock) ho0 (fun k_ hk_ => ⟨(Nat.le_trans (below_size (by with_reducible repeat (first | exact HB.out | apply bA | apply bB | apply bC))) hk_), (Kd.fresh' (Kd.R_lt (by (with_reducible repeat (first | apply Kd.R_alloc | apply Kd.R_drewN | apply Kd.R_drew)); exact HO470.out)) k_ hk_)⟩)) (below_size (by with_reducible repeat (first | exact HB.out | apply bA | apply bB | apply bC))))
          have n5_ := Aside0.mk (below_step (by with_reducible repeat (first | exact HB.out | apply bA | apply bB | apply bC)) hb)
          clear HO_7
          clear HO466
          clear HO470
          clear HO473
          clear HB
          have HO_7 := n0_
          have HO466 := n1_
          have HO470 := n2_
          have HO473 := n3_
          have HO476 := n4_
          have HB := n5_
          clear n0_ n1_ n2_ n3_ n4_ n5_
          (try clear hb)
          (try clear hb2)
          (try clear hk)
          (try clear hi)
          (try clear ho0)
          refine hK.out _ _ (((HB.out.cell (World.block_lt_of_cell? w _ hw467_0)).trans hw467_0)) (fun hHeld => ?_)
          clear hK K
          refine norm_ (a' := ?_) ?_ ?_
          rotate_left
          · show Act.put _ (some 27) _ = _
            simp only [Act.put, List.setIfInBounds_toArray, List.set_cons_zero, List.set_cons_succ, i64_w, i32_w]
            rfl
          refine pure_ (i := 12) (N := some 7) (v := ?_) (a' := ?_) #[true, true, true, true, true, true, true, true, true, true, true, true, true] rfl rfl (any_of HT_.out (by kernel_rfl)) (fun _ _ _ h => h) (Or.inl ⟨by rfl, ?_⟩) ?_ ?_
          rotate_left
          · intro w'
            go_simp
            with_reducible rfl
          rotate_left
          · simp only [Act.put, List.setIfInBounds_toArray, List.set_cons_zero, List.set_cons_succ, i64_w, i32_w]
            rfl
          refine done_ (done_of HT_.out (by kernel_rfl)) ?_
          try go_wp2
          (first | go_roundg k1 | (refine Handed.intro k1 ?measure ?_; rotate_left; go_step; (repeat rw [add_plain]); (repeat apply Exists.intro); refine ⟨?rel, rfl⟩))
          case measure => have := HK1.out; omega
          case rel => exact ⟨(t474), (wrap64 (x8_1 - 1)), (by first | rfl | (simp; done) | (simp [*]; done)), H', ⟨by have := HK1.out; omega⟩, ⟨by (with_reducible repeat (first | apply vA | apply vB | apply vC)); exact Kd.V_mono HO476.out (fun _ hk => hk.1)⟩, ⟨by with_reducible repeat (first | exact HB.out | apply bA | apply bB | apply bC)⟩⟩
        · rw [if_neg c7] at H
          exact absurd H (by simp)
      · rw [if_neg c6] at H
        exact absurd H (by simp)
    · rw [if_neg c4] at H
      have c4b0 : decide (0 ≤ x8_1) = false := decide_eq_false c4
      clear c4
      obtain rfl := Option.some.inj H
      go_wp2
      go_ret
      exact ⟨_, by first | rfl | (simp [errW_none, errW_some] <;> rfl) | (simp [*, errW_none, errW_some] <;> rfl), by (with_reducible repeat (first | apply vA | apply vB | apply vC)); exact HO_7.out, by with_reducible repeat (first | exact HB.out | apply bA | apply bB | apply bC)⟩

end Go.Proofs.Ytmknclgamadphaa.PPolymodValues
