import Derived.Test.YtmknclgamadphaaPPolymodReducesx1
namespace Go.Proofs.Ytmknclgamadphaa.PPolymodReduces
set_option synthInstance.maxHeartbeats 4000000
set_option synthInstance.maxSize 20000
open Go.RowKit Go.Proofs.YtmknclgamadphaaW.PrintWords Go.Proofs.YtmknclgamadphaaW.PrintLast Go.Proofs.YtmknclgamadphaaW.PrintMore
attribute [local go_sem] max2_int min2_int max_two min_two max_three min_three max_four min_four   -- for this text's walks alone
set_option linter.unusedVariables false
set_option linter.unusedSimpArgs false
attribute [local go_sem high] eqA72
def polymod_Of.l0 : Nat → Int → List Int → List Int → Int → Int → Option (List Int × Int)
 | 0, _, _, _, _, _ => none
 | k + 1, x0, x7, x18, x19, x20 => if x20 < x19 then (if 0 ≤ x20 then (if x20 < (x18.length : Int) then ((fp_Mod.f x0 (rd x18 x20)).bind fun t367 => (if x20 < (x7.length : Int) then (polymod_Of.l0 k x0 (x7.set (x20 : Int).toNat t367) x18 x19 (wrap64 (x20 + 1))) else (none))) else (none)) else (none)) else ((fp_Trim.f k x7).bind fun t369 => ((polymod_bounded.f k t369).bind fun bt372 => (some (bt372.1, bt372.2))))
def polymod_Of.f (k : Nat) (a0 : Int) (l1 : List Int) : Option (List Int × Int) := (polymod_prime.f k a0).bind fun t362 => (if t362 = 0 then (if 0 ≤ (l1.length : Int) then (if ((l1.length : Int) : Int).toNat ≤ 35184372088832 then (polymod_Of.l0 k a0 (List.replicate ((l1.length : Int) : Int).toNat 0) l1 (l1.length : Int) 0) else (none)) else (none)) else (some (([] : List Int), t362)))
theorem polymod_Of.mono_l : ∀ k, (∀ y0 y1 y2 y3 y4, LeC (polymod_Of.l0 k y0 y1 y2 y3 y4) (polymod_Of.l0 (k + 1) y0 y1 y2 y3 y4))
 | 0 => fun _ _ _ _ _ => lcN _
 | k + 1 => by have i0 := polymod_Of.mono_l k; intros; unfold polymod_Of.l0; infer_instance
instance polymod_Of.mi : ∀ a0 a1 k, LeC (polymod_Of.f k a0 a1) (polymod_Of.f (k + 1) a0 a1) := by intro a0 a1 k; have ih0 := polymod_Of.mono_l k; unfold polymod_Of.f; infer_instance
set_option maxHeartbeats 8000000 in
set_option maxRecDepth 100000 in
theorem polymod_Of.calls (k : Nat) (a0 : Int) (A1 : Option Addr) (c1 : Nat) (l1 : List Int) (r1 : List Int) (r2 : Int) (w : World) (hr1 : Kd.C (Kd.int .i64) w A1 l1.length l1) (hc1 : l1.length ≤ c1) (h : polymod_Of.f k a0 l1 = some (r1, r2)) :
 Calls Try.prog 53 #[.int .i64 a0, .slice A1 l1.length c1] w fun e w' => ∃ v0_ : Value, e = .returned (.tuple #[v0_, .int .i64 r2]) ∧ Kd.V (Kd.int .i64) 3 w' w.heap.size (fun k_ => (w.heap.size ≤ k_)) v0_ r1 ∧ Below w.heap.size w w' := by
 have HR1 := ak hr1; have HC1 := ak hc1; clear hr1 hc1; have HB := ak (Below.refl w.heap.size w); have H : ((polymod_prime.f k a0).bind fun t362 => (if t362 = 0 then (if 0 ≤ (l1.length : Int) then (if ((l1.length : Int) : Int).toNat ≤ 35184372088832 then (polymod_Of.l0 k a0 (List.replicate ((l1.length : Int) : Int).toNat 0) l1 (l1.length : Int) 0) else (none)) else (none)) else (some (([] : List Int), t362)))) = some (r1, r2) := h; clear h; replace H := bsX H; obtain ⟨t362, A3, H⟩ := H; by_cases c4 : t362 = 0
 · rw [if_pos c4] at H; have c4b0 : (t362 == 0) = true := beq_iff_eq.mpr c4; have c4b1 : (t362 != 0) = false := bne_eq_false_iff_eq.mpr c4; clear c4; replace H := iteP H; obtain ⟨c5, H⟩ := H; have c5b0 := eq_true c5; have c5b1 : decide (0 ≤ (l1.length : Int)) = true := decide_eq_true c5; clear c5; replace H := iteP H; obtain ⟨c6, H⟩ := H; have c6b0 := eq_true c6; have c6b1 : decide (((l1.length : Int) : Int).toNat ≤ 35184372088832) = true := decide_eq_true c6; clear c6; obtain ⟨y363, hy363⟩ : ∃ y_ : List Int, y_ = (List.replicate ((l1.length : Int) : Int).toNat 0) := ⟨_, rfl⟩; replace H : (polymod_Of.l0 k a0 y363 l1 (l1.length : Int) 0) = some (r1, r2) := by first | (rw [hy363]; with_reducible exact H) | (rw [hy363]; exact H) | exact H
   have Ny363 := ak hy363; clear hy363; have H' := ak H; clear H; go_enter Try.func53, Try.ntmps53; go_wp2_with (first | (refine gL 92 rfl (some 11) Try.func92 #[.int .i64 a0] ?_; (with_reducible refine (polymod_prime.calls k a0 t362 _ A3.out).mono ?_); rintro e w7 ⟨rfl, hb⟩; refine ⟨_, rfl, ?_⟩; have n0_ := ak (below_step bX hb); revert n0_; clear HB; intro HB) | ((with_reducible refine gate_dst (N := 17) rfl ?_); refine Kd.R_make (Kd.int .i64) _ 3 rfl (N := 17) rfl 23 _ _ rfl (l1.length : Int) rfl rfl Try.underlying23 (.int .i64 0) 8 info3 rfl (by decide) (by omega) 0 (ok := fun _ => True) (okp := fun _ => True) rfl (fun _ hk => hk) trivial (of_decide_eq_true aX) (Nat.le_trans (Nat.mul_le_mul_right _ (of_decide_eq_true aX : (l1.length : Int).toNat ≤ 35184372088832)) (by omega)) (Below.refl _ _) (Nat.le_refl _) ?_; intro v364 w8 ho9 hb hg_ hnew_; clear hg_ hnew_; (first | rw [← Ny363.out] at ho9 | (simp only [Int.reduceToNat] at ho9; rw [← Ny363.out] at ho9)); have n0_ := ak (Kd.R_lower (Kd.R_newM (M := fun k_ => (w.heap.size ≤ k_)) ho9 (below_size bX) (fun k_ h_ => h_)) (below_size bX)); have n1_ := ak (below_step bX hb); revert n0_ n1_; clear HB; intro HO365 HB; clear hb ho9)); go_loopg [20] k (fun kq v20 w' => ∃ (x7_1 : List Int) (x20_1 : Int), v20 = .int .i64 x20_1 ∧ Aside0 (polymod_Of.l0 kq a0 x7_1 l1 (l1.length : Int) x20_1 = some (r1, r2)) ∧ Aside0 (kq ≤ k) ∧ Aside0 (Kd.R (Kd.int .i64) 3 w' w.heap.size (fun k_ => (w.heap.size ≤ k_)) v364 x7_1) ∧ Aside0 (Below w.heap.size w w'))
   case atStart => exact ⟨(y363), (0), eW, H', ⟨Nat.le_refl _⟩, ⟨by (with_reducible repeat (first | apply Kd.R_alloc | apply Kd.R_drewN | apply Kd.R_drew)); exact Kd.R_mono HO365.out (fun _ hk => hk.1)⟩, ⟨bX⟩⟩
   case round =>
    clear H'; (try clear c1); (try clear p2); (try clear c4); (try clear c4b0); (try clear c4b1); (try clear c5); (try clear c5b0); (try clear c5b1); (try clear c6); (try clear c6b0); (try clear c6b1); (try clear c9); obtain ⟨x7_1, x20_1, rfl, HA, HK1, HO_7, HB⟩ := hrel
    cases gk with
    | zero => exact absurd HA.out (by simp [polymod_Of.l0])
    | succ k1 =>
      have H := HA.out; clear HA; simp only [polymod_Of.l0] at H; by_cases c10 : x20_1 < (l1.length : Int)
      · rw [if_pos c10] at H; have c10b0 : decide (x20_1 < (l1.length : Int)) = true := decide_eq_true c10; clear c10; replace H := iteP H; obtain ⟨c11, H⟩ := H; have c11b0 := decide_eq_true c11; clear c11; replace H := iteP H; obtain ⟨c12, H⟩ := H; have c12b0 := decide_eq_true c12; clear c12; replace H := bsX H; obtain ⟨t367, A13, H⟩ := H; replace H := iteP H; obtain ⟨c14, H⟩ := H; have c14b0 := decide_eq_true c14; clear c14; obtain ⟨y368, hy368⟩ : ∃ y_ : List Int, y_ = (x7_1.set (x20_1 : Int).toNat t367) := ⟨_, rfl⟩; replace H : (polymod_Of.l0 k1 a0 y368 l1 (l1.length : Int) (wrap64 (x20_1 + 1))) = some (r1, r2) := by first | (rw [hy368]; with_reducible exact H) | (rw [hy368]; exact H) | exact H
        have Ny368 := ak hy368; clear hy368
        as_aux_lemma =>
         have H' := ak H; clear H; have p366 : 0 ≤ (x20_1 : Int) := of_decide_eq_true aX; have q366 : x20_1 < (l1.length : Int) := of_decide_eq_true aX; obtain ⟨ad366, e366, hx366_0⟩ := Kd.at_int HR1.out x20_1 p366 q366; cases e366; replace hx366_0 := (HB.out.cell (World.block_lt_of_cell? w _ hx366_0)).trans hx366_0; replace p366 := eq_true p366; replace q366 := eq_true q366; go_wp2_with (first | (refine gL 87 rfl (some 29) Try.func87 #[.int .i64 a0, .int .i64 (rd l1 x20_1)] ?_; (with_reducible refine (fp_Mod.calls a0 (rd l1 x20_1) t367 _ A13.out).mono ?_); rintro e w' ⟨rfl, ⟨nd, rfl⟩⟩; refine ⟨_, rfl, ?_⟩; (try (rw [drewN_self wr]; generalize hq_ : World.drewN wr _ = wr; have n0_ : Aside0 (Kd.R (Kd.int .i64) 3 wr w.heap.size (fun k_ => (w.heap.size ≤ k_)) v364 x7_1) := ⟨by rw [← hq_]; exact (rX HO_7.out)⟩; have n1_ : Aside0 (Below w.heap.size w wr) := ⟨by rw [← hq_]; exact bX⟩; revert n0_ n1_; clear HO_7 HB hq_; intro HO_7 HB)); have p15 : 0 ≤ (x20_1 : Int) := of_decide_eq_true aX; have q15 : (x20_1 : Int) < ((x7_1.length : Int) : Int) := of_decide_eq_true aX; obtain ⟨go15, co15, eo15, gb15, gl15, cl15, HG15⟩ := Kd.R_form HO_7.out (by omega); (first | cases eo15 | (injection eo15 with ea_ en_ ec_; (first | subst ea_ | (injection ea_ with ea_; subst ea_)); subst ec_; clear en_)); have GB15 := ak gb15; have GG15 := ak HG15; clear gb15 gl15 HG15; obtain ⟨hx15_0, hf15_0⟩ := Kd.R_celln 0 HO_7.out (x20_1 : Int) p15 q15; replace p15 := eq_true p15; replace q15 := eq_true q15; obtain ⟨hy16_, hz16_⟩ := Kd.R_celln 0 HO_7.out (x20_1 : Int) (of_decide_eq_true aX) (of_decide_eq_true aX); have HP16 := Kd.R_putg HO_7.out (x20_1 : Int) t367) | ((with_reducible refine gate_store (t := 3) (p := 30) rfl ?_); refine store_event (t := 3) (p := 30) (v := ?vo_w17) (w1 := (wr.setCell ⟨go15, (x20_1 : Int).toNat, none⟩ (.int .i64 t367))) ?hg ?ho ?hn ?hr ?_; (case ho => rfl); (case hg => rfl); (case hn => rfl); (case hr => go_simp; try rfl); intro w17 hw; have hg : wr.grownBy w17 (some go15) := (by rw [hw]; exact HP16.2); have hp_ : Kd.R (Kd.int .i64) 3 w17 w.heap.size (fun k_ => (w.heap.size ≤ k_)) (.slice (some ⟨go15, 0, none⟩) x7_1.length co15) y368 := (by rw [hw, Ny368.out]; exact HP16.1); clear HP16; have n0_ := ak (hp_); have n1_ := ak ((by rw [hw]; exact below_set (HB.out) GB15.out : Below w.heap.size w w17)); revert n0_ n1_; clear HO_7 HB; intro HO_7 HB; clear hg hw hp_)); (first | go_roundg k1 | (refine Handed.intro k1 ?measure ?_; rotate_left; go_step; (repeat rw [add_plain]); (repeat apply Exists.intro); refine ⟨?rel, rfl⟩))
         case measure => have := HK1.out; omega
         case rel => exact ⟨(y368), (wrap64 (x20_1 + 1)), eW, H', ⟨by have := HK1.out; omega⟩, ⟨rX HO_7.out⟩, ⟨bX⟩⟩
      rw [if_neg c10] at H; have c10b0 : decide (x20_1 < (l1.length : Int)) = false := decide_eq_false c10; clear c10; replace H := bsX H; obtain ⟨t369, A18, H⟩ := H; replace H := bsX H; obtain ⟨⟨t372, t375⟩, A19, H⟩ := H; (try dsimp only at H)
      as_aux_lemma =>
       simp only [Option.some.injEq, Prod.mk.injEq] at H; obtain ⟨rfl, rfl⟩ := H; obtain ⟨Ao20, co20, eo20⟩ := Kd.R_slice HO_7.out; subst eo20; go_wp2_with (first | (refine gL 88 rfl (some 33) Try.func88 #[.slice Ao20 x7_1.length co20] ?_; (with_reducible refine (fp_Trim.calls k1 (fun k_ => some k_ = (.slice Ao20 x7_1.length co20 : Value).ownBlock) _ _ x7_1 t369 _ ?side1 A18.out).mono ?_); (case side1 => exact Kd.R_V (Kd.R_tight rfl (HO_7.out))); rintro e w21 ⟨v370, rfl, ho0, hb⟩; refine ⟨_, rfl, ?_⟩; have n0_ := ak (Kd.R_below (rX HO_7.out) hb); have n1_ := ak (Kd.V_lower (Kd.V_mono (ok' := fun k_ => (w.heap.size ≤ k_)) ho0 (fun k_ hk_ => Or.elim hk_ (fun hs_ => ((HO_7.out).1 k_ hs_.symm)) (fun hn_ => (Nat.le_trans (below_size bX) hn_)))) (below_size bX)); have n2_ := ak (below_step bX hb); revert n0_ n1_ n2_; clear HO_7 HB; intro HO_7 HO371 HB; obtain ⟨Ao22, co22, eo22⟩ := Kd.V_slice HO371.out; subst eo22) | (refine gL 66 rfl (some 34) Try.func66 #[.slice Ao22 t369.length co22] ?_; (with_reducible refine (polymod_bounded.calls k1 (fun k_ => (w.heap.size ≤ k_)) _ _ t369 t372 t375 _ ?side1 A19.out).mono ?_); (case side1 => exact HO371.out); rintro e w23 ⟨v373, rfl, ho0, hb⟩; refine ⟨_, rfl, ?_⟩; have n0_ := ak (Kd.R_below (rX HO_7.out) hb); have n1_ := ak (Kd.V_below (vX HO371.out) hb); have n2_ := ak (Kd.V_lower (Kd.V_mono (ok' := fun k_ => (w.heap.size ≤ k_)) ho0 (fun k_ hk_ => Or.elim hk_ (fun hs_ => hs_) (fun hn_ => (Nat.le_trans (below_size bX) hn_)))) (below_size bX)); have n3_ := ak (below_step bX hb); revert n0_ n1_ n2_ n3_; clear HO_7 HO371 HB; intro HO_7 HO371 HO374 HB)); go_ret2; exact ⟨_, eY, by (with_reducible repeat (first | apply vA | apply vB | apply vC)); exact HO374.out, bX⟩
 rw [if_neg c4] at H; have c4b0 : (t362 == 0) = false := beq_eq_false_iff_ne.mpr c4; have c4b1 : (t362 != 0) = true := bne_iff_ne.mpr c4
 as_aux_lemma =>
  simp only [Option.some.injEq, Prod.mk.injEq] at H; obtain ⟨rfl, rfl⟩ := H; go_enter Try.func53, Try.ntmps53; go_wp2_with (first | (refine gL 92 rfl (some 11) Try.func92 #[.int .i64 a0] ?_; (with_reducible refine (polymod_prime.calls k a0 t362 _ A3.out).mono ?_); rintro e w24 ⟨rfl, hb⟩; refine ⟨_, rfl, ?_⟩; have n0_ := ak (below_step bX hb); revert n0_; clear HB; intro HB)); go_ret2; exact ⟨(.slice none 0 0), eY, (Kd.V_nil _ _ _ _ _), bX⟩
def integer_zero.f  : Option (Bool × ByteArray) := some (false, (⟨#[]⟩ : ByteArray))
set_option maxHeartbeats 8000000 in
set_option maxRecDepth 100000 in
theorem integer_zero.calls  (r1 : Bool) (r2 : ByteArray) (w : World) (h : integer_zero.f  = some (r1, r2)) :
 Calls Try.prog 112 #[] w fun e w' => e = .returned (.agg #[.bool r1, .string r2]) ∧ Below w.heap.size w w' := by
 have hu72 := Try.underlying72; have HB := ak (Below.refl w.heap.size w); have H : (some (false, (⟨#[]⟩ : ByteArray))) = some (r1, r2) := h; clear h
 as_aux_lemma =>
  simp only [Option.some.injEq, Prod.mk.injEq] at H; obtain ⟨rfl, rfl⟩ := H; go_enter Try.func112, Try.ntmps112; go_wp2_with (first | ((with_reducible refine gate_dst (N := 0) rfl ?_); refine box_event ?hg (N := 0) ?hd (cs := #[.bool false, .string (⟨#[]⟩ : ByteArray)]) (t := 72) ?hr ?_; (case hd | hg => rfl); (case hr => go_simp; try rfl); intro gb376 hg w1 hbox hb; have n0_ := ak (below_step bX hb); have n1_ := ak (hbox); have n2_ := ak ((by rw [hg]; exact (below_size bX) : w.heap.size ≤ gb376)); have n3_ := ak ((by rw [hg]; exact (below_size bX) : w.heap.size ≤ gb376)); revert n0_ n1_ n2_ n3_; clear HB; intro HB BK376 GW376 GE376; clear hb hbox hg; have hcz2_0 : w1.cell? ⟨gb376, 0, none⟩ = some (.bool false) := (blk_cell BK376.out 0).trans rfl; have hcz2_1 : w1.cell? ⟨gb376, 1, none⟩ = some (.string (⟨#[]⟩ : ByteArray)) := (blk_cell BK376.out 1).trans rfl; have hfz2_0 := blk_frozen BK376.out 0; have hfz2_1 := blk_frozen BK376.out 1)); refine bodyPost_ret (results_cell_row rfl _ _ gb376 72 #[.bool false, .string (⟨#[]⟩ : ByteArray)] (0, 0) _ rfl (by (with_reducible repeat (first | refine blk_drewN ?_ _ | refine blk_drew ?_ | refine blk_alloc ?_ _)); refine blk_put (cs := #[.bool false, .string (⟨#[]⟩ : ByteArray)]) ?_ 1 _ rfl; (with_reducible repeat (first | refine blk_drewN ?_ _ | refine blk_drew ?_ | refine blk_alloc ?_ _)); refine blk_put (cs := #[.bool false, .string (⟨#[]⟩ : ByteArray)]) ?_ 0 _ rfl; (with_reducible repeat (first | refine blk_drewN ?_ _ | refine blk_drew ?_ | refine blk_alloc ?_ _)); exact BK376.out) Try.underlying72 rfl (by kernel_rfl)) rfl ?_; exact ⟨eY, bS GE376.out⟩
def integer_Check.f (k : Nat) (a0_0 : Bool) (a0_1 : ByteArray) : Option (Int) := (natural_Check.f k a0_1).bind fun t378 => (if t378 = 1 then (some t378) else ((integer_zero.f).bind fun bt379 => (if (!(a0_0 == bt379.1) || (!(a0_1.toList == bt379.2.toList))) = true then (if a0_1.toList = ([] : List UInt8) then (some 1) else (some t378)) else (some t378))))
instance integer_Check.mi : ∀ a0 a1 k, LeC (integer_Check.f k a0 a1) (integer_Check.f (k + 1) a0 a1) := by intro a0 a1 k; unfold integer_Check.f; infer_instance
def integer_Check.T5 : Bool × List (List Nat × List Nat) := (true, [([], []), ([], []), ([0, 1], [0, 1]), ([2, 1], [2]), ([3], [3]), ([4, 3], [3, 4]), ([5, 3], [3, 5]), ([3, 6], [3, 6]), ([7, 3], [7])])
def integer_Check.B5 : List Nat := [0, 0, 3, 7, 15, 31, 63, 127, 255]
theorem integer_Check.tab5 : rtab .any (opsOf Try.f96 5) = integer_Check.T5 := by kernel_rfl
theorem integer_Check.bits5 : waitsOk integer_Check.T5.2 integer_Check.B5 = true := by kernel_rfl
set_option maxHeartbeats 8000000 in
set_option maxRecDepth 100000 in
theorem integer_Check.calls (k : Nat) (a0_0 : Bool) (a0_1 : ByteArray) (r : Int) (w : World) (h : integer_Check.f k a0_0 a0_1 = some r) :
 Calls Try.prog 96 #[.agg #[.bool a0_0, .string a0_1]] w fun e w' => e = .returned (.int .i64 r) ∧ Below w.heap.size w w' := by
 have hu72 := Try.underlying72; have HB := ak (Below.refl w.heap.size w); have H : ((natural_Check.f k a0_1).bind fun t378 => (if t378 = 1 then (some t378) else ((integer_zero.f).bind fun bt379 => (if (!(a0_0 == bt379.1) || (!(a0_1.toList == bt379.2.toList))) = true then (if a0_1.toList = ([] : List UInt8) then (some 1) else (some t378)) else (some t378))))) = some r := h; clear h; replace H := bsX H; obtain ⟨t378, A2, H⟩ := H; by_cases c3 : t378 = 1
 · rw [if_pos c3] at H; have c3b0 : (t378 == 1) = true := beq_iff_eq.mpr c3; have c3b1 : (t378 != 1) = false := bne_eq_false_iff_eq.mpr c3; clear c3
   as_aux_lemma =>
    obtain rfl := Option.some.inj H; go_enter Try.func96, Try.ntmps96; go_wp2_with (first | ((with_reducible refine gate_dst (N := 1) rfl ?_); refine box_event ?hg (N := 1) ?hd (cs := #[.bool a0_0, .string a0_1]) (t := 72) ?hr ?_; (case hd | hg => rfl); (case hr => go_simp; try rfl); intro gb377 hg w4 hbox hb; have n0_ := ak (below_step bX hb); have n1_ := ak (hbox); have n2_ := ak ((by rw [hg]; exact (below_size bX) : w.heap.size ≤ gb377)); have n3_ := ak ((by rw [hg]; exact (below_size bX) : w.heap.size ≤ gb377)); revert n0_ n1_ n2_ n3_; clear HB; intro HB BK377 GW377 GE377; clear hb hbox hg; have hcz5_0 : w4.cell? ⟨gb377, 0, none⟩ = some (.bool a0_0) := (blk_cell BK377.out 0).trans rfl; have hcz5_1 : w4.cell? ⟨gb377, 1, none⟩ = some (.string a0_1) := (blk_cell BK377.out 1).trans rfl; have hfz5_0 := blk_frozen BK377.out 0; have hfz5_1 := blk_frozen BK377.out 1) | (refine gL 68 rfl (some 6) Try.func68 #[.string a0_1] ?_; (with_reducible refine (natural_Check.calls k a0_1 t378 _ A2.out).mono ?_); rintro e w' ⟨rfl, ⟨nd, rfl⟩⟩; refine ⟨_, rfl, ?_⟩)); go_ret; exact ⟨eY, bS GE377.out⟩
 rw [if_neg c3] at H; have c3b0 : (t378 == 1) = false := beq_eq_false_iff_ne.mpr c3; have c3b1 : (t378 != 1) = true := bne_iff_ne.mpr c3; replace H := bsX H; obtain ⟨⟨t379, t380⟩, A6, H⟩ := H; (try dsimp only at H); by_cases c7 : (!(a0_0 == t379) || (!(a0_1.toList == t380.toList))) = true
 · rw [if_pos c7] at H; have c7b0 : (!(a0_0 == t379) || (!(a0_1.toList == t380.toList))) = true := c7; clear c7; by_cases c8 : a0_1.toList = ([] : List UInt8)
   · rw [if_pos c8] at H; have c8b0 : (a0_1.toList == ([] : List UInt8)) = true := beq_iff_eq.mpr c8; have c8b1 : (a0_1.toList != ([] : List UInt8)) = false := bne_eq_false_iff_eq.mpr c8; clear c8
     as_aux_lemma =>
      obtain rfl := Option.some.inj H; go_enter Try.func96, Try.ntmps96; try go_wp2_with (first | ((with_reducible refine gate_dst (N := 1) rfl ?_); refine box_event ?hg (N := 1) ?hd (cs := #[.bool a0_0, .string a0_1]) (t := 72) ?hr ?_; (case hd | hg => rfl); (case hr => go_simp; try rfl); intro gb377 hg w9 hbox hb; have n0_ := ak (below_step bX hb); have n1_ := ak (hbox); have n2_ := ak ((by rw [hg]; exact (below_size bX) : w.heap.size ≤ gb377)); have n3_ := ak ((by rw [hg]; exact (below_size bX) : w.heap.size ≤ gb377)); revert n0_ n1_ n2_ n3_; clear HB; intro HB BK377 GW377 GE377; clear hb hbox hg; have hcz10_0 : w9.cell? ⟨gb377, 0, none⟩ = some (.bool a0_0) := (blk_cell BK377.out 0).trans rfl; have hcz10_1 : w9.cell? ⟨gb377, 1, none⟩ = some (.string a0_1) := (blk_cell BK377.out 1).trans rfl; have hfz10_0 := blk_frozen BK377.out 0; have hfz10_1 := blk_frozen BK377.out 1) | (refine gL 68 rfl (some 6) Try.func68 #[.string a0_1] ?_; (with_reducible refine (natural_Check.calls k a0_1 t378 _ A2.out).mono ?_); rintro e w' ⟨rfl, ⟨nd, rfl⟩⟩; refine ⟨_, rfl, ?_⟩))
      (try (rw [drewN_self w9]; generalize hq_ : World.drewN w9 _ = w9; have n0_ : Aside0 (w9.heap[gb377]? = some (.cells #[.bool a0_0, .string a0_1] 72 (0, 0))) := ⟨by rw [← hq_]; exact (kX BK377.out)⟩; have n1_ : Aside0 (Below w.heap.size w w9) := ⟨by rw [← hq_]; exact (bS GE377.out)⟩; revert n0_ n1_; clear BK377 HB hq_; intro BK377 HB)); have n0_ := ak (blk_drew BK377.out); have n1_ := ak (below_drew1 HB.out); revert n0_ n1_; clear BK377 HB; intro BK377 HB; refine start_ (n := 9) (S := fun w' => w'.cell? ⟨gb377, 0, none⟩ = some (.bool a0_0) ∧ w'.cell? ⟨gb377, 1, none⟩ = some (.string a0_1)) (ds := []) #[false, false, false, false, false, false, false, false, false] (by kernel_rfl) rfl rfl ⟨(blk_cell BK377.out 0).trans rfl, (blk_cell BK377.out 1).trans rfl⟩ (fun hHeld => ?_); refine with_tabW integer_Check.tab5 integer_Check.bits5 (fun HT_ HW_ => ?_); generalize w9.drew = w11 at BK377 HB hHeld ⊢; refine take_ (i := 0) (N := some 13) (v := ?_) (a' := ?_) #[true, false, false, false, false, false, false, false, false] rfl rfl (take_ofW HT_.out HW_.out (by kernel_rfl)) (fun _ _ _ h => h) (Or.inl ⟨by rfl, ?_⟩) hHeld ?_ ?_; rotate_left
      · rintro w' ⟨s0, s1⟩; go_simp; (with_reducible rfl)
      rotate_left
      · simp only [Act.put, sS, s0, s1, i64_w, i32_w]; rfl
      refine one_ (i := 1) (N := some 14) #[true, true, false, false, false, false, false, false, false] rfl rfl (one_of HT_.out (by kernel_rfl)) (by decide) (fun K hK => ?_); refine goes_ Try.func112 (by kernel_rfl) rfl #[] (by rfl) rfl rfl mX ?_; (with_reducible refine (integer_zero.calls  t379 t380 _ A6.out).mono ?_); rintro e w12 ⟨rfl, hb⟩; refine ⟨_, rfl, ?_⟩; have n0_ := ak (blk_below (g := gb377) (o := .cells #[.bool a0_0, .string a0_1] 72 (0, 0)) (kX BK377.out) hb); have n1_ := ak (below_step (bS GE377.out) hb); revert n0_ n1_; clear BK377 HB; intro BK377 HB; refine hK.out _ _ ⟨(blk_cell BK377.out 0).trans rfl, (blk_cell BK377.out 1).trans rfl⟩ (fun hHeld => ?_); clear hK K; refine norm_ (a' := ?_) ?_ ?_; rotate_left
      · show Act.put _ (some 14) _ = _
        simp only [Act.put, sS, s0, s1, i64_w, i32_w]; rfl
      refine pure_ (i := 2) (N := some 15) (v := ?_) (a' := ?_) #[true, true, true, false, false, false, false, false, false] rfl rfl (any_of HT_.out (by kernel_rfl)) (fun _ _ _ h => h) (Or.inl ⟨by rfl, ?_⟩) ?_ ?_; rotate_left
      · intro w'; go_simp; (with_reducible rfl)
      rotate_left
      · simp only [Act.put, sS, s0, s1, i64_w, i32_w]; rfl
      refine pure_ (i := 3) (N := some 16) (v := ?_) (a' := ?_) #[true, true, true, true, false, false, false, false, false] rfl rfl (any_of HT_.out (by kernel_rfl)) (fun _ _ _ h => h) (Or.inl ⟨by rfl, ?_⟩) ?_ ?_; rotate_left
      · intro w'; go_simp; (with_reducible rfl)
      rotate_left
      · simp only [Act.put, sS, s0, s1, i64_w, i32_w]; rfl
      refine pure_ (i := 4) (N := some 17) (v := ?_) (a' := ?_) #[true, true, true, true, true, false, false, false, false] rfl rfl (any_of HT_.out (by kernel_rfl)) (fun _ _ _ h => h) (Or.inl ⟨by rfl, ?_⟩) ?_ ?_; rotate_left
      · intro w'; go_simp; (with_reducible rfl)
      rotate_left
      · simp only [Act.put, sS, s0, s1, i64_w, i32_w]; rfl
      refine take_ (i := 5) (N := some 18) (v := ?_) (a' := ?_) #[true, true, true, true, true, true, false, false, false] rfl rfl (take_ofW HT_.out HW_.out (by kernel_rfl)) (fun _ _ _ h => h) (Or.inl ⟨by rfl, ?_⟩) hHeld ?_ ?_; rotate_left
      · rintro w' ⟨s0, s1⟩; go_simp; (with_reducible rfl)
      rotate_left
      · simp only [Act.put, sS, s0, s1, i64_w, i32_w]; rfl
      refine pure_ (i := 6) (N := some 19) (v := ?_) (a' := ?_) #[true, true, true, true, true, true, true, false, false] rfl rfl (any_of HT_.out (by kernel_rfl)) (fun _ _ _ h => h) (Or.inl ⟨by rfl, ?_⟩) ?_ ?_; rotate_left
      · intro w'; go_simp; (with_reducible rfl)
      rotate_left
      · simp only [Act.put, sS, s0, s1, i64_w, i32_w]; rfl
      refine pure_ (i := 7) (N := some 20) (v := ?_) (a' := ?_) #[true, true, true, true, true, true, true, true, false] rfl rfl (any_of HT_.out (by kernel_rfl)) (fun _ _ _ h => h) (Or.inl ⟨by rfl, ?_⟩) ?_ ?_; rotate_left
      · intro w'; go_simp; (with_reducible rfl)
      rotate_left
      · simp only [Act.put, sS, s0, s1, i64_w, i32_w]; rfl
      refine pure_ (i := 8) (N := some 12) (v := ?_) (a' := ?_) #[true, true, true, true, true, true, true, true, true] rfl rfl (any_of HT_.out (by kernel_rfl)) (fun _ _ _ h => h) (Or.inl ⟨by rfl, ?_⟩) ?_ ?_; rotate_left
      · intro w'; go_simp; (with_reducible rfl)
      rotate_left
      · simp only [Act.put, sS, s0, s1, i64_w, i32_w]; rfl
      refine done_ (done_of HT_.out (by kernel_rfl)) ?_; try go_wp2
      go_ret; exact ⟨eY, bS GE377.out⟩
   rw [if_neg c8] at H; have c8b0 : (a0_1.toList == ([] : List UInt8)) = false := beq_eq_false_iff_ne.mpr c8; have c8b1 : (a0_1.toList != ([] : List UInt8)) = true := bne_iff_ne.mpr c8
   as_aux_lemma =>
    obtain rfl := Option.some.inj H; go_enter Try.func96, Try.ntmps96; try go_wp2_with (first | ((with_reducible refine gate_dst (N := 1) rfl ?_); refine box_event ?hg (N := 1) ?hd (cs := #[.bool a0_0, .string a0_1]) (t := 72) ?hr ?_; (case hd | hg => rfl); (case hr => go_simp; try rfl); intro gb377 hg w13 hbox hb; have n0_ := ak (below_step bX hb); have n1_ := ak (hbox); have n2_ := ak ((by rw [hg]; exact (below_size bX) : w.heap.size ≤ gb377)); have n3_ := ak ((by rw [hg]; exact (below_size bX) : w.heap.size ≤ gb377)); revert n0_ n1_ n2_ n3_; clear HB; intro HB BK377 GW377 GE377; clear hb hbox hg; have hcz14_0 : w13.cell? ⟨gb377, 0, none⟩ = some (.bool a0_0) := (blk_cell BK377.out 0).trans rfl; have hcz14_1 : w13.cell? ⟨gb377, 1, none⟩ = some (.string a0_1) := (blk_cell BK377.out 1).trans rfl; have hfz14_0 := blk_frozen BK377.out 0; have hfz14_1 := blk_frozen BK377.out 1) | (refine gL 68 rfl (some 6) Try.func68 #[.string a0_1] ?_; (with_reducible refine (natural_Check.calls k a0_1 t378 _ A2.out).mono ?_); rintro e w' ⟨rfl, ⟨nd, rfl⟩⟩; refine ⟨_, rfl, ?_⟩))
    (try (rw [drewN_self w13]; generalize hq_ : World.drewN w13 _ = w13; have n0_ : Aside0 (w13.heap[gb377]? = some (.cells #[.bool a0_0, .string a0_1] 72 (0, 0))) := ⟨by rw [← hq_]; exact (kX BK377.out)⟩; have n1_ : Aside0 (Below w.heap.size w w13) := ⟨by rw [← hq_]; exact (bS GE377.out)⟩; revert n0_ n1_; clear BK377 HB hq_; intro BK377 HB)); have n0_ := ak (blk_drew BK377.out); have n1_ := ak (below_drew1 HB.out); revert n0_ n1_; clear BK377 HB; intro BK377 HB; refine start_ (n := 9) (S := fun w' => w'.cell? ⟨gb377, 0, none⟩ = some (.bool a0_0) ∧ w'.cell? ⟨gb377, 1, none⟩ = some (.string a0_1)) (ds := []) #[false, false, false, false, false, false, false, false, false] (by kernel_rfl) rfl rfl ⟨(blk_cell BK377.out 0).trans rfl, (blk_cell BK377.out 1).trans rfl⟩ (fun hHeld => ?_); refine with_tabW integer_Check.tab5 integer_Check.bits5 (fun HT_ HW_ => ?_); generalize w13.drew = w15 at BK377 HB hHeld ⊢; refine take_ (i := 0) (N := some 13) (v := ?_) (a' := ?_) #[true, false, false, false, false, false, false, false, false] rfl rfl (take_ofW HT_.out HW_.out (by kernel_rfl)) (fun _ _ _ h => h) (Or.inl ⟨by rfl, ?_⟩) hHeld ?_ ?_; rotate_left
    · rintro w' ⟨s0, s1⟩; go_simp; (with_reducible rfl)
    rotate_left
    · simp only [Act.put, sS, s0, s1, i64_w, i32_w]; rfl
    refine one_ (i := 1) (N := some 14) #[true, true, false, false, false, false, false, false, false] rfl rfl (one_of HT_.out (by kernel_rfl)) (by decide) (fun K hK => ?_); refine goes_ Try.func112 (by kernel_rfl) rfl #[] (by rfl) rfl rfl mX ?_; (with_reducible refine (integer_zero.calls  t379 t380 _ A6.out).mono ?_); rintro e w16 ⟨rfl, hb⟩; refine ⟨_, rfl, ?_⟩; have n0_ := ak (blk_below (g := gb377) (o := .cells #[.bool a0_0, .string a0_1] 72 (0, 0)) (kX BK377.out) hb); have n1_ := ak (below_step (bS GE377.out) hb); revert n0_ n1_; clear BK377 HB; intro BK377 HB; refine hK.out _ _ ⟨(blk_cell BK377.out 0).trans rfl, (blk_cell BK377.out 1).trans rfl⟩ (fun hHeld => ?_); clear hK K; refine norm_ (a' := ?_) ?_ ?_; rotate_left
    · show Act.put _ (some 14) _ = _
      simp only [Act.put, sS, s0, s1, i64_w, i32_w]; rfl
    refine pure_ (i := 2) (N := some 15) (v := ?_) (a' := ?_) #[true, true, true, false, false, false, false, false, false] rfl rfl (any_of HT_.out (by kernel_rfl)) (fun _ _ _ h => h) (Or.inl ⟨by rfl, ?_⟩) ?_ ?_; rotate_left
    · intro w'; go_simp; (with_reducible rfl)
    rotate_left
    · simp only [Act.put, sS, s0, s1, i64_w, i32_w]; rfl
    refine pure_ (i := 3) (N := some 16) (v := ?_) (a' := ?_) #[true, true, true, true, false, false, false, false, false] rfl rfl (any_of HT_.out (by kernel_rfl)) (fun _ _ _ h => h) (Or.inl ⟨by rfl, ?_⟩) ?_ ?_; rotate_left
    · intro w'; go_simp; (with_reducible rfl)
    rotate_left
    · simp only [Act.put, sS, s0, s1, i64_w, i32_w]; rfl
    refine pure_ (i := 4) (N := some 17) (v := ?_) (a' := ?_) #[true, true, true, true, true, false, false, false, false] rfl rfl (any_of HT_.out (by kernel_rfl)) (fun _ _ _ h => h) (Or.inl ⟨by rfl, ?_⟩) ?_ ?_; rotate_left
    · intro w'; go_simp; (with_reducible rfl)
    rotate_left
    · simp only [Act.put, sS, s0, s1, i64_w, i32_w]; rfl
    refine take_ (i := 5) (N := some 18) (v := ?_) (a' := ?_) #[true, true, true, true, true, true, false, false, false] rfl rfl (take_ofW HT_.out HW_.out (by kernel_rfl)) (fun _ _ _ h => h) (Or.inl ⟨by rfl, ?_⟩) hHeld ?_ ?_; rotate_left
    · rintro w' ⟨s0, s1⟩; go_simp; (with_reducible rfl)
    rotate_left
    · simp only [Act.put, sS, s0, s1, i64_w, i32_w]; rfl
    refine pure_ (i := 6) (N := some 19) (v := ?_) (a' := ?_) #[true, true, true, true, true, true, true, false, false] rfl rfl (any_of HT_.out (by kernel_rfl)) (fun _ _ _ h => h) (Or.inl ⟨by rfl, ?_⟩) ?_ ?_; rotate_left
    · intro w'; go_simp; (with_reducible rfl)
    rotate_left
    · simp only [Act.put, sS, s0, s1, i64_w, i32_w]; rfl
    refine pure_ (i := 7) (N := some 20) (v := ?_) (a' := ?_) #[true, true, true, true, true, true, true, true, false] rfl rfl (any_of HT_.out (by kernel_rfl)) (fun _ _ _ h => h) (Or.inl ⟨by rfl, ?_⟩) ?_ ?_; rotate_left
    · intro w'; go_simp; (with_reducible rfl)
    rotate_left
    · simp only [Act.put, sS, s0, s1, i64_w, i32_w]; rfl
    refine pure_ (i := 8) (N := some 12) (v := ?_) (a' := ?_) #[true, true, true, true, true, true, true, true, true] rfl rfl (any_of HT_.out (by kernel_rfl)) (fun _ _ _ h => h) (Or.inl ⟨by rfl, ?_⟩) ?_ ?_; rotate_left
    · intro w'; go_simp; (with_reducible rfl)
    rotate_left
    · simp only [Act.put, sS, s0, s1, i64_w, i32_w]; rfl
    refine done_ (done_of HT_.out (by kernel_rfl)) ?_; try go_wp2
    go_ret; exact ⟨eY, bS GE377.out⟩
 rw [if_neg c7] at H; have c7b0 : (!(a0_0 == t379) || (!(a0_1.toList == t380.toList))) = false := by simpa using c7
 clear c7
 as_aux_lemma =>
  obtain rfl := Option.some.inj H; go_enter Try.func96, Try.ntmps96; try go_wp2_with (first | ((with_reducible refine gate_dst (N := 1) rfl ?_); refine box_event ?hg (N := 1) ?hd (cs := #[.bool a0_0, .string a0_1]) (t := 72) ?hr ?_; (case hd | hg => rfl); (case hr => go_simp; try rfl); intro gb377 hg w17 hbox hb; have n0_ := ak (below_step bX hb); have n1_ := ak (hbox); have n2_ := ak ((by rw [hg]; exact (below_size bX) : w.heap.size ≤ gb377)); have n3_ := ak ((by rw [hg]; exact (below_size bX) : w.heap.size ≤ gb377)); revert n0_ n1_ n2_ n3_; clear HB; intro HB BK377 GW377 GE377; clear hb hbox hg; have hcz18_0 : w17.cell? ⟨gb377, 0, none⟩ = some (.bool a0_0) := (blk_cell BK377.out 0).trans rfl; have hcz18_1 : w17.cell? ⟨gb377, 1, none⟩ = some (.string a0_1) := (blk_cell BK377.out 1).trans rfl; have hfz18_0 := blk_frozen BK377.out 0; have hfz18_1 := blk_frozen BK377.out 1) | (refine gL 68 rfl (some 6) Try.func68 #[.string a0_1] ?_; (with_reducible refine (natural_Check.calls k a0_1 t378 _ A2.out).mono ?_); rintro e w' ⟨rfl, ⟨nd, rfl⟩⟩; refine ⟨_, rfl, ?_⟩))
  (try (rw [drewN_self w17]; generalize hq_ : World.drewN w17 _ = w17; have n0_ : Aside0 (w17.heap[gb377]? = some (.cells #[.bool a0_0, .string a0_1] 72 (0, 0))) := ⟨by rw [← hq_]; exact (kX BK377.out)⟩; have n1_ : Aside0 (Below w.heap.size w w17) := ⟨by rw [← hq_]; exact (bS GE377.out)⟩; revert n0_ n1_; clear BK377 HB hq_; intro BK377 HB)); have n0_ := ak (blk_drew BK377.out); have n1_ := ak (below_drew1 HB.out); revert n0_ n1_; clear BK377 HB; intro BK377 HB; refine start_ (n := 9) (S := fun w' => w'.cell? ⟨gb377, 0, none⟩ = some (.bool a0_0) ∧ w'.cell? ⟨gb377, 1, none⟩ = some (.string a0_1)) (ds := []) #[false, false, false, false, false, false, false, false, false] (by kernel_rfl) rfl rfl ⟨(blk_cell BK377.out 0).trans rfl, (blk_cell BK377.out 1).trans rfl⟩ (fun hHeld => ?_); refine with_tabW integer_Check.tab5 integer_Check.bits5 (fun HT_ HW_ => ?_); generalize w17.drew = w19 at BK377 HB hHeld ⊢; refine take_ (i := 0) (N := some 13) (v := ?_) (a' := ?_) #[true, false, false, false, false, false, false, false, false] rfl rfl (take_ofW HT_.out HW_.out (by kernel_rfl)) (fun _ _ _ h => h) (Or.inl ⟨by rfl, ?_⟩) hHeld ?_ ?_; rotate_left
  · rintro w' ⟨s0, s1⟩; go_simp; (with_reducible rfl)
  rotate_left
  · simp only [Act.put, sS, s0, s1, i64_w, i32_w]; rfl
  refine one_ (i := 1) (N := some 14) #[true, true, false, false, false, false, false, false, false] rfl rfl (one_of HT_.out (by kernel_rfl)) (by decide) (fun K hK => ?_); refine goes_ Try.func112 (by kernel_rfl) rfl #[] (by rfl) rfl rfl mX ?_; (with_reducible refine (integer_zero.calls  t379 t380 _ A6.out).mono ?_); rintro e w20 ⟨rfl, hb⟩; refine ⟨_, rfl, ?_⟩; have n0_ := ak (blk_below (g := gb377) (o := .cells #[.bool a0_0, .string a0_1] 72 (0, 0)) (kX BK377.out) hb); have n1_ := ak (below_step (bS GE377.out) hb); revert n0_ n1_; clear BK377 HB; intro BK377 HB; refine hK.out _ _ ⟨(blk_cell BK377.out 0).trans rfl, (blk_cell BK377.out 1).trans rfl⟩ (fun hHeld => ?_); clear hK K; refine norm_ (a' := ?_) ?_ ?_; rotate_left
  · show Act.put _ (some 14) _ = _
    simp only [Act.put, sS, s0, s1, i64_w, i32_w]; rfl
  refine pure_ (i := 2) (N := some 15) (v := ?_) (a' := ?_) #[true, true, true, false, false, false, false, false, false] rfl rfl (any_of HT_.out (by kernel_rfl)) (fun _ _ _ h => h) (Or.inl ⟨by rfl, ?_⟩) ?_ ?_; rotate_left
  · intro w'; go_simp; (with_reducible rfl)
  rotate_left
  · simp only [Act.put, sS, s0, s1, i64_w, i32_w]; rfl
  refine pure_ (i := 3) (N := some 16) (v := ?_) (a' := ?_) #[true, true, true, true, false, false, false, false, false] rfl rfl (any_of HT_.out (by kernel_rfl)) (fun _ _ _ h => h) (Or.inl ⟨by rfl, ?_⟩) ?_ ?_; rotate_left
  · intro w'; go_simp; (with_reducible rfl)
  rotate_left
  · simp only [Act.put, sS, s0, s1, i64_w, i32_w]; rfl
  refine pure_ (i := 4) (N := some 17) (v := undef) (a' := ?_) #[true, true, true, true, true, false, false, false, false] rfl rfl (any_of HT_.out (by kernel_rfl)) (fun _ _ _ h => h) (Or.inr ⟨by rfl, rfl⟩) ?_ ?_; rotate_left
  · simp only [Act.put, sS, s0, s1, i64_w, i32_w]; rfl
  refine pure_ (i := 5) (N := some 18) (v := undef) (a' := ?_) #[true, true, true, true, true, true, false, false, false] rfl rfl (any_of HT_.out (by kernel_rfl)) (fun _ _ _ h => h) (Or.inr ⟨by rfl, rfl⟩) ?_ ?_; rotate_left
  · simp only [Act.put, sS, s0, s1, i64_w, i32_w]; rfl
  refine pure_ (i := 6) (N := some 19) (v := undef) (a' := ?_) #[true, true, true, true, true, true, true, false, false] rfl rfl (any_of HT_.out (by kernel_rfl)) (fun _ _ _ h => h) (Or.inr ⟨by rfl, rfl⟩) ?_ ?_; rotate_left
  · simp only [Act.put, sS, s0, s1, i64_w, i32_w]; rfl
  refine pure_ (i := 7) (N := some 20) (v := ?_) (a' := ?_) #[true, true, true, true, true, true, true, true, false] rfl rfl (any_of HT_.out (by kernel_rfl)) (fun _ _ _ h => h) (Or.inl ⟨by rfl, ?_⟩) ?_ ?_; rotate_left
  · intro w'; go_simp; (with_reducible rfl)
  rotate_left
  · simp only [Act.put, sS, s0, s1, i64_w, i32_w]; rfl
  refine pure_ (i := 8) (N := some 12) (v := ?_) (a' := ?_) #[true, true, true, true, true, true, true, true, true] rfl rfl (any_of HT_.out (by kernel_rfl)) (fun _ _ _ h => h) (Or.inl ⟨by rfl, ?_⟩) ?_ ?_; rotate_left
  · intro w'; go_simp; (with_reducible rfl)
  rotate_left
  · simp only [Act.put, sS, s0, s1, i64_w, i32_w]; rfl
  refine done_ (done_of HT_.out (by kernel_rfl)) ?_; try go_wp2
  go_ret; exact ⟨eY, bS GE377.out⟩
def exact_compareWords.l0 : Nat → List Int → List Int → Int → Option (Int)
 | 0, _, _, _ => none
 | k + 1, x0, x1, x5 => if x5 ≥ 0 then (if 0 ≤ x5 then (if x5 < (x0.length : Int) then (if x5 < (x1.length : Int) then (if (rd x0 x5) = (rd x1 x5) then (exact_compareWords.l0 k x0 x1 (wrap64 (x5 - 1))) else (if (rd x0 x5) < (rd x1 x5) then (some (-1)) else (some 1))) else (none)) else (none)) else (none)) else (some 0)
def exact_compareWords.f (k : Nat) (l0 : List Int) (l1 : List Int) : Option (Int) := if (l0.length : Int) = (l1.length : Int) then (exact_compareWords.l0 k l0 l1 (wrap64 ((l0.length : Int) - 1))) else (if (l0.length : Int) < (l1.length : Int) then (some (-1)) else (some 1))
theorem exact_compareWords.mono_l : ∀ k, (∀ y0 y1 y2, LeC (exact_compareWords.l0 k y0 y1 y2) (exact_compareWords.l0 (k + 1) y0 y1 y2))
 | 0 => fun _ _ _ => lcN _
 | k + 1 => by have i0 := exact_compareWords.mono_l k; intros; unfold exact_compareWords.l0; infer_instance
instance exact_compareWords.mi : ∀ a0 a1 k, LeC (exact_compareWords.f k a0 a1) (exact_compareWords.f (k + 1) a0 a1) := by intro a0 a1 k; have ih0 := exact_compareWords.mono_l k; unfold exact_compareWords.f; infer_instance
set_option maxHeartbeats 8000000 in
set_option maxRecDepth 100000 in
theorem exact_compareWords.calls (k : Nat) (A0 : Option Addr) (c0 : Nat) (l0 : List Int) (A1 : Option Addr) (c1 : Nat) (l1 : List Int) (r : Int) (w : World) (hr0 : Kd.C (Kd.int .u64) w A0 l0.length l0) (hc0 : l0.length ≤ c0) (hr1 : Kd.C (Kd.int .u64) w A1 l1.length l1) (hc1 : l1.length ≤ c1) (h : exact_compareWords.f k l0 l1 = some r) :
 Calls Try.prog 138 #[.slice A0 l0.length c0, .slice A1 l1.length c1] w fun e w' => e = .returned (.int .i64 r) ∧ Drawn0 w w' := by
 have HR0 := ak hr0; have HC0 := ak hc0; clear hr0 hc0; have HR1 := ak hr1; have HC1 := ak hc1; clear hr1 hc1; have H : (if (l0.length : Int) = (l1.length : Int) then (exact_compareWords.l0 k l0 l1 (wrap64 ((l0.length : Int) - 1))) else (if (l0.length : Int) < (l1.length : Int) then (some (-1)) else (some 1))) = some r := h; clear h; by_cases c3 : (l0.length : Int) = (l1.length : Int)
 · rw [if_pos c3] at H; have c3b0 : ((l0.length : Int) == (l1.length : Int)) = true := beq_iff_eq.mpr c3; have c3b1 : ((l0.length : Int) != (l1.length : Int)) = false := bne_eq_false_iff_eq.mpr c3; have c3b2 : (l0.length == l1.length) = true := by first | simpa using c3 | (simp at c3 ⊢; omega)
   clear c3; have H' := ak H; clear H; go_enter Try.func138, Try.ntmps138; go_wp2; repeat (go_quiet (fail); try go_wp2)
   go_loopg [5] k (fun kq v5 w' => ∃ (x5_1 : Int), v5 = .int .i64 x5_1 ∧ Aside0 (exact_compareWords.l0 kq l0 l1 x5_1 = some r) ∧ Aside0 (kq ≤ k) ∧ Drawn0 w w')
   case atStart => exact ⟨(wrap64 ((l0.length : Int) - 1)), eW, H', ⟨Nat.le_refl _⟩, dX⟩
   case round =>
    clear H'; (try clear c1); (try clear p2); (try clear c3); (try clear c3b0); (try clear c3b1); (try clear c3b2); obtain ⟨x5_1, rfl, HA, HK1, ⟨m1, rfl⟩⟩ := hrel
    cases gk with
    | zero => exact absurd HA.out (by simp [exact_compareWords.l0])
    | succ k1 =>
      have H := HA.out; clear HA; simp only [exact_compareWords.l0] at H; by_cases c4 : x5_1 ≥ 0
      · rw [if_pos c4] at H; have c4b0 : decide (0 ≤ x5_1) = true := decide_eq_true c4; clear c4; replace H := iteP H; obtain ⟨c5, H⟩ := H; have c5b0 := decide_eq_true c5; clear c5; replace H := iteP H; obtain ⟨c6, H⟩ := H; have c6b0 := decide_eq_true c6; clear c6; replace H := iteP H; obtain ⟨c7, H⟩ := H; have c7b0 := decide_eq_true c7; clear c7; by_cases c8 : (rd l0 x5_1) = (rd l1 x5_1)
        · rw [if_pos c8] at H; have c8b0 : ((rd l0 x5_1) == (rd l1 x5_1)) = true := beq_iff_eq.mpr c8; have c8b1 : ((rd l0 x5_1) != (rd l1 x5_1)) = false := bne_eq_false_iff_eq.mpr c8; clear c8
          as_aux_lemma =>
           have H' := ak H; clear H; have p381 : 0 ≤ (x5_1 : Int) := of_decide_eq_true aX; have q381 : x5_1 < (l0.length : Int) := of_decide_eq_true aX; obtain ⟨ad381, e381, hx381_0⟩ := Kd.at_int HR0.out x5_1 p381 q381; cases e381; replace p381 := eq_true p381; replace q381 := eq_true q381; have p382 : 0 ≤ (x5_1 : Int) := of_decide_eq_true aX; have q382 : x5_1 < (l1.length : Int) := of_decide_eq_true aX; obtain ⟨ad382, e382, hx382_0⟩ := Kd.at_int HR1.out x5_1 p382 q382; cases e382; replace p382 := eq_true p382; replace q382 := eq_true q382; go_wp2; repeat (go_quiet (fail); try go_wp2)
           (first | go_roundg k1 | (refine Handed.intro k1 ?measure ?_; rotate_left; go_step; (repeat rw [add_plain]); (repeat apply Exists.intro); refine ⟨?rel, rfl⟩))
           case measure => have := HK1.out; omega
           case rel => exact ⟨(wrap64 (x5_1 - 1)), eW, H', ⟨by have := HK1.out; omega⟩, dX⟩
        rw [if_neg c8] at H; have c8b0 : ((rd l0 x5_1) == (rd l1 x5_1)) = false := beq_eq_false_iff_ne.mpr c8; have c8b1 : ((rd l0 x5_1) != (rd l1 x5_1)) = true := bne_iff_ne.mpr c8; by_cases c9 : (rd l0 x5_1) < (rd l1 x5_1)
        · rw [if_pos c9] at H; have c9b0 := decide_eq_true c9; clear c9
          as_aux_lemma =>
           obtain rfl := Option.some.inj H; have p381 : 0 ≤ (x5_1 : Int) := of_decide_eq_true aX; have q381 : x5_1 < (l0.length : Int) := of_decide_eq_true aX; obtain ⟨ad381, e381, hx381_0⟩ := Kd.at_int HR0.out x5_1 p381 q381; cases e381; replace p381 := eq_true p381; replace q381 := eq_true q381; have p382 : 0 ≤ (x5_1 : Int) := of_decide_eq_true aX; have q382 : x5_1 < (l1.length : Int) := of_decide_eq_true aX; obtain ⟨ad382, e382, hx382_0⟩ := Kd.at_int HR1.out x5_1 p382 q382; cases e382; replace p382 := eq_true p382; replace q382 := eq_true q382; have p383 : 0 ≤ (x5_1 : Int) := of_decide_eq_true aX; have q383 : x5_1 < (l0.length : Int) := of_decide_eq_true aX; obtain ⟨ad383, e383, hx383_0⟩ := Kd.at_int HR0.out x5_1 p383 q383; obtain rfl : ad381 = ad383 := (by injection e383); replace p383 := eq_true p383; replace q383 := eq_true q383; have p384 : 0 ≤ (x5_1 : Int) := of_decide_eq_true aX; have q384 : x5_1 < (l1.length : Int) := of_decide_eq_true aX; obtain ⟨ad384, e384, hx384_0⟩ := Kd.at_int HR1.out x5_1 p384 q384; obtain rfl : ad382 = ad384 := (by injection e384); replace p384 := eq_true p384; replace q384 := eq_true q384; go_wp2; repeat (go_quiet (fail); try go_wp2)
           go_ret; exact ⟨eZ, dX⟩
        rw [if_neg c9] at H; have c9b0 := decide_eq_false c9; clear c9
        as_aux_lemma =>
         obtain rfl := Option.some.inj H; have p381 : 0 ≤ (x5_1 : Int) := of_decide_eq_true aX; have q381 : x5_1 < (l0.length : Int) := of_decide_eq_true aX; obtain ⟨ad381, e381, hx381_0⟩ := Kd.at_int HR0.out x5_1 p381 q381; cases e381; replace p381 := eq_true p381; replace q381 := eq_true q381; have p382 : 0 ≤ (x5_1 : Int) := of_decide_eq_true aX; have q382 : x5_1 < (l1.length : Int) := of_decide_eq_true aX; obtain ⟨ad382, e382, hx382_0⟩ := Kd.at_int HR1.out x5_1 p382 q382; cases e382; replace p382 := eq_true p382; replace q382 := eq_true q382; have p383 : 0 ≤ (x5_1 : Int) := of_decide_eq_true aX; have q383 : x5_1 < (l0.length : Int) := of_decide_eq_true aX; obtain ⟨ad383, e383, hx383_0⟩ := Kd.at_int HR0.out x5_1 p383 q383; obtain rfl : ad381 = ad383 := (by injection e383); replace p383 := eq_true p383; replace q383 := eq_true q383; have p384 : 0 ≤ (x5_1 : Int) := of_decide_eq_true aX; have q384 : x5_1 < (l1.length : Int) := of_decide_eq_true aX; obtain ⟨ad384, e384, hx384_0⟩ := Kd.at_int HR1.out x5_1 p384 q384; obtain rfl : ad382 = ad384 := (by injection e384); replace p384 := eq_true p384; replace q384 := eq_true q384; go_wp2; repeat (go_quiet (fail); try go_wp2)
         go_ret; exact ⟨eZ, dX⟩
      rw [if_neg c4] at H; have c4b0 : decide (0 ≤ x5_1) = false := decide_eq_false c4; clear c4
      as_aux_lemma =>
       obtain rfl := Option.some.inj H; go_wp2; repeat (go_quiet (fail); try go_wp2)
       go_ret; exact ⟨eZ, dX⟩
 rw [if_neg c3] at H; have c3b0 : ((l0.length : Int) == (l1.length : Int)) = false := beq_eq_false_iff_ne.mpr c3; have c3b1 : ((l0.length : Int) != (l1.length : Int)) = true := bne_iff_ne.mpr c3; have c3b2 : (l0.length == l1.length) = false := by first | simpa using c3 | (simp at c3 ⊢; omega)
 by_cases c10 : (l0.length : Int) < (l1.length : Int)
 · rw [if_pos c10] at H; have c10b0 := decide_eq_true c10; have c10b1 : decide (l0.length < l1.length) = true := decide_eq_true (Int.ofNat_lt.mp c10); clear c10
   as_aux_lemma =>
    obtain rfl := Option.some.inj H; go_enter Try.func138, Try.ntmps138; go_wp2; repeat (go_quiet (fail); try go_wp2)
    go_ret; exact ⟨eZ, dX⟩
 rw [if_neg c10] at H; have c10b0 := decide_eq_false c10; have c10b1 : decide (l0.length < l1.length) = false := decide_eq_false (fun h => c10 (Int.ofNat_lt.mpr h)); clear c10
 as_aux_lemma =>
  obtain rfl := Option.some.inj H; go_enter Try.func138, Try.ntmps138; go_wp2; repeat (go_quiet (fail); try go_wp2)
  go_ret; exact ⟨eZ, dX⟩
end Go.Proofs.Ytmknclgamadphaa.PPolymodReduces
