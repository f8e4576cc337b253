-- WRITTEN BY sprint.py (a program of this repo, over the kit's print.py): nothing here is trusted, Lean checks it.
import Derived.Test.YtmknclgamadphaaPPolymodPrimesx0
import Derived.Test.YtmknclgamadphaaPPolymodPrimesx1
namespace Go.Proofs.Ytmknclgamadphaa.PPolymodPrimes
open Go.RowKit Go.Proofs.YtmknclgamadphaaW.PrintWords Go.Proofs.YtmknclgamadphaaW.PrintLast Go.Proofs.YtmknclgamadphaaW.PrintMore
attribute [local go_sem] max2_int min2_int max_two min_two max_three min_three max_four min_four   -- for this text's walks alone
set_option linter.unusedVariables false
set_option linter.unusedSimpArgs false

/-! ### fp_Trim: function 88 -/
def trimZ : List Int → List Int
 | [] => []
 | a :: l => match trimZ l with
   | [] => if a = 0 then [] else [a]
   | b :: t => a :: b :: t
theorem trimZ_append_zero (l : List Int) : trimZ (l ++ [0]) = trimZ l := by
 induction l with
 | nil => rfl
 | cons a l ih => simp only [List.cons_append, trimZ, ih]
theorem trimZ_append_ne (l : List Int) (a : Int) (h : a ≠ 0) : trimZ (l ++ [a]) = l ++ [a] := by
 induction l with
 | nil => simp [trimZ, h]
 | cons b l ih =>
   simp only [List.cons_append, trimZ, ih]
   cases l <;> rfl
theorem take_succ_rd (l : List Int) (m : Nat) (h : m < l.length) : l.take (m + 1) = l.take m ++ [rd l m] := by
 rw [List.take_succ_eq_append_getElem h]
 simp [rd, List.getD_eq_getElem?_getD, h]

theorem cut_cap {P : Program} (t e : TypeId) (kh : IntKind) {i : TypeInfo} (ht : P.underlying t = some (.slice e)) (hi : P.info? e = some i) (A : Option Addr) (n c : Nat) (j : Int) (h0 : 0 ≤ j) (hm : j ≤ n) (hc : n ≤ c) :
 ∀ W : World, (Instr.slice t (.slice A n c) none (some (.int kh j)) (some (.int kh j))).run P W = .ok (.slice A j.toNat j.toNat) W := by
 intro W
 have ha : (A.map fun x => x.add 0) = A := by cases A <;> simp [Addr.add]
 have eh : (j.toNat : Int) = j := Int.toNat_of_nonneg h0
 simp [Instr.slice, run_underlying ht, Instr.sliceBounds, run_sliceBound, sliced, sizeOf, typeInfo, hi, Result.andThen, ha, h0, (by omega : j ≤ c), eh]

def fp_Trim.f (k : Nat) (l0 : List Int) : Option (List Int) := some (trimZ l0)
theorem fp_Trim.mono : ∀ a0 k, LeO (fp_Trim.f k a0) (fp_Trim.f (k + 1) a0) := fun _ _ => LeO.refl _
set_option maxHeartbeats 8000000 in
set_option maxRecDepth 100000 in
theorem fp_Trim.calls (k : Nat) (P0_ : Nat → Prop) (A0 : Option Addr) (c0 : Nat) (l0 : List Int) (r : List Int) (w : World) (hs0 : Kd.V (Kd.int .i64) 3 w w.heap.size (fun k_ => P0_ k_) (.slice A0 l0.length c0) l0) (h : fp_Trim.f k l0 = some r) :
 Calls Try.prog 88 #[.slice A0 l0.length c0] w fun e w' => ∃ v0_ : Value, e = .returned (v0_) ∧ Kd.V (Kd.int .i64) 3 w' w.heap.size (fun k_ => (P0_ k_ ∨ w.heap.size ≤ k_)) v0_ r ∧ Below w.heap.size w w' := by
 obtain rfl := Option.some.inj h
 clear h
 have HR0 := ak (Kd.V_reads' hs0).2.2
 have HF0 := ak (Kd.F_mono (Kd.V_at hs0).2.2 (fun k_ hk => (.inl hk : P0_ k_ ∨ w.heap.size ≤ k_)))
 have HL := ak (show (l0.length : Int) ≤ 9223372036854775807 from by have := (Kd.V_reads' hs0).2.2.2.1; omega)
 have HC := ak (show l0.length ≤ c0 from (Kd.V_at hs0).2.1)
 clear hs0
 go_enter Try.func88, Try.ntmps88
 go_wp2
 go_loopg [3] l0.length (fun kq v3 w' => ∃ x : Int, Aside0 (x = (kq : Int)) ∧ v3 = .int .i64 x ∧ Aside0 (kq ≤ l0.length) ∧ Aside0 (trimZ l0 = trimZ (l0.take kq)) ∧ w' = w)
 case atStart => exact ⟨(l0.length : Int), ⟨rfl⟩, rfl, ⟨Nat.le_refl _⟩, ⟨by rw [List.take_length]⟩, rfl⟩
 case round =>
  obtain ⟨x, HX, rfl, HM, HT, rfl⟩ := hrel
  by_cases h0 : 0 < x
  · have c0b : decide (0 < x) = true := decide_eq_true h0
    obtain ⟨k1, rfl⟩ : ∃ m, gk = m + 1 := ⟨gk - 1, by have := HX.out; omega⟩
    obtain ⟨ji, hji⟩ : ∃ j_ : Int, wrap64 (x - 1) = j_ := ⟨_, rfl⟩
    have hjiw : IntKind.i64.wrap (x - 1) = ji := (i64_w _).trans hji
    have HJ := ak (show ji = (k1 : Int) from by rw [← hji]; unfold wrap64; have := HX.out; have := HL.out; have := HM.out; omega)
    have b0 : decide (0 ≤ ji) = true := decide_eq_true (by have := HJ.out; omega)
    have b1 : decide (ji < (l0.length : Int)) = true := decide_eq_true (by have := HJ.out; have := HM.out; omega)
    obtain ⟨ad, e, hx⟩ := Kd.at_int HR0.out ji (of_decide_eq_true b0) (of_decide_eq_true b1)
    cases e
    have b2 := eq_true (of_decide_eq_true b0)
    have b3 := eq_true (of_decide_eq_true b1)
    clear h0
    by_cases hz : rd l0 ji = 0
    · have z0 : (rd l0 ji == 0) = true := beq_iff_eq.mpr hz
      have z1 : (rd l0 ji != 0) = false := bne_eq_false_iff_eq.mpr hz
      have HZ := ak hz
      clear hz
      go_wp2
      (first | go_roundg k1 | (refine Handed.intro k1 ?measure ?_; rotate_left; go_step; (repeat rw [add_plain]); (repeat apply Exists.intro); refine ⟨?rel, rfl⟩))
      case measure => omega
      case rel => exact ⟨ji, HJ, rfl, ⟨by have := HM.out; omega⟩, ⟨by rw [HT.out, take_succ_rd l0 k1 (by have := HM.out; omega), ← HJ.out, HZ.out, trimZ_append_zero]⟩, rfl⟩
    · have z0 : (rd l0 ji == 0) = false := beq_eq_false_iff_ne.mpr hz
      have z1 : (rd l0 ji != 0) = true := bne_iff_ne.mpr hz
      have HZ := ak (show trimZ l0 = l0.take (k1 + 1) from by rw [HT.out, take_succ_rd l0 k1 (by have := HM.out; omega), ← HJ.out, trimZ_append_ne _ _ hz])
      clear hz
      obtain ⟨i0, hi0, _, hsz, _⟩ := info_parts info3
      have hcut := cut_cap (P := Try.prog) 23 3 .i64 Try.underlying23 hi0 (some ad) l0.length c0 x (by have := HX.out; omega) (by have := HX.out; have := HM.out; omega) HC.out
      clear hi0 hsz
      have HY := ak (show x.toNat = (l0.take (k1 + 1)).length from by rw [List.length_take]; have := HX.out; have := HM.out; omega)
      have HF1 := ak (Kd.F_take (m := x.toNat) HF0.out (by have := HX.out; have := HM.out; omega))
      go_wp2
      go_ret
      refine ⟨_, rfl, ?_, Below.refl _ _⟩
      rw [HZ.out, HY.out]
      refine Kd.V_mk (Nat.le_refl _) ?_
      have e1 : l0.take x.toNat = l0.take (k1 + 1) := by congr 1; have := HX.out; omega
      have := HF1.out
      rw [e1] at this
      exact this
  · have c0b : decide (0 < x) = false := decide_eq_false h0
    have hx0 := ak (show gk = 0 from by have := HX.out; omega)
    clear h0
    obtain ⟨i0, hi0, _, hsz, _⟩ := info_parts info3
    have hcut := cut_cap (P := Try.prog) 23 3 .i64 Try.underlying23 hi0 A0 l0.length c0 x (by have := HX.out; omega) (by have := HX.out; have := HM.out; omega) HC.out
    clear hi0 hsz
    have HF1 := ak (Kd.F_take (m := x.toNat) HF0.out (by have := HX.out; have := HM.out; omega))
    go_wp2
    go_ret
    refine ⟨_, rfl, ?_, Below.refl _ _⟩
    have e0 : x.toNat = 0 := by have := HX.out; have := hx0.out; omega
    have e1 : trimZ l0 = [] := by rw [HT.out, hx0.out]; rfl
    have := HF1.out
    rw [e0] at this ⊢
    rw [e1]
    exact Kd.V_mk (c := 0) (Nat.le_refl _) this

/-! ### fp_Inv: function 108 -/
def fp_Inv.l0 : Nat → Int → Int → Int → Int → Int → Option (Int)
 | 0, _, _, _, _, _ => none
 | k + 1, x0, x5, x6, x7, x8 => if x6 > 0 then (if x6 = 0 then (none) else (fp_Inv.l0 k x0 x6 (wrap64 (x5 - (wrap64 ((wrap64 (Int.tdiv x5 x6)) * x6)))) x8 (wrap64 (x7 - (wrap64 ((wrap64 (Int.tdiv x5 x6)) * x8)))))) else ((fp_Mod.f x0 x7).bind fun t126 => (some t126))
def fp_Inv.f (k : Nat) (a0 : Int) (a1 : Int) : Option (Int) := fp_Inv.l0 k a0 a0 a1 0 1
theorem fp_Inv.mono_l : ∀ k, (∀ y0 y1 y2 y3 y4, LeO (fp_Inv.l0 k y0 y1 y2 y3 y4) (fp_Inv.l0 (k + 1) y0 y1 y2 y3 y4))
 | 0 => fun _ _ _ _ _ r h => by simp [fp_Inv.l0] at h
 | k + 1 => by
   have ih0 := fp_Inv.mono_l k
   · intro y0 y1 y2 y3 y4
     unfold fp_Inv.l0
     repeat' first
     | (with_reducible apply ih0)
     | (with_reducible apply LeO.refl)
     | (with_reducible apply LeO.none)
     | (with_reducible refine LeO.ite ?_ ?_)
     | (with_reducible refine LeO.bind ?_ (fun _ => ?_))
theorem fp_Inv.mono : ∀ a0 a1 k, LeO (fp_Inv.f k a0 a1) (fp_Inv.f (k + 1) a0 a1) := by
 intro a0 a1 k
 have ih0 := fp_Inv.mono_l k
 unfold fp_Inv.f
 repeat' first
  | (with_reducible apply ih0)
  | (with_reducible apply LeO.refl)
  | (with_reducible apply LeO.none)
  | (with_reducible refine LeO.ite ?_ ?_)
  | (with_reducible refine LeO.bind ?_ (fun _ => ?_))
set_option maxHeartbeats 8000000 in
set_option maxRecDepth 100000 in
theorem fp_Inv.calls (k : Nat) (a0 : Int) (a1 : Int) (r : Int) (w : World) (h : fp_Inv.f k a0 a1 = some r) :
 Calls Try.prog 108 #[.int .i64 a0, .int .i64 a1] w fun e w' => e = .returned (.int .i64 r) ∧ Drawn0 w w' := by
 have H : (fp_Inv.l0 k a0 a0 a1 0 1) = some r := h
 clear h
 have H' := ak H
 clear H
 go_enter Try.func108, Try.ntmps108
 go_wp2
 go_loopg [5, 6, 7, 8] k (fun kq v5 v6 v7 v8 w' => ∃ (x5_1 : Int) (x6_1 : Int) (x7_1 : Int) (x8_1 : Int), v5 = .int .i64 x5_1 ∧ v6 = .int .i64 x6_1 ∧ v7 = .int .i64 x7_1 ∧ v8 = .int .i64 x8_1 ∧ Aside0 (fp_Inv.l0 kq a0 x5_1 x6_1 x7_1 x8_1 = some r) ∧ Aside0 (kq ≤ k) ∧ Drawn0 w w')
 case atStart => exact ⟨(a0), (a1), (0), (1), (by first | rfl | (simp; done) | (simp [*]; done)), (by first | rfl | (simp; done) | (simp [*]; done)), (by first | rfl | (simp; done) | (simp [*]; done)), (by first | rfl | (simp; done) | (simp [*]; done)), H', ⟨Nat.le_refl _⟩, by repeat (first | exact Drawn0.refl _ | apply Drawn0.step)⟩
 case round =>
  clear H'
  try clear c1
  try clear p2
  obtain ⟨x5_1, x6_1, x7_1, x8_1, rfl, rfl, rfl, rfl, HA, HK1, ⟨m1, rfl⟩⟩ := hrel
  cases gk with
  | zero => exact absurd HA.out (by simp [fp_Inv.l0])
  | succ k1 =>
    have H := HA.out
    clear HA
    simp only [fp_Inv.l0] at H
    by_cases c3 : x6_1 > 0
    · rw [if_pos c3] at H
      have c3b0 : decide (0 < x6_1) = true := decide_eq_true c3
      clear c3
      by_cases c4 : x6_1 = 0
      · rw [if_pos c4] at H
        exact absurd H (by simp)
      · rw [if_neg c4] at H
        have c4b0 : (x6_1 == 0) = false := beq_eq_false_iff_ne.mpr c4
        have c4b1 : (x6_1 != 0) = true := bne_iff_ne.mpr c4
        as_aux_lemma =>
         have H' := ak H
         clear H
         go_wp2
         (first | go_roundg k1 | (refine Handed.intro k1 ?measure ?_; rotate_left; go_step; (repeat rw [add_plain]); (repeat apply Exists.intro); refine ⟨?rel, rfl⟩))
         case measure => have := HK1.out; omega
         case rel => exact ⟨(x6_1), (wrap64 (x5_1 - (wrap64 ((wrap64 (Int.tdiv x5_1 x6_1)) * x6_1)))), (x8_1), (wrap64 (x7_1 - (wrap64 ((wrap64 (Int.tdiv x5_1 x6_1)) * x8_1)))), (by first | rfl | (simp; done) | (simp [*]; done)), (by first | rfl | (simp; done) | (simp [*]; done)), (by first | rfl | (simp; done) | (simp [*]; done)), (by first | rfl | (simp; done) | (simp [*]; done)), H', ⟨by have := HK1.out; omega⟩, by repeat (first | exact Drawn0.refl _ | apply Drawn0.step)⟩
    · rw [if_neg c3] at H
      have c3b0 : decide (0 < x6_1) = false := decide_eq_false c3
      clear c3
      replace H := Option.bind_eq_some_iff.mp H
      obtain ⟨t126, A50, H⟩ := H
      replace H : (some t126) = some r := H
      have A5 := ak A50
      clear A50
      as_aux_lemma =>
       obtain rfl := Option.some.inj H
       go_wp2_with (first | ((with_reducible refine gate_callee (f := 87) rfl ?_); refine goesL_ (some 31) rfl rfl Try.func87 (by kernel_rfl) rfl #[.int .i64 a0, .int .i64 x7_1] rfl mX ?_; (with_reducible refine (fp_Mod.calls a0 x7_1 t126 _ A5.out).mono ?_); rintro e w' ⟨rfl, ⟨nd, rfl⟩⟩; refine ⟨_, rfl, ?_⟩))
       go_ret
       exact ⟨by first | rfl | (simp; done) | (simp [*]; done), by repeat (first | exact Drawn0.refl _ | apply Drawn0.step)⟩

/-! ### fp_DivMod: function 74 -/
mutual
def fp_DivMod.l0 : Nat → Int → List Int → List Int → Int → List Int → Int → Int → Option (List Int × List Int)
 | 0, _, _, _, _, _, _, _ => none
 | k + 1, x0, x2, x8, x9, x10, x11, x12 => if x12 ≥ 0 then (if 0 ≤ (wrap64 ((wrap64 (x12 + x9)) - 1)) then (if (wrap64 ((wrap64 (x12 + x9)) - 1)) < (x8.length : Int) then (if x0 = 0 then (none) else (if 0 ≤ x12 then (if x12 < (x10.length : Int) then (fp_DivMod.l1 k x0 x2 x8 x9 (x10.set (x12 : Int).toNat (Int.tmod (wrap64 ((rd x8 (wrap64 ((wrap64 (x12 + x9)) - 1))) * x11)) x0)) x11 x12 (Int.tmod (wrap64 ((rd x8 (wrap64 ((wrap64 (x12 + x9)) - 1))) * x11)) x0) x2 (x2.length : Int) 0) else (none)) else (none))) else (none)) else (none)) else ((fp_Trim.f k x10).bind fun t138 => (if 0 ≤ (wrap64 (x9 - 1)) then (if (wrap64 (x9 - 1)) ≤ (x8.length : Int) then ((fp_Trim.f k (x8.take ((wrap64 (x9 - 1)) : Int).toNat)).bind fun t146 => (some (t138, t146))) else (none)) else (none)))
def fp_DivMod.l1 : Nat → Int → List Int → List Int → Int → List Int → Int → Int → Int → List Int → Int → Int → Option (List Int × List Int)
 | 0, _, _, _, _, _, _, _, _, _, _, _ => none
 | k + 1, x0, x2, x8, x9, x10, x11, x12, x13, x62, x63, x64 => if x64 < x63 then (if 0 ≤ x64 then (if x64 < (x62.length : Int) then (if 0 ≤ (wrap64 (x12 + x64)) then (if (wrap64 (x12 + x64)) < (x8.length : Int) then ((fp_Mod.f x0 (wrap64 ((rd x8 (wrap64 (x12 + x64))) - (wrap64 (x13 * (rd x62 x64)))))).bind fun t153 => (fp_DivMod.l1 k x0 x2 (x8.set ((wrap64 (x12 + x64)) : Int).toNat t153) x9 x10 x11 x12 x13 x62 x63 (wrap64 (x64 + 1)))) else (none)) else (none)) else (none)) else (none)) else (fp_DivMod.l0 k x0 x2 x8 x9 x10 x11 (wrap64 (x12 - 1)))
end
def fp_DivMod.f (k : Nat) (a0 : Int) (l1 : List Int) (l2 : List Int) : Option (List Int × List Int) := (some (([] : List Int) : List Int)).bind fun y127 => (if y127.length + l1.length < 17592186044416 then ((some (y127 ++ l1 : List Int)).bind fun y130 => (if (l1.length : Int) < (l2.length : Int) then (some (([] : List Int), y130)) else (if 0 ≤ (wrap64 ((wrap64 ((l1.length : Int) - (l2.length : Int))) + 1)) then (if (wrap64 ((wrap64 ((l1.length : Int) - (l2.length : Int))) + 1) : Int).toNat ≤ 35184372088832 then (if 0 ≤ (wrap64 ((l2.length : Int) - 1)) then (if (wrap64 ((l2.length : Int) - 1)) < (l2.length : Int) then ((fp_Inv.f k a0 (rd l2 (wrap64 ((l2.length : Int) - 1)))).bind fun t137 => (fp_DivMod.l0 k a0 l2 y130 (l2.length : Int) (List.replicate (wrap64 ((wrap64 ((l1.length : Int) - (l2.length : Int))) + 1) : Int).toNat 0) t137 (wrap64 ((l1.length : Int) - (l2.length : Int))))) else (none)) else (none)) else (none)) else (none)))) else (none))
theorem fp_DivMod.mono_l : ∀ k, (∀ y0 y1 y2 y3 y4 y5 y6, LeO (fp_DivMod.l0 k y0 y1 y2 y3 y4 y5 y6) (fp_DivMod.l0 (k + 1) y0 y1 y2 y3 y4 y5 y6)) ∧ (∀ y0 y1 y2 y3 y4 y5 y6 y7 y8 y9 y10, LeO (fp_DivMod.l1 k y0 y1 y2 y3 y4 y5 y6 y7 y8 y9 y10) (fp_DivMod.l1 (k + 1) y0 y1 y2 y3 y4 y5 y6 y7 y8 y9 y10))
 | 0 => ⟨fun _ _ _ _ _ _ _ r h => by simp [fp_DivMod.l0] at h, fun _ _ _ _ _ _ _ _ _ _ _ r h => by simp [fp_DivMod.l1] at h⟩
 | k + 1 => by
   obtain ⟨ih0, ih1⟩ := fp_DivMod.mono_l k
   refine ⟨?_, ?_⟩
   · intro y0 y1 y2 y3 y4 y5 y6
     unfold fp_DivMod.l0
     repeat' first
     | (with_reducible apply ih0)
     | (with_reducible apply ih1)
     | (with_reducible apply fp_Inv.mono)
     | (with_reducible apply fp_Trim.mono)
     | (with_reducible apply LeO.refl)
     | (with_reducible apply LeO.none)
     | (with_reducible refine LeO.ite ?_ ?_)
     | (with_reducible refine LeO.bind ?_ (fun _ => ?_))
   · intro y0 y1 y2 y3 y4 y5 y6 y7 y8 y9 y10
     unfold fp_DivMod.l1
     repeat' first
     | (with_reducible apply ih0)
     | (with_reducible apply ih1)
     | (with_reducible apply fp_Inv.mono)
     | (with_reducible apply fp_Trim.mono)
     | (with_reducible apply LeO.refl)
     | (with_reducible apply LeO.none)
     | (with_reducible refine LeO.ite ?_ ?_)
     | (with_reducible refine LeO.bind ?_ (fun _ => ?_))
theorem fp_DivMod.mono : ∀ a0 a1 a2 k, LeO (fp_DivMod.f k a0 a1 a2) (fp_DivMod.f (k + 1) a0 a1 a2) := by
 intro a0 a1 a2 k
 obtain ⟨ih0, ih1⟩ := fp_DivMod.mono_l k
 unfold fp_DivMod.f
 repeat' first
  | (with_reducible apply ih0)
  | (with_reducible apply ih1)
  | (with_reducible apply fp_Inv.mono)
  | (with_reducible apply fp_Trim.mono)
  | (with_reducible apply LeO.refl)
  | (with_reducible apply LeO.none)
  | (with_reducible refine LeO.ite ?_ ?_)
  | (with_reducible refine LeO.bind ?_ (fun _ => ?_))
def fp_DivMod.T17 : Bool × List (List Nat × List Nat) := (true, [([], []), ([0], [0]), ([], []), ([], []), ([3], [3]), ([2, 4], [2, 4]), ([5, 1], [5]), ([1, 6, 0, 1], [1]), ([6, 7, 0, 1, 2, 3, 4, 5, 6, 7], [6])])
def fp_DivMod.B17 : List Nat := [0, 1, 0, 0, 8, 28, 63, 127, 255]
theorem fp_DivMod.tab17 : rtab .any (opsOf Try.f74 17) = fp_DivMod.T17 := by kernel_rfl
theorem fp_DivMod.bits17 : waitsOk fp_DivMod.T17.2 fp_DivMod.B17 = true := by kernel_rfl
set_option maxHeartbeats 8000000 in
set_option maxRecDepth 100000 in
theorem fp_DivMod.calls (k : Nat) (a0 : Int) (A1 : Option Addr) (c1 : Nat) (l1 : List Int) (A2 : Option Addr) (c2 : Nat) (l2 : List Int) (r1 : List Int) (r2 : List Int) (w : World) (hr1 : Kd.C (Kd.int .i64) w A1 l1.length l1) (hc1 : l1.length ≤ c1) (hr2 : Kd.C (Kd.int .i64) w A2 l2.length l2) (hc2 : l2.length ≤ c2) (h : fp_DivMod.f k a0 l1 l2 = some (r1, r2)) :
 Calls Try.prog 74 #[.int .i64 a0, .slice A1 l1.length c1, .slice A2 l2.length c2] w fun e w' => ∃ v0_ v1_ : Value, e = .returned (.tuple #[v0_, v1_]) ∧ Kd.V (Kd.int .i64) 3 w' w.heap.size (fun k_ => (w.heap.size ≤ k_)) v0_ r1 ∧ Kd.V (Kd.int .i64) 3 w' w.heap.size (fun k_ => (w.heap.size ≤ k_)) v1_ r2 ∧ Below w.heap.size w w' := by
 have HR1 := ak hr1
 have HC1 := ak hc1
 clear hr1 hc1
 have HR2 := ak hr2
 have HC2 := ak hc2
 clear hr2 hc2
 have HB := ak (Below.refl w.heap.size w)
 have H : ((some (([] : List Int) : List Int)).bind fun y127 => (if y127.length + l1.length < 17592186044416 then ((some (y127 ++ l1 : List Int)).bind fun y130 => (if (l1.length : Int) < (l2.length : Int) then (some (([] : List Int), y130)) else (if 0 ≤ (wrap64 ((wrap64 ((l1.length : Int) - (l2.length : Int))) + 1)) then (if (wrap64 ((wrap64 ((l1.length : Int) - (l2.length : Int))) + 1) : Int).toNat ≤ 35184372088832 then (if 0 ≤ (wrap64 ((l2.length : Int) - 1)) then (if (wrap64 ((l2.length : Int) - 1)) < (l2.length : Int) then ((fp_Inv.f k a0 (rd l2 (wrap64 ((l2.length : Int) - 1)))).bind fun t137 => (fp_DivMod.l0 k a0 l2 y130 (l2.length : Int) (List.replicate (wrap64 ((wrap64 ((l1.length : Int) - (l2.length : Int))) + 1) : Int).toNat 0) t137 (wrap64 ((l1.length : Int) - (l2.length : Int))))) else (none)) else (none)) else (none)) else (none)))) else (none))) = some (r1, r2) := h
 clear h
 obtain ⟨y127, hy127⟩ : ∃ y_ : List Int, y_ = (([] : List Int)) := ⟨_, rfl⟩
 replace H : (if y127.length + l1.length < 17592186044416 then ((some (y127 ++ l1 : List Int)).bind fun y130 => (if (l1.length : Int) < (l2.length : Int) then (some (([] : List Int), y130)) else (if 0 ≤ (wrap64 ((wrap64 ((l1.length : Int) - (l2.length : Int))) + 1)) then (if (wrap64 ((wrap64 ((l1.length : Int) - (l2.length : Int))) + 1) : Int).toNat ≤ 35184372088832 then (if 0 ≤ (wrap64 ((l2.length : Int) - 1)) then (if (wrap64 ((l2.length : Int) - 1)) < (l2.length : Int) then ((fp_Inv.f k a0 (rd l2 (wrap64 ((l2.length : Int) - 1)))).bind fun t137 => (fp_DivMod.l0 k a0 l2 y130 (l2.length : Int) (List.replicate (wrap64 ((wrap64 ((l1.length : Int) - (l2.length : Int))) + 1) : Int).toNat 0) t137 (wrap64 ((l1.length : Int) - (l2.length : Int))))) else (none)) else (none)) else (none)) else (none)))) else (none)) = some (r1, r2) := by first | (rw [hy127]; with_reducible exact H) | (have H2_ := (Option.bind_some _ _).symm.trans H; rw [hy127]; with_reducible exact H2_) | (have H2_ := (Option.bind_some _ _).symm.trans H; with_reducible exact H2_) | with_reducible exact H | (rw [hy127]; exact H) | exact H
 have Ny127 := ak hy127
 clear hy127
 by_cases c4 : y127.length + l1.length < 17592186044416
 · rw [if_pos c4] at H
   have LMc4 := ak c4
   clear c4
   obtain ⟨y130, hy130⟩ : ∃ y_ : List Int, y_ = (y127 ++ l1) := ⟨_, rfl⟩
   replace H : (if (l1.length : Int) < (l2.length : Int) then (some (([] : List Int), y130)) else (if 0 ≤ (wrap64 ((wrap64 ((l1.length : Int) - (l2.length : Int))) + 1)) then (if (wrap64 ((wrap64 ((l1.length : Int) - (l2.length : Int))) + 1) : Int).toNat ≤ 35184372088832 then (if 0 ≤ (wrap64 ((l2.length : Int) - 1)) then (if (wrap64 ((l2.length : Int) - 1)) < (l2.length : Int) then ((fp_Inv.f k a0 (rd l2 (wrap64 ((l2.length : Int) - 1)))).bind fun t137 => (fp_DivMod.l0 k a0 l2 y130 (l2.length : Int) (List.replicate (wrap64 ((wrap64 ((l1.length : Int) - (l2.length : Int))) + 1) : Int).toNat 0) t137 (wrap64 ((l1.length : Int) - (l2.length : Int))))) else (none)) else (none)) else (none)) else (none))) = some (r1, r2) := by first | (rw [hy130]; with_reducible exact H) | (have H2_ := (Option.bind_some _ _).symm.trans H; rw [hy130]; with_reducible exact H2_) | (have H2_ := (Option.bind_some _ _).symm.trans H; with_reducible exact H2_) | with_reducible exact H | (rw [hy130]; exact H) | exact H
   have Ny130 := ak hy130
   clear hy130
   by_cases c5 : (l1.length : Int) < (l2.length : Int)
   · rw [if_pos c5] at H
     have c5b0 : decide ((l1.length : Int) < (l2.length : Int)) = true := decide_eq_true c5
     have c5b1 : decide (l1.length < l2.length) = true := decide_eq_true (Int.ofNat_lt.mp c5)
     clear c5
     as_aux_lemma =>
      simp only [Option.some.injEq, Prod.mk.injEq] at H
      obtain ⟨rfl, rfl⟩ := H
      go_enter Try.func74, Try.ntmps74
      go_wp2_with (first | ((with_reducible refine gate_dst (N := 16) rfl ?_); refine Kd.R_lit (Kd.int .i64) _ 3 ?hg (N := 16) ?hd (xs := ([] : List Int)) (inner := []) (ok := fun _ => True) (okp := fun _ => True) ?hr ?hp (fun _ hk => hk) trivial (Below.refl _ _) (Nat.le_refl _) (by simp) ?_; (case hd => rfl); (case hg => rfl); (case hr => first | (go_simp; done) | (go_simp; rfl)); (case hp => exact (Reps.none _ _)); intro v128 w6 ho7 hb hg_ hnew_; clear hg_ hnew_; (first | rw [← Ny127.out] at ho7 | (simp only [Int.reduceToNat] at ho7; rw [← Ny127.out] at ho7)); have n0_ := ak (Kd.R_lower (Kd.R_newM (M := fun k_ => (w.heap.size ≤ k_)) ho7 (below_size bX) (fun k_ h_ => h_)) (below_size bX)); have n1_ := ak (below_step bX hb); clear HB; have HO129 := n0_; have HB := n1_; clear n0_ n1_; clear hb ho7) | ((with_reducible refine gate_builtin (b := .append) (xs := #[.tmp 16, .tmp 17]) rfl ?_); at_builtin; refine Kd.R_append_rows (Kd.int .i64) (w0 := w) w.heap.size rfl (.tmp 16) (.tmp 17) 23 3 (.int .i64 0) 8 rfl Try.underlying23 info3 rfl (by decide) (by omega) v128 y127 l1 _ _ _ (fun k_ => (w.heap.size ≤ k_)) (fun _ => False) rfl rfl ?aO ?aR (fun _ _ h => h) (fun _ h => h.elim) ?aF ?aB ?aS ?aL ?_; (case aR => exact cX (Kd.C_below HR1.out HB.out)); (case aB => exact bX); (case aF => exact (fun k_ hk => (Nat.le_trans (below_size bX) hk))); (case aO => exact (by (with_reducible repeat (first | apply Kd.R_alloc | apply Kd.R_drewN | apply Kd.R_drew)); exact Kd.R_mono HO129.out (fun _ hk => hk.1))); (case aS => exact (below_size bX)); (case aL => have := LMc4.out; omega); intro v131 w8 ho hb hg hat; rw [← Ny130.out] at ho; have n0_ := ak (hb); have n1_ := ak (ho); clear HB; clear HO129; have HB := n0_; have HO132 := n1_; clear n0_ n1_; clear ho hb hg hat))
      go_ret2
      exact ⟨(.slice none 0 0), _, by first | rfl | (simp [errW_none, errW_some] <;> rfl) | (simp [*, errW_none, errW_some] <;> rfl), (Kd.V_nil _ _ _ _ _), Kd.R_V (rX HO132.out), by repeat (first | (with_reducible first | exact HB.out | apply bA | apply bB | apply bC) | exact HB.out)⟩
   · rw [if_neg c5] at H
     have c5b0 : decide ((l1.length : Int) < (l2.length : Int)) = false := decide_eq_false c5
     have c5b1 : decide (l1.length < l2.length) = false := decide_eq_false (fun h => c5 (Int.ofNat_lt.mpr h))
     clear c5
     obtain ⟨ji9, hji9⟩ : ∃ j_ : Int, (wrap64 ((wrap64 ((l1.length : Int) - (l2.length : Int))) + 1)) = j_ := ⟨_, rfl⟩
     replace H : (if 0 ≤ (ji9) then (if (ji9 : Int).toNat ≤ 35184372088832 then (if 0 ≤ (wrap64 ((l2.length : Int) - 1)) then (if (wrap64 ((l2.length : Int) - 1)) < (l2.length : Int) then ((fp_Inv.f k a0 (rd l2 (wrap64 ((l2.length : Int) - 1)))).bind fun t137 => (fp_DivMod.l0 k a0 l2 y130 (l2.length : Int) (List.replicate (ji9 : Int).toNat 0) t137 (wrap64 ((l1.length : Int) - (l2.length : Int))))) else (none)) else (none)) else (none)) else (none)) = some (r1, r2) := by first | (rw [hji9] at H; exact H) | (simp only [hji9] at H ⊢; exact H)
     have hji9w : (IntKind.i64.wrap ((wrap64 ((l1.length : Int) - (l2.length : Int))) + 1)) = ji9 := (i64_w _).trans hji9
     by_cases c10 : 0 ≤ (ji9)
     · rw [if_pos c10] at H
       have c10b0 := eq_true c10
       have c10b1 : decide (0 ≤ (ji9)) = true := decide_eq_true c10
       clear c10
       by_cases c11 : (ji9 : Int).toNat ≤ 35184372088832
       · rw [if_pos c11] at H
         have c11b0 := eq_true c11
         have c11b1 : decide ((ji9 : Int).toNat ≤ 35184372088832) = true := decide_eq_true c11
         clear c11
         obtain ⟨y133, hy133⟩ : ∃ y_ : List Int, y_ = (List.replicate (ji9 : Int).toNat 0) := ⟨_, rfl⟩
         replace H : (if 0 ≤ (wrap64 ((l2.length : Int) - 1)) then (if (wrap64 ((l2.length : Int) - 1)) < (l2.length : Int) then ((fp_Inv.f k a0 (rd l2 (wrap64 ((l2.length : Int) - 1)))).bind fun t137 => (fp_DivMod.l0 k a0 l2 y130 (l2.length : Int) y133 t137 (wrap64 ((l1.length : Int) - (l2.length : Int))))) else (none)) else (none)) = some (r1, r2) := by first | (rw [hy133]; with_reducible exact H) | (have H2_ := (Option.bind_some _ _).symm.trans H; rw [hy133]; with_reducible exact H2_) | (have H2_ := (Option.bind_some _ _).symm.trans H; with_reducible exact H2_) | with_reducible exact H | (rw [hy133]; exact H) | exact H
         have Ny133 := ak hy133
         clear hy133
         obtain ⟨ji12, hji12⟩ : ∃ j_ : Int, (wrap64 ((l2.length : Int) - 1)) = j_ := ⟨_, rfl⟩
         replace H : (if 0 ≤ (ji12) then (if (ji12) < (l2.length : Int) then ((fp_Inv.f k a0 (rd l2 (ji12))).bind fun t137 => (fp_DivMod.l0 k a0 l2 y130 (l2.length : Int) y133 t137 (wrap64 ((l1.length : Int) - (l2.length : Int))))) else (none)) else (none)) = some (r1, r2) := by first | (rw [hji12] at H; exact H) | (simp only [hji12] at H ⊢; exact H)
         have hji12w : (IntKind.i64.wrap ((l2.length : Int) - 1)) = ji12 := (i64_w _).trans hji12
         by_cases c13 : 0 ≤ (ji12)
         · rw [if_pos c13] at H
           have c13b0 : decide (0 ≤ (ji12)) = true := decide_eq_true c13
           clear c13
           by_cases c14 : (ji12) < (l2.length : Int)
           · rw [if_pos c14] at H
             have c14b0 : decide ((ji12) < (l2.length : Int)) = true := decide_eq_true c14
             clear c14
             replace H := Option.bind_eq_some_iff.mp H
             obtain ⟨t137, A150, H⟩ := H
             replace H : (fp_DivMod.l0 k a0 l2 y130 (l2.length : Int) y133 t137 (wrap64 ((l1.length : Int) - (l2.length : Int)))) = some (r1, r2) := H
             have A15 := ak A150
             clear A150
             have H' := ak H
             clear H
             go_enter Try.func74, Try.ntmps74
             go_wp2_with (first | ((with_reducible refine gate_dst (N := 16) rfl ?_); refine Kd.R_lit (Kd.int .i64) _ 3 ?hg (N := 16) ?hd (xs := ([] : List Int)) (inner := []) (ok := fun _ => True) (okp := fun _ => True) ?hr ?hp (fun _ hk => hk) trivial (Below.refl _ _) (Nat.le_refl _) (by simp) ?_; (case hd => rfl); (case hg => rfl); (case hr => first | (go_simp; done) | (go_simp; rfl)); (case hp => exact (Reps.none _ _)); intro v128 w16 ho17 hb hg_ hnew_; clear hg_ hnew_; (first | rw [← Ny127.out] at ho17 | (simp only [Int.reduceToNat] at ho17; rw [← Ny127.out] at ho17)); have n0_ := ak (Kd.R_lower (Kd.R_newM (M := fun k_ => (w.heap.size ≤ k_)) ho17 (below_size bX) (fun k_ h_ => h_)) (below_size bX)); have n1_ := ak (below_step bX hb); clear HB; have HO129 := n0_; have HB := n1_; clear n0_ n1_; clear hb ho17) | ((with_reducible refine gate_builtin (b := .append) (xs := #[.tmp 16, .tmp 17]) rfl ?_); at_builtin; refine Kd.R_append_rows (Kd.int .i64) (w0 := w) w.heap.size rfl (.tmp 16) (.tmp 17) 23 3 (.int .i64 0) 8 rfl Try.underlying23 info3 rfl (by decide) (by omega) v128 y127 l1 _ _ _ (fun k_ => (w.heap.size ≤ k_)) (fun _ => False) rfl rfl ?aO ?aR (fun _ _ h => h) (fun _ h => h.elim) ?aF ?aB ?aS ?aL ?_; (case aR => exact cX (Kd.C_below HR1.out HB.out)); (case aB => exact bX); (case aF => exact (fun k_ hk => (Nat.le_trans (below_size bX) hk))); (case aO => exact (by (with_reducible repeat (first | apply Kd.R_alloc | apply Kd.R_drewN | apply Kd.R_drew)); exact Kd.R_mono HO129.out (fun _ hk => hk.1))); (case aS => exact (below_size bX)); (case aL => have := LMc4.out; omega); intro v131 w18 ho hb hg hat; rw [← Ny130.out] at ho; have n0_ := ak (hb); have n1_ := ak (ho); clear HB; clear HO129; have HB := n0_; have HO132 := n1_; clear n0_ n1_; clear ho hb hg hat) | ((with_reducible refine gate_dst (N := 31) rfl ?_); refine Kd.R_make (Kd.int .i64) _ 3 rfl (N := 31) rfl 23 _ _ rfl ji9 rfl rfl Try.underlying23 (.int .i64 0) 8 info3 rfl (by decide) (by omega) 0 (ok := fun _ => True) (okp := fun _ => True) rfl (fun _ hk => hk) trivial (of_decide_eq_true aX) (Nat.le_trans (Nat.mul_le_mul_right _ (of_decide_eq_true aX : ji9.toNat ≤ 35184372088832)) (by omega)) (Below.refl _ _) (Nat.le_refl _) ?_; intro v134 w19 ho20 hb hg_ hnew_; clear hg_ hnew_; (first | rw [← Ny133.out] at ho20 | (simp only [Int.reduceToNat] at ho20; rw [← Ny133.out] at ho20)); have n0_ := ak (Kd.R_elder' (rX HO132.out) (Kd.R_base ho20) hb); have n1_ := ak (Kd.R_lower (Kd.R_new' (Kd.R_newM (M := fun k_ => (w.heap.size ≤ k_)) ho20 (below_size bX) (fun k_ h_ => h_)) (Kd.R_lt (rX HO132.out))) (below_size bX)); have n2_ := ak (below_step bX hb); clear HO132; clear HB; have HO132 := n0_; have HO135 := n1_; have HB := n2_; clear n0_ n1_ n2_; clear hb ho20; have p136 : 0 ≤ ((ji12) : Int) := of_decide_eq_true aX; have q136 : (ji12) < (l2.length : Int) := of_decide_eq_true aX; obtain ⟨ad136, e136, hx136_0⟩ := Kd.at_int HR2.out (ji12) p136 q136; cases e136; replace hx136_0 := (HB.out.cell (World.block_lt_of_cell? w _ hx136_0)).trans hx136_0; replace p136 := eq_true p136; replace q136 := eq_true q136) | ((with_reducible refine gate_callee (f := 108) rfl ?_); refine goesL_ (some 38) rfl rfl Try.func108 (by kernel_rfl) rfl #[.int .i64 a0, .int .i64 (rd l2 (ji12))] rfl (by (try simp only [List.map_toArray, List.map_cons, List.map_nil]); first | done | (simp only [hji12]; rfl) | rfl | (simp only [List.length_drop, List.length_take]; rfl)) ?_; (with_reducible refine (fp_Inv.calls k a0 (rd l2 (ji12)) t137 _ A15.out).mono ?_); rintro e w' ⟨rfl, ⟨nd, rfl⟩⟩; refine ⟨_, rfl, ?_⟩))
             go_loopg [12] k (fun kq v12 w' => ∃ (x8_1 : List Int) (x10_1 : List Int) (x12_1 : Int), v12 = .int .i64 x12_1 ∧ Aside0 (fp_DivMod.l0 kq a0 l2 x8_1 (l2.length : Int) x10_1 t137 x12_1 = some (r1, r2)) ∧ Aside0 (kq ≤ k) ∧ Aside0 (Kd.R (Kd.int .i64) 3 w' w.heap.size (fun k_ => (w.heap.size ≤ k_) ∧ some k_ ≠ (v134 : Value).ownBlock) v131 x8_1) ∧ Aside0 (Kd.R (Kd.int .i64) 3 w' w.heap.size (fun k_ => (w.heap.size ≤ k_) ∧ some k_ ≠ (v131 : Value).ownBlock) v134 x10_1) ∧ Aside0 (Below w.heap.size w w'))
             case atStart => exact ⟨(y130), (y133), (wrap64 ((l1.length : Int) - (l2.length : Int))), (by first | rfl | (simp; done) | (simp [*]; done)), H', ⟨Nat.le_refl _⟩, ⟨by (with_reducible repeat (first | apply Kd.R_alloc | apply Kd.R_drewN | apply Kd.R_drew)); exact HO132.out⟩, ⟨by (with_reducible repeat (first | apply Kd.R_alloc | apply Kd.R_drewN | apply Kd.R_drew)); exact Kd.R_mono HO135.out (fun _ hk => ⟨hk.1.1, hk.2⟩)⟩, ⟨by repeat (first | (with_reducible first | exact HB.out | apply bA | apply bB | apply bC) | exact HB.out)⟩⟩
             case round =>
              clear H'
              try clear c1
              try clear p1
              try clear q1
              try clear hx1
              try clear c2
              try clear p2
              try clear c4
              try clear c5
              try clear c5b0
              try clear c5b1
              try clear p6
              try clear c7
              try clear c10
              try clear c10b0
              try clear c10b1
              try clear c11
              try clear c11b0
              try clear c11b1
              try clear c13
              try clear c13b0
              try clear p13
              try clear q13
              try clear hx13
              try clear c14
              try clear c14b0
              try clear hx136_0
              try clear p136
              try clear q136
              obtain ⟨x8_1, x10_1, x12_1, rfl, HA, HK1, HO_8, HO_10, HB⟩ := hrel
              cases gk with
              | zero => exact absurd HA.out (by simp [fp_DivMod.l0])
              | succ k1 =>
                have H := HA.out
                clear HA
                simp only [fp_DivMod.l0] at H
                by_cases c21 : x12_1 ≥ 0
                · rw [if_pos c21] at H
                  have c21b0 : decide (0 ≤ x12_1) = true := decide_eq_true c21
                  clear c21
                  obtain ⟨ji22, hji22⟩ : ∃ j_ : Int, (wrap64 ((wrap64 (x12_1 + (l2.length : Int))) - 1)) = j_ := ⟨_, rfl⟩
                  replace H : (if 0 ≤ (ji22) then (if (ji22) < (x8_1.length : Int) then (if a0 = 0 then (none) else (if 0 ≤ x12_1 then (if x12_1 < (x10_1.length : Int) then (fp_DivMod.l1 k1 a0 l2 x8_1 (l2.length : Int) (x10_1.set (x12_1 : Int).toNat (Int.tmod (wrap64 ((rd x8_1 (ji22)) * t137)) a0)) t137 x12_1 (Int.tmod (wrap64 ((rd x8_1 (ji22)) * t137)) a0) l2 (l2.length : Int) 0) else (none)) else (none))) else (none)) else (none)) = some (r1, r2) := by first | (rw [hji22] at H; exact H) | (simp only [hji22] at H ⊢; exact H)
                  have hji22w : (IntKind.i64.wrap ((wrap64 (x12_1 + (l2.length : Int))) - 1)) = ji22 := (i64_w _).trans hji22
                  by_cases c23 : 0 ≤ (ji22)
                  · rw [if_pos c23] at H
                    have c23b0 : decide (0 ≤ (ji22)) = true := decide_eq_true c23
                    clear c23
                    by_cases c24 : (ji22) < (x8_1.length : Int)
                    · rw [if_pos c24] at H
                      have c24b0 : decide ((ji22) < (x8_1.length : Int)) = true := decide_eq_true c24
                      clear c24
                      by_cases c25 : a0 = 0
                      · rw [if_pos c25] at H
                        exact absurd H (by simp)
                      · rw [if_neg c25] at H
                        have c25b0 : (a0 == 0) = false := beq_eq_false_iff_ne.mpr c25
                        have c25b1 : (a0 != 0) = true := bne_iff_ne.mpr c25
                        by_cases c26 : 0 ≤ x12_1
                        · rw [if_pos c26] at H
                          have c26b0 : decide (0 ≤ x12_1) = true := decide_eq_true c26
                          clear c26
                          by_cases c27 : x12_1 < (x10_1.length : Int)
                          · rw [if_pos c27] at H
                            have c27b0 : decide (x12_1 < (x10_1.length : Int)) = true := decide_eq_true c27
                            clear c27
                            obtain ⟨y150, hy150⟩ : ∃ y_ : List Int, y_ = (x10_1.set (x12_1 : Int).toNat (Int.tmod (wrap64 ((rd x8_1 (ji22)) * t137)) a0)) := ⟨_, rfl⟩
                            replace H : (fp_DivMod.l1 k1 a0 l2 x8_1 (l2.length : Int) y150 t137 x12_1 (Int.tmod (wrap64 ((rd x8_1 (ji22)) * t137)) a0) l2 (l2.length : Int) 0) = some (r1, r2) := by first | (rw [hy150]; with_reducible exact H) | (have H2_ := (Option.bind_some _ _).symm.trans H; rw [hy150]; with_reducible exact H2_) | (have H2_ := (Option.bind_some _ _).symm.trans H; with_reducible exact H2_) | with_reducible exact H | (rw [hy150]; exact H) | exact H
                            have Ny150 := ak hy150
                            clear hy150
                            have H' := ak H
                            clear H
                            obtain ⟨Ao29, co29, eo29⟩ := Kd.R_slice HO_8.out
                            subst eo29
                            have p149 : 0 ≤ ((ji22) : Int) := of_decide_eq_true aX
                            have q149 : (ji22) < (x8_1.length : Int) := of_decide_eq_true aX
                            obtain ⟨ad149, e149, hx149_0⟩ := Kd.at_int (Kd.R_reads' HO_8.out).2.2 (ji22) p149 q149
                            cases e149
                            replace p149 := eq_true p149
                            replace q149 := eq_true q149
                            have p28 : 0 ≤ (x12_1 : Int) := of_decide_eq_true aX
                            have q28 : (x12_1 : Int) < ((x10_1.length : Int) : Int) := of_decide_eq_true aX
                            obtain ⟨go28, co28, eo28, gb28, gl28, cl28, HG28⟩ := Kd.R_form HO_10.out (by omega)
                            (first | cases eo28 | (injection eo28 with ea_ en_ ec_; (first | subst ea_ | (injection ea_ with ea_; subst ea_)); subst ec_; clear en_))
                            have GB28 := ak gb28
                            have GG28 := ak HG28
                            clear gb28 gl28 HG28
                            obtain ⟨hx28_0, hf28_0⟩ := Kd.R_celln 0 HO_10.out (x12_1 : Int) p28 q28
                            replace p28 := eq_true p28
                            replace q28 := eq_true q28
                            have HP30 := Kd.R_putg HO_10.out (x12_1 : Int) (Int.tmod (wrap64 ((rd x8_1 (ji22)) * t137)) a0)
                            go_wp2_with (first | ((with_reducible refine gate_store (t := 3) (p := 61) rfl ?_); refine store_event (t := 3) (p := 61) (v := ?vo_w31) (w1 := (wr.setCell ⟨go28, (x12_1 : Int).toNat, none⟩ (.int .i64 (Int.tmod (wrap64 ((rd x8_1 (ji22)) * t137)) a0)))) ?hg ?ho ?hn ?hr ?_; (case ho => rfl); (case hg => rfl); (case hn => rfl); (case hr => first | (go_simp; done) | (go_simp; rfl)); intro w31 hw; have hg : wr.grownBy w31 (some go28) := (by rw [hw]; exact HP30.2); have hp_ : Kd.R (Kd.int .i64) 3 w31 w.heap.size (fun k_ => (w.heap.size ≤ k_) ∧ some k_ ≠ (.slice (some ad149) x8_1.length co29 : Value).ownBlock) (.slice (some ⟨go28, 0, none⟩) x10_1.length co28) y150 := (by rw [hw, Ny150.out]; exact HP30.1); clear HP30; have n0_ := ak (Kd.R_after (v := (.slice (some ⟨go28, 0, none⟩) x10_1.length co28)) (v1 := (.slice (some ⟨go28, 0, none⟩) x10_1.length co28)) (ok := (fun k_ => (w.heap.size ≤ k_))) (rX HO_8.out) hg (.inl rfl)); have n1_ := ak (hp_); have n2_ := ak ((by rw [hw]; exact below_set (HB.out) GB28.out : Below w.heap.size w w31)); clear HO_8; clear HO_10; clear HB; have HO_8 := n0_; have HO_10 := n1_; have HB := n2_; clear n0_ n1_ n2_; clear hg hw hp_))
                            go_loopg [64] k1 (fun kq v64 w' => ∃ (x8_2 : List Int) (x64_2 : Int), v64 = .int .i64 x64_2 ∧ Aside0 (fp_DivMod.l1 kq a0 l2 x8_2 (l2.length : Int) y150 t137 x12_1 (Int.tmod (wrap64 ((rd x8_1 (ji22)) * t137)) a0) l2 (l2.length : Int) x64_2 = some (r1, r2)) ∧ Aside0 (kq ≤ k1) ∧ Aside0 (Kd.R (Kd.int .i64) 3 w' w.heap.size (fun k_ => (w.heap.size ≤ k_) ∧ some k_ ≠ ((.slice (some ⟨go28, 0, none⟩) x10_1.length co28) : Value).ownBlock) (.slice (some ad149) x8_1.length co29) x8_2) ∧ Aside0 (Kd.R (Kd.int .i64) 3 w' w.heap.size (fun k_ => (w.heap.size ≤ k_) ∧ some k_ ≠ ((.slice (some ad149) x8_1.length co29) : Value).ownBlock) (.slice (some ⟨go28, 0, none⟩) x10_1.length co28) y150) ∧ Aside0 (Below w.heap.size w w'))
                            case atStart => exact ⟨(x8_1), (0), (by first | rfl | (simp; done) | (simp [*]; done)), H', ⟨Nat.le_refl _⟩, ⟨by (with_reducible repeat (first | apply Kd.R_alloc | apply Kd.R_drewN | apply Kd.R_drew)); exact HO_8.out⟩, ⟨by (with_reducible repeat (first | apply Kd.R_alloc | apply Kd.R_drewN | apply Kd.R_drew)); exact HO_10.out⟩, ⟨by repeat (first | (with_reducible first | exact HB.out | apply bA | apply bB | apply bC) | exact HB.out)⟩⟩
                            case round =>
                             clear H'
                             try clear c1
                             try clear p1
                             try clear q1
                             try clear hx1
                             try clear c2
                             try clear p2
                             try clear q2
                             try clear hx2
                             try clear c4
                             try clear c5
                             try clear c5b0
                             try clear c5b1
                             try clear p6
                             try clear c7
                             try clear c10
                             try clear c10b0
                             try clear c10b1
                             try clear c11
                             try clear c11b0
                             try clear c11b1
                             try clear c13
                             try clear c13b0
                             try clear p13
                             try clear q13
                             try clear hx13
                             try clear c14
                             try clear c14b0
                             try clear p14
                             try clear q14
                             try clear hx14
                             try clear c21
                             try clear c21b0
                             try clear c23
                             try clear c23b0
                             try clear c24
                             try clear c24b0
                             try clear c25
                             try clear c25b0
                             try clear c25b1
                             try clear c26
                             try clear c26b0
                             try clear c27
                             try clear c27b0
                             try clear p28
                             try clear q28
                             try clear hx28
                             try clear hf28
                             try clear hx136_0
                             try clear hx149_0
                             try clear hx28_0
                             try clear p1
                             try clear p13
                             try clear p136
                             try clear p149
                             try clear p2
                             try clear p28
                             try clear p6
                             try clear q1
                             try clear q13
                             try clear q136
                             try clear q149
                             try clear q28
                             obtain ⟨x8_2, x64_2, rfl, HA, HK2, HO_8, HO_10, HB⟩ := hrel
                             have hl8_2 := (Kd.R_reads' HO_8.out).1
                             rw [hl8_2] at HO_8
                             (try simp only [hl8_2])
                             (try simp only [hl8_2] at HO_10)
                             have hl10_2 := (Kd.R_reads' HO_10.out).1
                             rw [hl10_2] at HO_10
                             (try simp only [hl10_2])
                             (try simp only [hl10_2] at HO_8)
                             cases gk with
                             | zero => exact absurd HA.out (by simp [fp_DivMod.l1])
                             | succ k2 =>
                               have H := HA.out
                               clear HA
                               simp only [fp_DivMod.l1] at H
                               by_cases c32 : x64_2 < (l2.length : Int)
                               · rw [if_pos c32] at H
                                 have c32b0 : decide (x64_2 < (l2.length : Int)) = true := decide_eq_true c32
                                 clear c32
                                 by_cases c33 : 0 ≤ x64_2
                                 · rw [if_pos c33] at H
                                   have c33b0 : decide (0 ≤ x64_2) = true := decide_eq_true c33
                                   clear c33
                                   by_cases c34 : x64_2 < (l2.length : Int)
                                   · rw [if_pos c34] at H
                                     have c34b0 : decide (x64_2 < (l2.length : Int)) = true := decide_eq_true c34
                                     clear c34
                                     obtain ⟨ji35, hji35⟩ : ∃ j_ : Int, (wrap64 (x12_1 + x64_2)) = j_ := ⟨_, rfl⟩
                                     replace H : (if 0 ≤ (ji35) then (if (ji35) < (x8_2.length : Int) then ((fp_Mod.f a0 (wrap64 ((rd x8_2 (ji35)) - (wrap64 ((Int.tmod (wrap64 ((rd x8_1 (ji22)) * t137)) a0) * (rd l2 x64_2)))))).bind fun t153 => (fp_DivMod.l1 k2 a0 l2 (x8_2.set ((ji35) : Int).toNat t153) (l2.length : Int) y150 t137 x12_1 (Int.tmod (wrap64 ((rd x8_1 (ji22)) * t137)) a0) l2 (l2.length : Int) (wrap64 (x64_2 + 1)))) else (none)) else (none)) = some (r1, r2) := by first | (rw [hji35] at H; exact H) | (simp only [hji35] at H ⊢; exact H)
                                     have hji35w : (IntKind.i64.wrap (x12_1 + x64_2)) = ji35 := (i64_w _).trans hji35
                                     by_cases c36 : 0 ≤ (ji35)
                                     · rw [if_pos c36] at H
                                       have c36b0 : decide (0 ≤ (ji35)) = true := decide_eq_true c36
                                       clear c36
                                       by_cases c37 : (ji35) < (x8_2.length : Int)
                                       · rw [if_pos c37] at H
                                         have c37b0 : decide ((ji35) < (x8_2.length : Int)) = true := decide_eq_true c37
                                         clear c37
                                         replace H := Option.bind_eq_some_iff.mp H
                                         obtain ⟨t153, A380, H⟩ := H
                                         replace H : (fp_DivMod.l1 k2 a0 l2 (x8_2.set ((ji35) : Int).toNat t153) (l2.length : Int) y150 t137 x12_1 (Int.tmod (wrap64 ((rd x8_1 (ji22)) * t137)) a0) l2 (l2.length : Int) (wrap64 (x64_2 + 1))) = some (r1, r2) := H
                                         have A38 := ak A380
                                         clear A380
                                         obtain ⟨y154, hy154⟩ : ∃ y_ : List Int, y_ = (x8_2.set ((ji35) : Int).toNat t153) := ⟨_, rfl⟩
                                         replace H : (fp_DivMod.l1 k2 a0 l2 y154 (l2.length : Int) y150 t137 x12_1 (Int.tmod (wrap64 ((rd x8_1 (ji22)) * t137)) a0) l2 (l2.length : Int) (wrap64 (x64_2 + 1))) = some (r1, r2) := by first | (rw [hy154]; with_reducible exact H) | (have H2_ := (Option.bind_some _ _).symm.trans H; rw [hy154]; with_reducible exact H2_) | (have H2_ := (Option.bind_some _ _).symm.trans H; with_reducible exact H2_) | with_reducible exact H | (rw [hy154]; exact H) | exact H
                                         have Ny154 := ak hy154
                                         clear hy154
                                         as_aux_lemma =>
                                          have H' := ak H
                                          clear H
                                          have p151 : 0 ≤ (x64_2 : Int) := of_decide_eq_true aX
                                          have q151 : x64_2 < (l2.length : Int) := of_decide_eq_true aX
                                          obtain ⟨ad151, e151, hx151_0⟩ := Kd.at_int HR2.out x64_2 p151 q151
                                          obtain rfl : ad136 = ad151 := (by injection e151)
                                          replace hx151_0 := (HB.out.cell (World.block_lt_of_cell? w _ hx151_0)).trans hx151_0
                                          replace p151 := eq_true p151
                                          replace q151 := eq_true q151
                                          have p152 : 0 ≤ ((ji35) : Int) := of_decide_eq_true aX
                                          have q152 : (ji35) < (x8_2.length : Int) := of_decide_eq_true aX
                                          obtain ⟨ad152, e152, hx152_0⟩ := Kd.at_int (Kd.R_reads' HO_8.out).2.2 (ji35) p152 q152
                                          obtain rfl : ad149 = ad152 := (by injection e152)
                                          replace p152 := eq_true p152
                                          replace q152 := eq_true q152
                                          go_wp2_with (first | ((with_reducible refine gate_callee (f := 87) rfl ?_); refine goesL_ (some 84) rfl rfl Try.func87 (by kernel_rfl) rfl #[.int .i64 a0, .int .i64 (wrap64 ((rd x8_2 (ji35)) - (wrap64 ((Int.tmod (wrap64 ((rd x8_1 (ji22)) * t137)) a0) * (rd l2 x64_2)))))] rfl (by (try simp only [List.map_toArray, List.map_cons, List.map_nil]); first | done | (simp only [hji22, hji35]; rfl) | rfl | (simp only [List.length_drop, List.length_take]; rfl)) ?_; (with_reducible refine (fp_Mod.calls a0 (wrap64 ((rd x8_2 (ji35)) - (wrap64 ((Int.tmod (wrap64 ((rd x8_1 (ji22)) * t137)) a0) * (rd l2 x64_2))))) t153 _ A38.out).mono ?_); rintro e w' ⟨rfl, ⟨nd, rfl⟩⟩; refine ⟨_, rfl, ?_⟩; (try (rw [drewN_self wr]; generalize hq_ : World.drewN wr _ = wr; have n0_ : Aside0 (Kd.R (Kd.int .i64) 3 wr w.heap.size (fun k_ => (w.heap.size ≤ k_) ∧ some k_ ≠ (.slice (some ad149) x8_2.length co29 : Value).ownBlock) (.slice (some ⟨go28, 0, none⟩) y150.length co28) y150) := ⟨by rw [← hq_]; exact (rX HO_10.out)⟩; have n1_ : Aside0 (Kd.R (Kd.int .i64) 3 wr w.heap.size (fun k_ => (w.heap.size ≤ k_) ∧ some k_ ≠ (.slice (some ⟨go28, 0, none⟩) y150.length co28 : Value).ownBlock) (.slice (some ad149) x8_2.length co29) x8_2) := ⟨by rw [← hq_]; exact (rX HO_8.out)⟩; have n2_ : Aside0 (Below w.heap.size w wr) := ⟨by rw [← hq_]; exact bX⟩; clear HO_10 HO_8 HB hq_; have HO_10 := n0_; have HO_8 := n1_; have HB := n2_; clear n0_ n1_ n2_)); have p39 : 0 ≤ ((ji35) : Int) := of_decide_eq_true aX; have q39 : ((ji35) : Int) < ((x8_2.length : Int) : Int) := of_decide_eq_true aX; obtain ⟨go39, co39, eo39, gb39, gl39, cl39, HG39⟩ := Kd.R_form HO_8.out (by omega); (first | cases eo39 | (injection eo39 with ea_ en_ ec_; (first | subst ea_ | (injection ea_ with ea_; subst ea_)); subst ec_; clear en_)); have GB39 := ak gb39; have GG39 := ak HG39; clear gb39 gl39 HG39; (first | simp only [add_plain] at hx149_0 | skip); (first | simp only [add_plain] at hx152_0 | skip); obtain ⟨hx39_0, hf39_0⟩ := Kd.R_celln 0 HO_8.out ((ji35) : Int) p39 q39; replace p39 := eq_true p39; replace q39 := eq_true q39; obtain ⟨hy40_, hz40_⟩ := Kd.R_celln 0 HO_8.out ((ji35) : Int) (of_decide_eq_true aX) (of_decide_eq_true aX); have HP40 := Kd.R_putg HO_8.out ((ji35) : Int) t153) | ((with_reducible refine gate_store (t := 3) (p := 85) rfl ?_); refine store_event (t := 3) (p := 85) (v := ?vo_w41) (w1 := (wr.setCell ⟨go39, ((ji35) : Int).toNat, none⟩ (.int .i64 t153))) ?hg ?ho ?hn ?hr ?_; (case ho => rfl); (case hg => rfl); (case hn => rfl); (case hr => first | (go_simp; done) | (go_simp; rfl)); intro w41 hw; have hg : wr.grownBy w41 (some go39) := (by rw [hw]; exact HP40.2); have hp_ : Kd.R (Kd.int .i64) 3 w41 w.heap.size (fun k_ => (w.heap.size ≤ k_) ∧ some k_ ≠ (.slice (some ⟨go28, 0, none⟩) y150.length co28 : Value).ownBlock) (.slice (some ⟨go39, 0, none⟩) x8_2.length co29) y154 := (by rw [hw, Ny154.out]; exact HP40.1); clear HP40; have n0_ := ak (hp_); have n1_ := ak (Kd.R_after (v := (.slice (some ⟨go39, 0, none⟩) x8_2.length co29)) (v1 := (.slice (some ⟨go39, 0, none⟩) x8_2.length co29)) (ok := (fun k_ => (w.heap.size ≤ k_))) (rX HO_10.out) hg (.inl rfl)); have n2_ := ak ((by rw [hw]; exact below_set (HB.out) GB39.out : Below w.heap.size w w41)); clear HO_8; clear HO_10; clear HB; have HO_8 := n0_; have HO_10 := n1_; have HB := n2_; clear n0_ n1_ n2_; clear hg hw hp_))
                                          (try simp only [← hl8_2, ← hl10_2])
                                          (first | go_roundg k2 | (refine Handed.intro k2 ?measure ?_; rotate_left; go_step; (repeat rw [add_plain]); (repeat apply Exists.intro); refine ⟨?rel, rfl⟩))
                                          case measure => have := HK1.out; have := HK2.out; omega
                                          case rel => exact ⟨(y154), (wrap64 (x64_2 + 1)), (by first | rfl | (simp; done) | (simp [*]; done)), H', ⟨by have := HK1.out; have := HK2.out; omega⟩, ⟨by (try simp only [hl8_2]); (try simp only [hl10_2]); (with_reducible repeat (first | apply Kd.R_alloc | apply Kd.R_drewN | apply Kd.R_drew)); exact HO_8.out⟩, ⟨by (try simp only [hl8_2]); (try simp only [hl10_2]); (with_reducible repeat (first | apply Kd.R_alloc | apply Kd.R_drewN | apply Kd.R_drew)); exact HO_10.out⟩, ⟨by repeat (first | (with_reducible first | exact HB.out | apply bA | apply bB | apply bC) | exact HB.out)⟩⟩
                                       · rw [if_neg c37] at H
                                         exact absurd H (by simp)
                                     · rw [if_neg c36] at H
                                       exact absurd H (by simp)
                                   · rw [if_neg c34] at H
                                     exact absurd H (by simp)
                                 · rw [if_neg c33] at H
                                   exact absurd H (by simp)
                               · rw [if_neg c32] at H
                                 have c32b0 : decide (x64_2 < (l2.length : Int)) = false := decide_eq_false c32
                                 clear c32
                                 as_aux_lemma =>
                                  have H' := ak H
                                  clear H
                                  go_wp2
                                  (try simp only [← hl8_2, ← hl10_2])
                                  (first | go_roundg k2 | (refine Handed.intro k2 ?measure ?_; rotate_left; go_step; (repeat rw [add_plain]); (repeat apply Exists.intro); refine ⟨?rel, rfl⟩))
                                  case measure => have := HK1.out; have := HK2.out; omega
                                  case rel => exact ⟨(x8_2), (y150), (wrap64 (x12_1 - 1)), (by first | rfl | (simp; done) | (simp [*]; done)), H', ⟨by have := HK1.out; have := HK2.out; omega⟩, ⟨by (try simp only [hl8_2]); (try simp only [hl10_2]); (with_reducible repeat (first | apply Kd.R_alloc | apply Kd.R_drewN | apply Kd.R_drew)); exact HO_8.out⟩, ⟨by (try simp only [hl8_2]); (try simp only [hl10_2]); (with_reducible repeat (first | apply Kd.R_alloc | apply Kd.R_drewN | apply Kd.R_drew)); exact HO_10.out⟩, ⟨by repeat (first | (with_reducible first | exact HB.out | apply bA | apply bB | apply bC) | exact HB.out)⟩⟩
                          · rw [if_neg c27] at H
                            exact absurd H (by simp)
                        · rw [if_neg c26] at H
                          exact absurd H (by simp)
                    · rw [if_neg c24] at H
                      exact absurd H (by simp)
                  · rw [if_neg c23] at H
                    exact absurd H (by simp)
                · rw [if_neg c21] at H
                  have c21b0 : decide (0 ≤ x12_1) = false := decide_eq_false c21
                  clear c21
                  replace H := Option.bind_eq_some_iff.mp H
                  obtain ⟨t138, A420, H⟩ := H
                  replace H : (if 0 ≤ (wrap64 ((l2.length : Int) - 1)) then (if (wrap64 ((l2.length : Int) - 1)) ≤ (x8_1.length : Int) then ((fp_Trim.f k1 (x8_1.take ((wrap64 ((l2.length : Int) - 1)) : Int).toNat)).bind fun t146 => (some (t138, t146))) else (none)) else (none)) = some (r1, r2) := H
                  have A42 := ak A420
                  clear A420
                  replace H : (if 0 ≤ (ji12) then (if (ji12) ≤ (x8_1.length : Int) then ((fp_Trim.f k1 (x8_1.take ((ji12) : Int).toNat)).bind fun t146 => (some (t138, t146))) else (none)) else (none)) = some (r1, r2) := by first | (rw [hji12] at H; exact H) | (simp only [hji12] at H ⊢; exact H)
                  (try rw [hji12] at A42)
                  have hji12w : (IntKind.i64.wrap ((l2.length : Int) - 1)) = ji12 := (i64_w _).trans hji12
                  by_cases c43 : 0 ≤ (ji12)
                  · rw [if_pos c43] at H
                    have c43b0 := eq_true c43
                    have c43b1 : decide (0 ≤ (ji12)) = true := decide_eq_true c43
                    clear c43
                    by_cases c44 : (ji12) ≤ (x8_1.length : Int)
                    · rw [if_pos c44] at H
                      have c44b0 := eq_true c44
                      have c44b1 : decide ((ji12) ≤ (x8_1.length : Int)) = true := decide_eq_true c44
                      clear c44
                      obtain ⟨y141, hy141⟩ : ∃ y_ : List Int, y_ = (x8_1.take ((ji12) : Int).toNat) := ⟨_, rfl⟩
                      replace H : ((fp_Trim.f k1 y141).bind fun t146 => (some (t138, t146))) = some (r1, r2) := by first | (rw [hy141]; with_reducible exact H) | (have H2_ := (Option.bind_some _ _).symm.trans H; rw [hy141]; with_reducible exact H2_) | (have H2_ := (Option.bind_some _ _).symm.trans H; with_reducible exact H2_) | with_reducible exact H | (rw [hy141]; exact H) | exact H
                      have Ny141 := ak hy141
                      clear hy141
                      replace H := Option.bind_eq_some_iff.mp H
                      obtain ⟨t146, A450, H⟩ := H
                      replace H : (some (t138, t146)) = some (r1, r2) := H
                      have A45 := ak A450
                      clear A450
                      as_aux_lemma =>
                       simp only [Option.some.injEq, Prod.mk.injEq] at H
                       obtain ⟨rfl, rfl⟩ := H
                       try go_wp2
                       have n0_ := ak (Kd.R_drew HO_8.out)
                       have n1_ := ak (Kd.R_drew HO_10.out)
                       have n2_ := ak (below_drew1 HB.out)
                       clear HO_8
                       clear HO_10
                       clear HB
                       have HO_8 := n0_
                       have HO_10 := n1_
                       have HB := n2_
                       clear n0_ n1_ n2_
                       obtain ⟨Ao48, co48, eo48⟩ := Kd.R_slice HO_8.out
                       (first | subst eo48 | (injection eo48 with f1_ f2_ f3_; have f4_ := f1_.symm; have f5_ := f3_.symm; clear f1_ f2_ f3_; subst f4_; subst f5_))
                       have q47 : ((ji12) : Int) ≤ ((x8_1.length : Int) : Int) := of_decide_eq_true aX
                       obtain ⟨i047, hi047, _, hsz47, _⟩ := info_parts info3
                       have hroom47 : x8_1.length ≤ co48 := (Kd.R_reads' HO_8.out).2.1
                       have hC47 : Kd.F (Kd.int .i64) _ _ Ao48 x8_1.length x8_1 := (Kd.V_at (base := w.heap.size) (Kd.R_V HO_8.out)).2.2
                       have hcut47 := cut_to (P := Try.prog) 23 3 .i64 Try.underlying23 hi047 Ao48 x8_1.length co48 (ji12) (of_decide_eq_true aX) q47 hroom47
                       have hr47 := Kd.F_take (m := ((ji12) : Int).toNat) hC47 (by omega)
                       have hy47 : y141.length = ((ji12) : Int).toNat := (by rw [Ny141.out, List.length_take]; omega)
                       rw [← Ny141.out] at hr47
                       rw [← hy47] at hcut47
                       have HO145 := ak (show Kd.V (Kd.int .i64) 3 _ w.heap.size _ (.slice Ao48 y141.length co48) y141 from Kd.V_mk (by omega) hr47)
                       have HC145 := ak (show y141.length ≤ co48 from by omega)
                       clear hr47 hC47 hroom47 hi047 hsz47
                       have KY47 := ak hy47
                       clear hy47
                       replace q47 := eq_true q47
                       obtain ⟨Ao49, co49, eo49⟩ := Kd.R_slice HO_10.out
                       (first | subst eo49 | (injection eo49 with f1_ f2_ f3_; have f4_ := f1_.symm; have f5_ := f3_.symm; clear f1_ f2_ f3_; subst f4_; subst f5_))
                       refine start_ (n := 9) (S := fun w' => True) (ds := []) #[false, false, false, false, false, false, false, false, false] (by kernel_rfl) rfl rfl trivial (fun hHeld => ?_); refine with_tabW fp_DivMod.tab17 fp_DivMod.bits17 (fun HT_ HW_ => ?_)
                       generalize wr.drew = w46 at HO_8 HO_10 HB HO145 hHeld ⊢
                       refine pure_ (i := 0) (N := some 87) (v := ?_) (a' := ?_) #[true, false, false, false, false, false, false, false, false] rfl rfl (any_of HT_.out (by kernel_rfl)) (fun _ _ _ h => h) (Or.inl ⟨by rfl, ?_⟩) ?_ ?_
                       rotate_left
                       · intro w'
                         go_simp
                         with_reducible rfl
                       rotate_left
                       · simp only [Act.put, sS, s0, s1, i64_w, i32_w]
                         rfl
                       refine pure_ (i := 2) (N := some 89) (v := ?_) (a' := ?_) #[true, false, true, false, false, false, false, false, false] rfl rfl (any_of HT_.out (by kernel_rfl)) (fun _ _ _ h => h) (Or.inl ⟨by rfl, ?_⟩) ?_ ?_
                       rotate_left
                       · intro w'
                         go_simp
                         with_reducible rfl
                       rotate_left
                       · simp only [Act.put, sS, s0, s1, i64_w, i32_w]
                         rfl
                       refine pure_ (i := 3) (N := some 90) (v := ?_) (a' := ?_) #[true, false, true, true, false, false, false, false, false] rfl rfl (any_of HT_.out (by kernel_rfl)) (fun _ _ _ h => h) (Or.inl ⟨by rfl, ?_⟩) ?_ ?_
                       rotate_left
                       · intro w'
                         go_simp
                         with_reducible rfl
                       rotate_left
                       · simp only [Act.put, sS, s0, s1, i64_w, i32_w]
                         rfl
                       refine pure_ (i := 4) (N := some 91) (v := ?_) (a' := ?_) #[true, false, true, true, true, false, false, false, false] rfl rfl (any_of HT_.out (by kernel_rfl)) (fun _ _ _ h => h) (Or.inl ⟨by rfl, ?_⟩) ?_ ?_
                       rotate_left
                       · intro w'
                         go_simp
                         with_reducible rfl
                       rotate_left
                       · simp only [Act.put, sS, s0, s1, i64_w, i32_w]
                         rfl
                       refine pure_ (i := 5) (N := some 92) (v := ?_) (a' := ?_) #[true, false, true, true, true, true, false, false, false] rfl rfl (any_of HT_.out (by kernel_rfl)) (fun _ _ _ h => h) (Or.inl ⟨by rfl, ?_⟩) ?_ ?_
                       rotate_left
                       · intro w'
                         go_simp
                         with_reducible rfl
                       rotate_left
                       · simp only [Act.put, sS, s0, s1, i64_w, i32_w]
                         rfl
                       refine one_ (i := 1) (N := some 88) #[true, true, true, true, true, true, false, false, false] rfl rfl (one_of HT_.out (by kernel_rfl)) (by decide) (fun K hK => ?_)
                       refine goes_ Try.func88 (by kernel_rfl) rfl #[.slice Ao49 x10_1.length co49] (by rfl) rfl rfl mX ?_
                       with_reducible refine (fp_Trim.calls k1 (fun k_ => some k_ = (.slice Ao49 x10_1.length co49 : Value).ownBlock) _ _ x10_1 t138 _ ?side1 A42.out).mono ?_
                       (case side1 => exact Kd.R_V (Kd.R_tight rfl (HO_10.out)))
                       rintro e w50 ⟨v139, rfl, ho0, hb⟩
                       refine ⟨_, rfl, ?_⟩
                       have n0_ := ak (Kd.R_below (rX HO_8.out) hb)
                       have n1_ := ak (Kd.R_below (rX HO_10.out) hb)
                       have n2_ := ak (Kd.V_below (vX HO145.out) hb)
                       have n3_ := ak (Kd.V_lower (Kd.V_mono (ok' := fun k_ => (w.heap.size ≤ k_) ∧ some k_ ≠ (.slice Ao48 x8_1.length co48 : Value).ownBlock) ho0 (fun k_ hk_ => ⟨Or.elim hk_ (fun hs_ => ((HO_10.out).1 k_ hs_.symm).1) (fun hn_ => (Nat.le_trans (below_size bX) hn_)), Or.elim hk_ (fun hs_ => ((HO_10.out).1 k_ hs_.symm).2) (fun hn_ => (Kd.fresh' (Kd.R_lt (rX HO_8.out)) k_ hn_))⟩)) (below_size bX))
                       have n4_ := ak (below_step bX hb)
                       clear HO_8
                       clear HO_10
                       clear HO145
                       clear HB
                       have HO_8 := n0_
                       have HO_10 := n1_
                       have HO145 := n2_
                       have HO140 := n3_
                       have HB := n4_
                       clear n0_ n1_ n2_ n3_ n4_
                       (try clear hb)
                       (try clear hb2)
                       (try clear hk)
                       (try clear hi)
                       (try clear ho0)
                       refine hK.out _ _ trivial (fun hHeld => ?_)
                       clear hK K
                       refine norm_ (a' := ?_) ?_ ?_
                       rotate_left
                       · show Act.put _ (some 88) _ = _
                         simp only [Act.put, sS, s0, s1, i64_w, i32_w]
                         rfl
                       refine one_ (i := 6) (N := some 93) #[true, true, true, true, true, true, true, false, false] rfl rfl (one_of HT_.out (by kernel_rfl)) (by decide) (fun K hK => ?_)
                       refine goes_ Try.func88 (by kernel_rfl) rfl #[.slice Ao48 y141.length co48] (by rfl) rfl rfl mX ?_
                       with_reducible refine (fp_Trim.calls k1 (fun k_ => ((w.heap.size ≤ k_) ∧ some k_ ≠ (.slice Ao49 x10_1.length co49 : Value).ownBlock)) _ _ y141 t146 _ ?side1 A45.out).mono ?_
                       (case side1 => exact HO145.out)
                       rintro e w51 ⟨v147, rfl, ho0, hb⟩
                       refine ⟨_, rfl, ?_⟩
                       have n0_ := ak (Kd.R_below (rX HO_8.out) hb)
                       have n1_ := ak (Kd.R_below (rX HO_10.out) hb)
                       have n2_ := ak (Kd.V_below (vX HO145.out) hb)
                       have n3_ := ak (Kd.V_below (vX HO140.out) hb)
                       have n4_ := ak (Kd.V_lower (Kd.V_mono (ok' := fun k_ => (w.heap.size ≤ k_) ∧ some k_ ≠ (.slice Ao49 x10_1.length co49 : Value).ownBlock) ho0 (fun k_ hk_ => ⟨Or.elim hk_ (fun hs_ => hs_.1) (fun hn_ => (Nat.le_trans (below_size bX) hn_)), Or.elim hk_ (fun hs_ => hs_.2) (fun hn_ => (Kd.fresh' (Kd.R_lt (rX HO_10.out)) k_ hn_))⟩)) (below_size bX))
                       have n5_ := ak (below_step bX hb)
                       clear HO_8
                       clear HO_10
                       clear HO145
                       clear HO140
                       clear HB
                       have HO_8 := n0_
                       have HO_10 := n1_
                       have HO145 := n2_
                       have HO140 := n3_
                       have HO148 := n4_
                       have HB := n5_
                       clear n0_ n1_ n2_ n3_ n4_ n5_
                       (try clear hb)
                       (try clear hb2)
                       (try clear hk)
                       (try clear hi)
                       (try clear ho0)
                       refine hK.out _ _ trivial (fun hHeld => ?_)
                       clear hK K
                       refine norm_ (a' := ?_) ?_ ?_
                       rotate_left
                       · show Act.put _ (some 93) _ = _
                         simp only [Act.put, sS, s0, s1, i64_w, i32_w]
                         rfl
                       refine pure_ (i := 7) (N := some 6) (v := ?_) (a' := ?_) #[true, true, true, true, true, true, true, true, false] rfl rfl (any_of HT_.out (by kernel_rfl)) (fun _ _ _ h => h) (Or.inl ⟨by rfl, ?_⟩) ?_ ?_
                       rotate_left
                       · intro w'
                         go_simp
                         with_reducible rfl
                       rotate_left
                       · simp only [Act.put, sS, s0, s1, i64_w, i32_w]
                         rfl
                       refine pure_ (i := 8) (N := some 7) (v := ?_) (a' := ?_) #[true, true, true, true, true, true, true, true, true] rfl rfl (any_of HT_.out (by kernel_rfl)) (fun _ _ _ h => h) (Or.inl ⟨by rfl, ?_⟩) ?_ ?_
                       rotate_left
                       · intro w'
                         go_simp
                         with_reducible rfl
                       rotate_left
                       · simp only [Act.put, sS, s0, s1, i64_w, i32_w]
                         rfl
                       refine done_ (done_of HT_.out (by kernel_rfl)) ?_
                       try go_wp2
                       go_ret2
                       exact ⟨_, _, by first | rfl | (simp [errW_none, errW_some] <;> rfl) | (simp only [← hji9, ← hji12, ← hji12]; first | rfl | (simp [errW_none, errW_some] <;> rfl)) | (simp [*, errW_none, errW_some] <;> rfl), by (with_reducible repeat (first | apply vA | apply vB | apply vC)); exact Kd.V_mono HO140.out (fun _ hk => hk.1), by (with_reducible repeat (first | apply vA | apply vB | apply vC)); exact Kd.V_mono HO148.out (fun _ hk => hk.1), by repeat (first | (with_reducible first | exact HB.out | apply bA | apply bB | apply bC) | exact HB.out)⟩
                    · rw [if_neg c44] at H
                      exact absurd H (by simp)
                  · rw [if_neg c43] at H
                    exact absurd H (by simp)
           · rw [if_neg c14] at H
             exact absurd H (by simp)
         · rw [if_neg c13] at H
           exact absurd H (by simp)
       · rw [if_neg c11] at H
         exact absurd H (by simp)
     · rw [if_neg c10] at H
       exact absurd H (by simp)
 · rw [if_neg c4] at H
   exact absurd H (by simp)

/-! ### fp_Rem: function 70 -/
def fp_Rem.f (k : Nat) (a0 : Int) (l1 : List Int) (l2 : List Int) : Option (List Int) := (fp_DivMod.f k a0 l1 l2).bind fun bt155 => (some bt155.2)
theorem fp_Rem.mono : ∀ a0 a1 a2 k, LeO (fp_Rem.f k a0 a1 a2) (fp_Rem.f (k + 1) a0 a1 a2) := by
 intro a0 a1 a2 k
 unfold fp_Rem.f
 repeat' first
  | (with_reducible apply fp_DivMod.mono)
  | (with_reducible apply LeO.refl)
  | (with_reducible apply LeO.none)
  | (with_reducible refine LeO.ite ?_ ?_)
  | (with_reducible refine LeO.bind ?_ (fun _ => ?_))
set_option maxHeartbeats 8000000 in
set_option maxRecDepth 100000 in
theorem fp_Rem.calls (k : Nat) (a0 : Int) (A1 : Option Addr) (c1 : Nat) (l1 : List Int) (A2 : Option Addr) (c2 : Nat) (l2 : List Int) (r : List Int) (w : World) (hr1 : Kd.C (Kd.int .i64) w A1 l1.length l1) (hc1 : l1.length ≤ c1) (hr2 : Kd.C (Kd.int .i64) w A2 l2.length l2) (hc2 : l2.length ≤ c2) (h : fp_Rem.f k a0 l1 l2 = some r) :
 Calls Try.prog 70 #[.int .i64 a0, .slice A1 l1.length c1, .slice A2 l2.length c2] w fun e w' => ∃ v0_ : Value, e = .returned (v0_) ∧ Kd.V (Kd.int .i64) 3 w' w.heap.size (fun k_ => (w.heap.size ≤ k_)) v0_ r ∧ Below w.heap.size w w' := by
 have HR1 := ak hr1
 have HC1 := ak hc1
 clear hr1 hc1
 have HR2 := ak hr2
 have HC2 := ak hc2
 clear hr2 hc2
 have HB := ak (Below.refl w.heap.size w)
 have H : ((fp_DivMod.f k a0 l1 l2).bind fun bt155 => (some bt155.2)) = some r := h
 clear h
 replace H := Option.bind_eq_some_iff.mp H
 obtain ⟨⟨t155, t158⟩, A40, H⟩ := H
 replace H : (some t158) = some r := H
 have A4 := ak A40
 clear A40
 as_aux_lemma =>
  obtain rfl := Option.some.inj H
  go_enter Try.func70, Try.ntmps70
  go_wp2_with (first | ((with_reducible refine gate_callee (f := 74) rfl ?_); refine goesL_ (some 13) rfl rfl Try.func74 (by kernel_rfl) rfl #[.int .i64 a0, .slice A1 l1.length c1, .slice A2 l2.length c2] rfl mX ?_; (with_reducible refine (fp_DivMod.calls k a0 _ _ l1 _ _ l2 t155 t158 _ ?side1 ?side2 ?side3 ?side4 A4.out).mono ?_); (case side1 => repeat (first | exact HR1.out | (with_reducible first | apply cA | apply cB | apply cC))); (case side2 => exact HC1.out); (case side3 => repeat (first | exact HR2.out | (with_reducible first | apply cA | apply cB | apply cC))); (case side4 => exact HC2.out); rintro e w5 ⟨v156, v159, rfl, ho0, ho1, hb⟩; refine ⟨_, rfl, ?_⟩; have n0_ := ak (Kd.V_lower (Kd.V_mono (ok' := fun k_ => (w.heap.size ≤ k_)) ho0 (fun k_ hk_ => (Nat.le_trans (below_size bX) hk_))) (below_size bX)); have n1_ := ak (Kd.V_lower (Kd.V_mono (ok' := fun k_ => (w.heap.size ≤ k_)) ho1 (fun k_ hk_ => (Nat.le_trans (below_size bX) hk_))) (below_size bX)); have n2_ := ak (below_step bX hb); clear HB; have HO157 := n0_; have HO160 := n1_; have HB := n2_; clear n0_ n1_ n2_; (try clear hb); (try clear hb2); (try clear hk); (try clear hi); (try clear ho0); (try clear ho1)))
  go_ret
  exact ⟨_, by first | rfl | (simp [errW_none, errW_some] <;> rfl) | (simp [*, errW_none, errW_some] <;> rfl), by (with_reducible repeat (first | apply vA | apply vB | apply vC)); exact HO160.out, by repeat (first | (with_reducible first | exact HB.out | apply bA | apply bB | apply bC) | exact HB.out)⟩

end Go.Proofs.Ytmknclgamadphaa.PPolymodPrimes
