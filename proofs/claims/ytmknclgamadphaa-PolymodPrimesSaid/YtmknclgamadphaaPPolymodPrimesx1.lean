-- WRITTEN BY sprint.py (a program of this repo, over the kit's print.py): nothing here is trusted, Lean checks it.
import Derived.Test.YtmknclgamadphaaPPolymodPrimesx0
namespace Go.Proofs.Ytmknclgamadphaa.PPolymodPrimes
open Go.RowKit Go.Proofs.YtmknclgamadphaaW.PrintWords Go.Proofs.YtmknclgamadphaaW.PrintLast Go.Proofs.YtmknclgamadphaaW.PrintMore
attribute [local go_sem] max2_int min2_int max_two min_two max_three min_three max_four min_four   -- for this text's walks alone
set_option linter.unusedVariables false
set_option linter.unusedSimpArgs false

-- NOT PRINTED: function 147 (slices_IndexFunc_int_int)

-- NOT PRINTED: function 135 (slices_ContainsFunc_int_int)

/-! ### residue_bad: function 122 -/
theorem bad_any_take (p : Int → Bool) (l : List Int) (m : Nat) (h : m < l.length) : (l.take (m + 1)).any p = ((l.take m).any p || p (rd l m)) := by
 rw [List.take_succ_eq_append_getElem h, List.any_append]
 simp [rd, List.getD_eq_getElem?_getD, h]

set_option maxHeartbeats 8000000 in
set_option maxRecDepth 100000 in
theorem idxf_147 (p : Int → Bool) (A0 : Option Addr) (c0 : Nat) (l0 : List Int) (w : World) (hr0 : Kd.C (Kd.int .i64) w A0 l0.length l0)
 (hp : ∀ x : Int, Calls Try.prog 136 #[.int .i64 x] w fun e w' => e = .returned (.bool (p x)) ∧ w' = w) :
 Calls Try.prog 147 #[.slice A0 l0.length c0, .func (.func 136) #[] #[]] w fun e w' => ∃ r : Int, e = .returned (.int .i64 r) ∧ Aside0 (decide (0 ≤ r) = l0.any p) ∧ w' = w := by
 have HR0 := ak hr0
 have HL := ak (show (l0.length : Int) ≤ 9223372036854775807 from by have := hr0.2.1; omega)
 clear hr0
 have HP := ak hp
 clear hp
 go_enter Try.func147, Try.ntmps147
 go_wp2
 go_loopg [8] l0.length (fun kq v8 w' => ∃ x : Int, Aside0 (0 ≤ x ∧ x + kq = (l0.length : Int)) ∧ v8 = .int .i64 x ∧ Aside0 ((l0.take x.toNat).any p = false) ∧ w' = w)
 case atStart => exact ⟨0, ⟨by omega⟩, rfl, ⟨by simp⟩, rfl⟩
 case round =>
  obtain ⟨x, HX, rfl, HT, rfl⟩ := hrel
  by_cases h0 : x < (l0.length : Int)
  · have c0b : decide (x < (l0.length : Int)) = true := decide_eq_true h0
    obtain ⟨k1, rfl⟩ : ∃ m, gk = m + 1 := ⟨gk - 1, by have := HX.out; omega⟩
    have b0 : decide (0 ≤ x) = true := decide_eq_true HX.out.1
    obtain ⟨ad, e, hx⟩ := Kd.at_int HR0.out x (of_decide_eq_true b0) h0
    cases e
    have b2 := eq_true (of_decide_eq_true b0)
    have b3 := eq_true h0
    have HX2 := ak (show (x.toNat : Int) = x ∧ x.toNat < l0.length from by have := HX.out; omega)
    have hcall := HP.out (rd l0 x)
    clear h0
    obtain ⟨ji, hji⟩ : ∃ j_ : Int, wrap64 (x + 1) = j_ := ⟨_, rfl⟩
    have hjiw : IntKind.i64.wrap (x + 1) = ji := (i64_w _).trans hji
    have HJ := ak (show ji = x + 1 from by rw [← hji]; unfold wrap64; have := HX.out; have := HL.out; omega)
    cases hq : p (rd l0 x) with
    | true =>
      rw [hq] at hcall
      have HQ := ak hq
      clear hq
      go_wp2_with (go_at_call 136; refine hcall.mono ?_; rintro e w' ⟨rfl, rfl⟩)
      go_ret
      refine ⟨x, rfl, ⟨?_⟩, rfl⟩
      rw [decide_eq_true HX.out.1]
      have e1 : rd l0 (x.toNat : Int) = rd l0 x := by rw [HX2.out.1]
      have : (l0.take (x.toNat + 1)).any p = true := by rw [bad_any_take p l0 _ HX2.out.2, e1, HQ.out]; simp
      symm
      rw [List.any_eq_true] at this ⊢
      obtain ⟨y, hy, hy2⟩ := this
      exact ⟨y, List.mem_of_mem_take hy, hy2⟩
    | false =>
      rw [hq] at hcall
      have HQ := ak hq
      clear hq
      go_wp2_with (go_at_call 136; refine hcall.mono ?_; rintro e w' ⟨rfl, rfl⟩)
      (first | go_roundg k1 | (refine Handed.intro k1 ?measure ?_; rotate_left; go_step; (repeat rw [add_plain]); (repeat apply Exists.intro); refine ⟨?rel, rfl⟩))
      case measure => omega
      case rel =>
       refine ⟨ji, ⟨by have := HX.out; have := HJ.out; omega⟩, rfl, ⟨?_⟩, rfl⟩
       have e1 : rd l0 (x.toNat : Int) = rd l0 x := by rw [HX2.out.1]
       have e2 : ji.toNat = x.toNat + 1 := by have := HX.out; have := HJ.out; omega
       rw [e2, bad_any_take p l0 _ HX2.out.2, HT.out, e1, HQ.out]; rfl
  · have c0b : decide (x < (l0.length : Int)) = false := decide_eq_false h0
    have HE := ak (show l0.any p = false from by
     have e : l0.take x.toNat = l0 := List.take_of_length_le (by have := HX.out; omega)
     have := HT.out; rwa [e] at this)
    clear h0
    go_wp2
    go_ret
    exact ⟨-1, rfl, ⟨by rw [HE.out]; rfl⟩, rfl⟩

set_option maxHeartbeats 8000000 in
set_option maxRecDepth 100000 in
theorem hasf_135 (p : Int → Bool) (A0 : Option Addr) (c0 : Nat) (l0 : List Int) (w : World) (hr0 : Kd.C (Kd.int .i64) w A0 l0.length l0)
 (hp : ∀ x : Int, Calls Try.prog 136 #[.int .i64 x] w fun e w' => e = .returned (.bool (p x)) ∧ w' = w) :
 Calls Try.prog 135 #[.slice A0 l0.length c0, .func (.func 136) #[] #[]] w fun e w' => e = .returned (.bool (l0.any p)) ∧ w' = w := by
 have HC := ak (idxf_147 p A0 c0 l0 w hr0 hp)
 clear hr0 hp
 go_enter Try.func135, Try.ntmps135
 go_wp2_with (go_at_call 147; refine HC.out.mono ?_; rintro e w' ⟨r, rfl, hr, rfl⟩)
 go_ret
 exact ⟨by rw [← hr.out]; rfl, rfl⟩

set_option maxHeartbeats 8000000 in
set_option maxRecDepth 100000 in
theorem bad1_136 (x : Int) (w : World) : Calls Try.prog 136 #[.int .i64 x] w fun e w' => e = .returned (.bool (decide (x < 1) || decide (2147483647 < x))) ∧ w' = w := by
 by_cases h1 : x < 1
 · have c1 : decide (x < 1) = true := decide_eq_true h1
   clear h1
   go_enter Try.func136, Try.ntmps136
   go_wp2
   go_ret
   exact ⟨by rw [c1]; rfl, rfl⟩
 · have c1 : decide (x < 1) = false := decide_eq_false h1
   clear h1
   go_enter Try.func136, Try.ntmps136
   go_wp2
   go_ret
   exact ⟨by rw [c1]; rfl, rfl⟩
def residue_bad.f (k : Nat) (l0 : List Int) : Option Bool := some (l0.any fun x => decide (x < 1) || decide (2147483647 < x))
theorem residue_bad.mono : ∀ a0 k, LeO (residue_bad.f k a0) (residue_bad.f (k + 1) a0) := fun _ _ => LeO.refl _
set_option maxHeartbeats 8000000 in
set_option maxRecDepth 100000 in
theorem residue_bad.calls (k : Nat) (A0 : Option Addr) (c0 : Nat) (l0 : List Int) (r : Bool) (w : World) (hr0 : Kd.C (Kd.int .i64) w A0 l0.length l0) (hc0 : l0.length ≤ c0) (h : residue_bad.f k l0 = some r) :
 Calls Try.prog 122 #[.slice A0 l0.length c0] w fun e w' => e = .returned (.bool r) ∧ Drawn0 w w' := by
 obtain rfl := Option.some.inj h
 have HC := ak (hasf_135 (fun x => decide (x < 1) || decide (2147483647 < x)) A0 c0 l0 w hr0 (fun x => bad1_136 x w))
 clear h hr0 hc0
 go_enter Try.func122, Try.ntmps122
 go_wp2_with (go_at_call 135; refine HC.out.mono ?_; rintro e w' ⟨rfl, rfl⟩)
 go_ret
 exact ⟨rfl, Drawn0.refl _⟩

/-! ### residue_factor: function 137 -/
theorem heap_set_box {W : World} {B : Nat} {v : Value} {t : TypeId} (v' : Value) (h : W.heap[B]? = some (.cells #[v] t (0, 0))) : (W.setCell ⟨B, 0, none⟩ v').heap[B]? = some (.cells #[v'] t (0, 0)) := by
 simp [World.setCell, Array.getElem?_modify, h]
theorem cell_box {W : World} {B : Nat} {v : Value} {t : TypeId} (h : W.heap[B]? = some (.cells #[v] t (0, 0))) : W.cell? ⟨B, 0, none⟩ = some v := by
 simp [World.cell?, h]
theorem frozen_box {W : World} {B : Nat} {v : Value} {t : TypeId} (h : W.heap[B]? = some (.cells #[v] t (0, 0))) : W.frozen? ⟨B, 0, none⟩ = false := by
 simp [World.frozen?, h]
theorem alloc2_old (w : World) (o1 o2 : Obj) : ((w.alloc o1).alloc o2).heap[w.heap.size]? = some o1 := by
 show ((w.heap.push o1).push o2)[w.heap.size]? = some o1
 rw [Array.getElem?_push, if_neg (by simp), Array.getElem?_push, if_pos rfl]
theorem alloc2_new (w : World) (o1 o2 : Obj) : ((w.alloc o1).alloc o2).heap[w.heap.size + 1]? = some o2 := by
 show ((w.heap.push o1).push o2)[w.heap.size + 1]? = some o2
 rw [Array.getElem?_push, if_pos (by simp)]
structure FSt (w0 w : World) (B1 B2 : Nat) (n : Int) (v : Value) (xs : List S126) : Prop where
 below : Below w0.heap.size w0 w
 h1 : w.heap[B1]? = some (.cells #[.int .i64 n] 3 (0, 0))
 h2 : w.heap[B2]? = some (.cells #[v] 123 (0, 0))
 b1 : w0.heap.size ≤ B1
 b2 : w0.heap.size ≤ B2
 ne : B1 ≠ B2
 row : Kd.R k126 126 w w0.heap.size (fun _ => True) v xs
theorem FSt.set1 {w0 w : World} {B1 B2 : Nat} {n : Int} {v : Value} {xs : List S126} (h : FSt w0 w B1 B2 n v xs) (m : Int) : FSt w0 (w.setCell ⟨B1, 0, none⟩ (.int .i64 m)) B1 B2 m v xs where
 below := below_set h.below h.b1
 h1 := heap_set_box _ h.h1
 h2 := by rw [Below.heap_setCell w _ _ B2 (Ne.symm h.ne)]; exact h.h2
 b1 := h.b1
 b2 := h.b2
 ne := h.ne
 row := Kd.R_set h.row h.h1 (by decide) 0 _
def residue_factor.step : Nat → Int → Int → Int → Option (Int × Int)
 | 0, _, _, _ => none
 | k + 1, d, n, c => if d = 0 then none else if Int.tmod n d = 0 then residue_factor.step k d (wrap64 (Int.tdiv n d)) (wrap64 (c + 1)) else some (n, c)
def residue_factor.trial (k : Nat) (d n : Int) (xs : List S126) : Option (Int × List S126) := (residue_factor.step k d n 0).bind fun r => if r.2 > 0 then (if xs.length < 8796093022208 then some (r.1, xs ++ [(⟨d, r.2⟩ : S126)]) else none) else some (r.1, xs)
def residue_factor.l0 : Nat → Int → List S126 → Int → Option (List S126)
 | 0, _, _, _ => none
 | k + 1, n, xs, d => if wrap64 (d * d) ≤ n then (residue_factor.trial k d n xs).bind fun r => residue_factor.l0 k r.1 r.2 (wrap64 (d + 2)) else if n > 1 then (residue_factor.trial k n n xs).bind fun r => some r.2 else some xs
def residue_factor.f (k : Nat) (a0 : Int) : Option (List S126) := (residue_factor.trial k 2 a0 []).bind fun r => residue_factor.l0 k r.1 r.2 3
theorem residue_factor.mono_s : ∀ k d n c, LeO (residue_factor.step k d n c) (residue_factor.step (k + 1) d n c)
 | 0 => fun _ _ _ _ h => by simp [residue_factor.step] at h
 | k + 1 => fun d n c => by
   rw [residue_factor.step, residue_factor.step]
   exact LeO.ite (LeO.refl _) (LeO.ite (residue_factor.mono_s k _ _ _) (LeO.refl _))
theorem residue_factor.mono_t (k : Nat) (d n : Int) (xs : List S126) : LeO (residue_factor.trial k d n xs) (residue_factor.trial (k + 1) d n xs) := LeO.bind (residue_factor.mono_s _ _ _ _) (fun _ => LeO.refl _)
theorem residue_factor.mono_l : ∀ k n xs d, LeO (residue_factor.l0 k n xs d) (residue_factor.l0 (k + 1) n xs d)
 | 0 => fun _ _ _ _ h => by simp [residue_factor.l0] at h
 | k + 1 => fun n xs d => by
   rw [residue_factor.l0, residue_factor.l0]
   exact LeO.ite (LeO.bind (residue_factor.mono_t _ _ _ _) (fun _ => residue_factor.mono_l k _ _ _)) (LeO.ite (LeO.bind (residue_factor.mono_t _ _ _ _) (fun _ => LeO.refl _)) (LeO.refl _))
theorem residue_factor.mono : ∀ a0 k, LeO (residue_factor.f k a0) (residue_factor.f (k + 1) a0) := fun _ _ => LeO.bind (residue_factor.mono_t _ _ _ _) (fun _ => residue_factor.mono_l _ _ _ _)
set_option maxHeartbeats 8000000 in
set_option maxRecDepth 100000 in
theorem try_148 (k : Nat) (d n n' : Int) (xs xs' : List S126) (v : Value) (w0 w : World) (B1 B2 : Nat) (hS : FSt w0 w B1 B2 n v xs) (h : residue_factor.trial k d n xs = some (n', xs')) :
 Calls Try.prog 148 #[.int .i64 d, .pointer (some ⟨B1, 0, none⟩), .pointer (some ⟨B2, 0, none⟩)] w fun e w' => e = .returned (.tuple #[]) ∧ ∃ v', FSt w0 w' B1 B2 n' v' xs' := by
 have hu126 := Try.underlying126
 obtain ⟨⟨n1, c1⟩, hs, h⟩ := Option.bind_eq_some_iff.mp h
 have HS := ak hS
 have HD := ak hs
 have HF := ak h
 clear hS hs h
 go_enter Try.func148, Try.ntmps148
 go_wp2
 go_loopg [4] k (fun kq v4 w' => ∃ (c m : Int), v4 = .int .i64 c ∧ Aside0 (residue_factor.step kq d m c = some (n1, c1)) ∧ Aside0 (FSt w0 w' B1 B2 m v xs))
 case atStart => exact ⟨0, n, rfl, HD, HS⟩
 case round =>
  clear HD HS
  obtain ⟨c, m, rfl, HD, HS⟩ := hrel
  cases gk with
  | zero => exact absurd HD.out (by simp [residue_factor.step])
  | succ k1 =>
    have H := HD.out
    clear HD
    rw [residue_factor.step] at H
    by_cases d0 : d = 0
    · rw [if_pos d0] at H; exact absurd H (by simp)
    · rw [if_neg d0] at H
      have d0b : (d == 0) = false := beq_eq_false_iff_ne.mpr d0
      have d0c : (d != 0) = true := bne_iff_ne.mpr d0
      have hc1 := cell_box HS.out.h1
      have hf1 := frozen_box HS.out.h1
      have hc2 := cell_box HS.out.h2
      have hf2 := frozen_box HS.out.h2
      by_cases t0 : Int.tmod m d = 0
      · rw [if_pos t0] at H
        have t0b : (Int.tmod m d == 0) = true := beq_iff_eq.mpr t0
        clear t0
        have H' := ak H
        clear H
        go_wp2
        (first | go_roundg k1 | (refine Handed.intro k1 ?measure ?_; rotate_left; go_step; (repeat rw [add_plain]); (repeat apply Exists.intro); refine ⟨?rel, rfl⟩))
        case measure => omega
        case rel => exact ⟨_, _, rfl, H', ⟨HS.out.set1 _⟩⟩
      · rw [if_neg t0] at H
        have t0b : (Int.tmod m d == 0) = false := beq_eq_false_iff_ne.mpr t0
        clear t0
        have H2 := Option.some.inj H
        injection H2 with e1 e2
        subst e1 e2
        clear H
        have HF2 := HF.out
        by_cases g0 : c > 0
        · rw [if_pos g0] at HF2
          have g0b : decide (0 < c) = true := decide_eq_true g0
          by_cases L : xs.length < 8796093022208
          · rw [if_pos L] at HF2
            have HF3 := Option.some.inj HF2
            injection HF3 with e1 e2
            subst e1 e2
            have LM := ak L
            clear g0 L HF HF2
            have HBS := ak HS.out.below.size
            go_wp2_with (((with_reducible refine gate_builtin (b := .append) (xs := #[.tmp 16, .tmp 20]) rfl ?_); at_builtin; refine Kd.R_append k126 (w0 := w0) w0.heap.size rfl (.tmp 16) (.tmp 20) 123 126 (.agg #[(.int .i64 0), (.int .i64 0)]) 16 rfl Try.underlying123 info126 rfl (by decide) (by omega) v xs (⟨d, c⟩ : S126) [.int .i64 d, .int .i64 c] (fun _ => True) (fun _ => False) rfl rfl (k126_mkM _ _ _ (⟨d, c⟩ : S126)) (fun _ hk => hk.elim) (fun _ _ => trivial) HS.out.row HS.out.below HBS.out (by have := LM.out; omega) ?_; intro v103 w4 ho hb hg hat; have HO4 := ak ho; have HB4 := ak hb; have k1_ := ak ((hg.block B1 (Array.getElem?_eq_some_iff.1 HS.out.h1).1 (Kd.R_ne HS.out.row HS.out.h1 (by decide))).trans HS.out.h1); have k2_ := ak ((hg.block B2 (Array.getElem?_eq_some_iff.1 HS.out.h2).1 (Kd.R_ne HS.out.row HS.out.h2 (by decide))).trans HS.out.h2); have hc3 := cell_box k2_.out; have hf3 := frozen_box k2_.out; clear ho hb hg hat; obtain ⟨Ao, co, eo⟩ := Kd.R_slice HO4.out; subst eo))
            go_end0
            have HO5 := HO4.out
            rw [show (xs ++ [(⟨d, c⟩ : S126)]).length = xs.length + 1 from by simp] at HO5
            exact ⟨rfl, _, FSt.mk (below_set HB4.out HS.out.b2) (by rw [Below.heap_setCell w4 _ _ B1 HS.out.ne]; exact k1_.out) (heap_set_box _ k2_.out) HS.out.b1 HS.out.b2 HS.out.ne (Kd.R_set HO5 k2_.out (by decide) 0 _)⟩
          · rw [if_neg L] at HF2
            exact absurd HF2 (by simp)
        · rw [if_neg g0] at HF2
          have HF3 := Option.some.inj HF2
          injection HF3 with e1 e2
          subst e1 e2
          have g0b : decide (0 < c) = false := decide_eq_false g0
          clear g0 HF HF2
          go_wp2
          go_end0
          exact ⟨rfl, _, HS.out⟩
set_option maxHeartbeats 8000000 in
set_option maxRecDepth 100000 in
theorem residue_factor.calls (k : Nat) (a0 : Int) (r : List (S126)) (w : World) (h : residue_factor.f k a0 = some r) :
 Calls Try.prog 137 #[.int .i64 a0] w fun e w' => ∃ v0_ : Value, e = .returned (v0_) ∧ Kd.R k126 126 w' w.heap.size (fun _ => True) v0_ r ∧ Below w.heap.size w w' := by
 obtain ⟨⟨n1, xs1⟩, h1, h2⟩ := Option.bind_eq_some_iff.mp h
 have HT := ak h1
 have HL := ak h2
 clear h h1 h2
 have HS0 := ak (show FSt w ((w.alloc (.cells #[.int .i64 a0] 3)).alloc (.cells #[.slice none 0 0] 123)) w.heap.size (w.heap.size + 1) a0 (.slice none 0 0) [] from
  ⟨((Below.refl _ w).alloc (Nat.le_refl _) _).alloc (by simp) _, alloc2_old _ _ _, alloc2_new _ _ _, Nat.le_refl _, by omega, by omega, Kd.R_nil _ _ _ _ _⟩)
 go_enter Try.func137, Try.ntmps137
 go_wp2_with (go_at_call 148; refine (try_148 k 2 a0 n1 [] xs1 _ w _ _ _ HS0.out HT.out).mono ?_; rintro e w1 ⟨rfl, v1, hS1⟩; have HS1 := ak hS1; clear hS1)
 clear HS0 HT
 go_loopg [5] k (fun kq v5 w' => ∃ (d n : Int) (v : Value) (xs : List S126), v5 = .int .i64 d ∧ Aside0 (residue_factor.l0 kq n xs d = some r) ∧ Aside0 (FSt w w' w.heap.size (w.heap.size + 1) n v xs))
 case atStart => exact ⟨3, n1, v1, xs1, rfl, HL, HS1⟩
 case round =>
  clear HL HS1
  obtain ⟨d, n, v, xs, rfl, HL, HS⟩ := hrel
  cases gk with
  | zero => exact absurd HL.out (by simp [residue_factor.l0])
  | succ k1 =>
    have H := HL.out
    clear HL
    rw [residue_factor.l0] at H
    have hc1 := cell_box HS.out.h1
    have hf1 := frozen_box HS.out.h1
    have hc2 := cell_box HS.out.h2
    obtain ⟨dd, hdd⟩ : ∃ j_ : Int, wrap64 (d * d) = j_ := ⟨_, rfl⟩
    have hddw : IntKind.i64.wrap (d * d) = dd := (i64_w _).trans hdd
    rw [hdd] at H
    by_cases c1 : dd ≤ n
    · rw [if_pos c1] at H
      obtain ⟨⟨n2, xs2⟩, h1, h2⟩ := Option.bind_eq_some_iff.mp H
      have HT := ak h1
      have HL := ak h2
      clear H h1 h2
      have c1b : decide (dd ≤ n) = true := decide_eq_true c1
      clear c1
      go_wp2_with (go_at_call 148; refine (try_148 k1 d n n2 xs xs2 v w _ _ _ HS.out HT.out).mono ?_; rintro e w2 ⟨rfl, v2, hS2⟩; have HS2 := ak hS2; clear hS2)
      (first | go_roundg k1 | (refine Handed.intro k1 ?measure ?_; rotate_left; go_step; (repeat rw [add_plain]); (repeat apply Exists.intro); refine ⟨?rel, rfl⟩))
      case measure => omega
      case rel => exact ⟨_, n2, v2, xs2, rfl, HL, HS2⟩
    · rw [if_neg c1] at H
      have c1b : decide (dd ≤ n) = false := decide_eq_false c1
      clear c1
      by_cases g1 : n > 1
      · rw [if_pos g1] at H
        obtain ⟨⟨n2, xs2⟩, h1, h2⟩ := Option.bind_eq_some_iff.mp H
        obtain rfl := Option.some.inj h2
        have HT := ak h1
        clear H h1 h2
        have g1b : decide (1 < n) = true := decide_eq_true g1
        clear g1
        go_wp2_with (go_at_call 148; refine (try_148 k1 n n n2 xs xs2 v w _ _ _ HS.out HT.out).mono ?_; rintro e w2 ⟨rfl, v2, hS2⟩; have hc3 := cell_box hS2.h2; have HS2 := ak hS2; clear hS2; obtain ⟨Ao, co, eo⟩ := Kd.R_slice HS2.out.row; subst eo)
        go_ret
        exact ⟨_, rfl, HS2.out.row, HS2.out.below⟩
      · rw [if_neg g1] at H
        obtain rfl := Option.some.inj H
        clear H
        have g1b : decide (1 < n) = false := decide_eq_false g1
        clear g1
        obtain ⟨Ao, co, eo⟩ := Kd.R_slice HS.out.row
        subst eo
        go_wp2
        go_ret
        exact ⟨_, rfl, HS.out.row, HS.out.below⟩

/-! ### residue_prime: function 123 -/
def residue_prime.f (k : Nat) (a0 : Int) : Option (Bool) := (residue_factor.f k a0).bind fun t105 => (if (t105.length : Int) = 1 then (if 0 < (t105.length : Int) then (some (((rd_T126 t105 0).f1) == 1)) else (none)) else (some false))
theorem residue_prime.mono : ∀ a0 k, LeO (residue_prime.f k a0) (residue_prime.f (k + 1) a0) := by
 intro a0 k
 unfold residue_prime.f
 repeat' first
  | (with_reducible apply residue_factor.mono)
  | (with_reducible apply LeO.refl)
  | (with_reducible apply LeO.none)
  | (with_reducible refine LeO.ite ?_ ?_)
  | (with_reducible refine LeO.bind ?_ (fun _ => ?_))
set_option maxHeartbeats 8000000 in
set_option maxRecDepth 100000 in
theorem residue_prime.calls (k : Nat) (a0 : Int) (r : Bool) (w : World) (h : residue_prime.f k a0 = some r) :
 Calls Try.prog 123 #[.int .i64 a0] w fun e w' => e = .returned (.bool r) ∧ Below w.heap.size w w' := by
 have HB := ak (Below.refl w.heap.size w)
 have H : ((residue_factor.f k a0).bind fun t105 => (if (t105.length : Int) = 1 then (if 0 < (t105.length : Int) then (some (((rd_T126 t105 0).f1) == 1)) else (none)) else (some false))) = some r := h
 clear h
 replace H := Option.bind_eq_some_iff.mp H
 obtain ⟨t105, A20, H⟩ := H
 replace H : (if (t105.length : Int) = 1 then (if 0 < (t105.length : Int) then (some (((rd_T126 t105 0).f1) == 1)) else (none)) else (some false)) = some r := H
 have A2 := ak A20
 clear A20
 by_cases c3 : (t105.length : Int) = 1
 · rw [if_pos c3] at H
   have c3b0 : ((t105.length : Int) == 1) = true := beq_iff_eq.mpr c3
   have c3b1 : ((t105.length : Int) != 1) = false := bne_eq_false_iff_eq.mpr c3
   clear c3
   by_cases c4 : 0 < (t105.length : Int)
   · rw [if_pos c4] at H
     have c4b0 : decide (0 < (t105.length : Int)) = true := decide_eq_true c4
     have c4b1 : decide (0 < t105.length) = true := decide_eq_true (by omega)
     clear c4
     as_aux_lemma =>
      obtain rfl := Option.some.inj H
      go_enter Try.func123, Try.ntmps123
      go_wp2_with (first | ((with_reducible refine gate_callee (f := 137) rfl ?_); refine goesL_ (some 5) rfl rfl Try.func137 (by kernel_rfl) rfl #[.int .i64 a0] rfl mX ?_; (with_reducible refine (residue_factor.calls k a0 t105 _ A2.out).mono ?_); rintro e w5 ⟨v106, rfl, ho0, hb⟩; refine ⟨_, rfl, ?_⟩; have n0_ := ak (Kd.R_lower ho0 (below_size bX)); have n1_ := ak (below_step bX hb); clear HB; have HO107 := n0_; have HB := n1_; clear n0_ n1_; (try clear hb); (try clear hb2); (try clear hk); (try clear hi); (try clear ho0); obtain ⟨Ao6, co6, eo6⟩ := Kd.R_slice HO107.out; subst eo6; have p108 : 0 ≤ (0 : Int) := (by omega); have q108 : 0 < (t105.length : Int) := of_decide_eq_true aX; obtain ⟨ad108, e108, hx108_0, hx108_1⟩ := at_T126 (Kd.R_reads' HO107.out).2.2 0 p108 q108; cases e108; have qi108 : (0 < t105.length) = True := eq_true (by omega); (try rw [show ((0 : Int)).toNat = 0 from rfl] at hx108_0); (try rw [show 0 * 2 = 0 from rfl] at hx108_0); (try rw [Addr.add_zero'] at hx108_0); (try rw [show ((0 : Int)).toNat = 0 from rfl] at hx108_1); (try rw [show 0 * 2 = 0 from rfl] at hx108_1); (try rw [Addr.add_zero'] at hx108_1); replace p108 := eq_true p108; replace q108 := eq_true q108))
      go_ret
      exact ⟨by first | rfl | (simp [errW_none, errW_some] <;> rfl) | (simp [*, errW_none, errW_some] <;> rfl), by repeat (first | (with_reducible first | exact HB.out | apply bA | apply bB | apply bC) | exact HB.out)⟩
   · rw [if_neg c4] at H
     exact absurd H (by simp)
 · rw [if_neg c3] at H
   have c3b0 : ((t105.length : Int) == 1) = false := beq_eq_false_iff_ne.mpr c3
   have c3b1 : ((t105.length : Int) != 1) = true := bne_iff_ne.mpr c3
   as_aux_lemma =>
    obtain rfl := Option.some.inj H
    go_enter Try.func123, Try.ntmps123
    go_wp2_with (first | ((with_reducible refine gate_callee (f := 137) rfl ?_); refine goesL_ (some 5) rfl rfl Try.func137 (by kernel_rfl) rfl #[.int .i64 a0] rfl mX ?_; (with_reducible refine (residue_factor.calls k a0 t105 _ A2.out).mono ?_); rintro e w7 ⟨v106, rfl, ho0, hb⟩; refine ⟨_, rfl, ?_⟩; have n0_ := ak (Kd.R_lower ho0 (below_size bX)); have n1_ := ak (below_step bX hb); clear HB; have HO107 := n0_; have HB := n1_; clear n0_ n1_; (try clear hb); (try clear hb2); (try clear hk); (try clear hi); (try clear ho0); obtain ⟨Ao8, co8, eo8⟩ := Kd.R_slice HO107.out; subst eo8))
    go_ret
    exact ⟨by first | rfl | (simp [errW_none, errW_some] <;> rfl) | (simp [*, errW_none, errW_some] <;> rfl), by repeat (first | (with_reducible first | exact HB.out | apply bA | apply bB | apply bC) | exact HB.out)⟩

/-! ### residue_IsPrime: function 109 -/
def residue_IsPrime.f (k : Nat) (a0 : Int) : Option (Bool × Int) := (residue_bad.f k (([a0] : List Int))).bind fun t112 => (if t112 = true then (some (false, 3)) else ((residue_prime.f k a0).bind fun t113 => (some (t113, 0))))
theorem residue_IsPrime.mono : ∀ a0 k, LeO (residue_IsPrime.f k a0) (residue_IsPrime.f (k + 1) a0) := by
 intro a0 k
 unfold residue_IsPrime.f
 repeat' first
  | (with_reducible apply residue_bad.mono)
  | (with_reducible apply residue_prime.mono)
  | (with_reducible apply LeO.refl)
  | (with_reducible apply LeO.none)
  | (with_reducible refine LeO.ite ?_ ?_)
  | (with_reducible refine LeO.bind ?_ (fun _ => ?_))
set_option maxHeartbeats 8000000 in
set_option maxRecDepth 100000 in
theorem residue_IsPrime.calls (k : Nat) (a0 : Int) (r1 : Bool) (r2 : Int) (w : World) (h : residue_IsPrime.f k a0 = some (r1, r2)) :
 Calls Try.prog 109 #[.int .i64 a0] w fun e w' => e = .returned (.tuple #[.bool r1, .int .i64 r2]) ∧ Below w.heap.size w w' := by
 have HB := ak (Below.refl w.heap.size w)
 have H : ((residue_bad.f k (([a0] : List Int))).bind fun t112 => (if t112 = true then (some (false, 3)) else ((residue_prime.f k a0).bind fun t113 => (some (t113, 0))))) = some (r1, r2) := h
 clear h
 obtain ⟨y109, hy109⟩ : ∃ y_ : List Int, y_ = (([a0] : List Int)) := ⟨_, rfl⟩
 replace H : ((residue_bad.f k y109).bind fun t112 => (if t112 = true then (some (false, 3)) else ((residue_prime.f k a0).bind fun t113 => (some (t113, 0))))) = some (r1, r2) := by first | (rw [hy109]; with_reducible exact H) | (have H2_ := (Option.bind_some _ _).symm.trans H; rw [hy109]; with_reducible exact H2_) | (have H2_ := (Option.bind_some _ _).symm.trans H; with_reducible exact H2_) | with_reducible exact H | (rw [hy109]; exact H) | exact H
 have Ny109 := ak hy109
 clear hy109
 replace H := Option.bind_eq_some_iff.mp H
 obtain ⟨t112, A20, H⟩ := H
 replace H : (if t112 = true then (some (false, 3)) else ((residue_prime.f k a0).bind fun t113 => (some (t113, 0)))) = some (r1, r2) := H
 have A2 := ak A20
 clear A20
 by_cases c3 : t112 = true
 · subst c3
   have H1 : (some (false, 3)) = some (r1, r2) := by rw [if_pos rfl] at H; exact H
   clear H
   have H := H1
   clear H1
   as_aux_lemma =>
    simp only [Option.some.injEq, Prod.mk.injEq] at H
    obtain ⟨rfl, rfl⟩ := H
    go_enter Try.func109, Try.ntmps109
    go_wp2_with (first | ((with_reducible refine gate_dst (N := 5) rfl ?_); refine Kd.R_lit (Kd.int .i64) _ 3 ?hg (N := 5) ?hd (xs := ([a0] : List Int)) (inner := [.int .i64 a0]) (ok := fun _ => True) (okp := fun _ => True) ?hr ?hp (fun _ hk => hk) trivial (Below.refl _ _) (Nat.le_refl _) (by simp) ?_; (case hd => rfl); (case hg => rfl); (case hr => first | (go_simp; done) | (go_simp; rfl)); (case hp => exact (Reps.one (show Kd.M (Kd.int .i64) _ _ _ a0 [.int .i64 a0] from rfl) (Reps.none _ _))); intro v110 w4 ho5 hb hg_ hnew_; clear hg_ hnew_; (first | rw [← Ny109.out] at ho5 | (simp only [Int.reduceToNat] at ho5; rw [← Ny109.out] at ho5)); have n0_ := ak (Kd.R_lower ho5 (below_size bX)); have n1_ := ak (below_step bX hb); clear HB; have HO111 := n0_; have HB := n1_; clear n0_ n1_; clear hb ho5; obtain ⟨Ao6, co6, eo6⟩ := Kd.R_slice HO111.out; subst eo6) | ((with_reducible refine gate_callee (f := 122) rfl ?_); refine goesL_ (some 6) rfl rfl Try.func122 (by kernel_rfl) rfl #[.slice Ao6 y109.length co6] rfl mX ?_; (with_reducible refine (residue_bad.calls k _ _ y109 true _ ?side1 ?side2 A2.out).mono ?_); (case side1 => exact cX (Kd.R_reads' HO111.out).2.2); (case side2 => exact (Kd.R_reads' HO111.out).2.1); rintro e w' ⟨rfl, ⟨nd, rfl⟩⟩; refine ⟨_, rfl, ?_⟩))
    go_ret2
    exact ⟨by first | rfl | (simp [errW_none, errW_some] <;> rfl) | (simp [*, errW_none, errW_some] <;> rfl), by repeat (first | (with_reducible first | exact HB.out | apply bA | apply bB | apply bC) | exact HB.out)⟩
 · replace c3 := Bool.eq_false_iff.mpr c3
   subst c3
   have H1 : ((residue_prime.f k a0).bind fun t113 => (some (t113, 0))) = some (r1, r2) := by rw [if_neg (show ¬ (false = true) by decide)] at H; exact H
   clear H
   have H := H1
   clear H1
   replace H := Option.bind_eq_some_iff.mp H
   obtain ⟨t113, A70, H⟩ := H
   replace H : (some (t113, 0)) = some (r1, r2) := H
   have A7 := ak A70
   clear A70
   as_aux_lemma =>
    simp only [Option.some.injEq, Prod.mk.injEq] at H
    obtain ⟨rfl, rfl⟩ := H
    go_enter Try.func109, Try.ntmps109
    go_wp2_with (first | ((with_reducible refine gate_dst (N := 5) rfl ?_); refine Kd.R_lit (Kd.int .i64) _ 3 ?hg (N := 5) ?hd (xs := ([a0] : List Int)) (inner := [.int .i64 a0]) (ok := fun _ => True) (okp := fun _ => True) ?hr ?hp (fun _ hk => hk) trivial (Below.refl _ _) (Nat.le_refl _) (by simp) ?_; (case hd => rfl); (case hg => rfl); (case hr => first | (go_simp; done) | (go_simp; rfl)); (case hp => exact (Reps.one (show Kd.M (Kd.int .i64) _ _ _ a0 [.int .i64 a0] from rfl) (Reps.none _ _))); intro v110 w8 ho9 hb hg_ hnew_; clear hg_ hnew_; (first | rw [← Ny109.out] at ho9 | (simp only [Int.reduceToNat] at ho9; rw [← Ny109.out] at ho9)); have n0_ := ak (Kd.R_lower ho9 (below_size bX)); have n1_ := ak (below_step bX hb); clear HB; have HO111 := n0_; have HB := n1_; clear n0_ n1_; clear hb ho9; obtain ⟨Ao10, co10, eo10⟩ := Kd.R_slice HO111.out; subst eo10) | ((with_reducible refine gate_callee (f := 122) rfl ?_); refine goesL_ (some 6) rfl rfl Try.func122 (by kernel_rfl) rfl #[.slice Ao10 y109.length co10] rfl mX ?_; (with_reducible refine (residue_bad.calls k _ _ y109 false _ ?side1 ?side2 A2.out).mono ?_); (case side1 => exact cX (Kd.R_reads' HO111.out).2.2); (case side2 => exact (Kd.R_reads' HO111.out).2.1); rintro e w' ⟨rfl, ⟨nd, rfl⟩⟩; refine ⟨_, rfl, ?_⟩) | ((with_reducible refine gate_callee (f := 123) rfl ?_); refine goesL_ (some 8) rfl rfl Try.func123 (by kernel_rfl) rfl #[.int .i64 a0] rfl mX ?_; (with_reducible refine (residue_prime.calls k a0 t113 _ A7.out).mono ?_); rintro e w11 ⟨rfl, hb⟩; refine ⟨_, rfl, ?_⟩; have n0_ := ak (Kd.R_below (rX HO111.out) hb); have n1_ := ak (below_step bX hb); clear HO111; clear HB; have HO111 := n0_; have HB := n1_; clear n0_ n1_; (try clear hb); (try clear hb2); (try clear hk); (try clear hi)))
    go_ret2
    exact ⟨by first | rfl | (simp [errW_none, errW_some] <;> rfl) | (simp [*, errW_none, errW_some] <;> rfl), by repeat (first | (with_reducible first | exact HB.out | apply bA | apply bB | apply bC) | exact HB.out)⟩

/-! ### polymod_prime: function 92 -/
def polymod_prime.j0 : Nat → Int → Bool → Option (Int)
 | 0, _, _ => none
 | k + 1, x0, x10 => if x10 = true then (some 7) else ((residue_IsPrime.f k x0).bind fun bt114 => (if bt114.2 = 0 then (if bt114.1 = true then (some 0) else (some 7)) else (some 7)))
def polymod_prime.f (k : Nat) (a0 : Int) : Option (Int) := if a0 < 2 then (polymod_prime.j0 k a0 true) else (polymod_prime.j0 k a0 (decide (a0 > 65521)))
theorem polymod_prime.mono_l : ∀ k, (∀ y0 y1, LeO (polymod_prime.j0 k y0 y1) (polymod_prime.j0 (k + 1) y0 y1))
 | 0 => fun _ _ r h => by simp [polymod_prime.j0] at h
 | k + 1 => by
   have ih0 := polymod_prime.mono_l k
   · intro y0 y1
     unfold polymod_prime.j0
     repeat' first
     | (with_reducible apply ih0)
     | (with_reducible apply residue_IsPrime.mono)
     | (with_reducible apply LeO.refl)
     | (with_reducible apply LeO.none)
     | (with_reducible refine LeO.ite ?_ ?_)
     | (with_reducible refine LeO.bind ?_ (fun _ => ?_))
theorem polymod_prime.mono : ∀ a0 k, LeO (polymod_prime.f k a0) (polymod_prime.f (k + 1) a0) := by
 intro a0 k
 have ih0 := polymod_prime.mono_l k
 unfold polymod_prime.f
 repeat' first
  | (with_reducible apply ih0)
  | (with_reducible apply residue_IsPrime.mono)
  | (with_reducible apply LeO.refl)
  | (with_reducible apply LeO.none)
  | (with_reducible refine LeO.ite ?_ ?_)
  | (with_reducible refine LeO.bind ?_ (fun _ => ?_))
set_option maxHeartbeats 8000000 in
set_option maxRecDepth 100000 in
theorem polymod_prime.calls (k : Nat) (a0 : Int) (r : Int) (w : World) (h : polymod_prime.f k a0 = some r) :
 Calls Try.prog 92 #[.int .i64 a0] w fun e w' => e = .returned (.int .i64 r) ∧ Below w.heap.size w w' := by
 have HB := ak (Below.refl w.heap.size w)
 have H : (if a0 < 2 then (polymod_prime.j0 k a0 true) else (polymod_prime.j0 k a0 (decide (a0 > 65521)))) = some r := h
 clear h
 have HC2 := ak H
 clear H
 go_enter Try.func92, Try.ntmps92
 go_upto_region 1 with (fail)
 go_cut [10] (fun v10 wc => ∃ (kq : Nat) (x10_1 : Bool), v10 = .bool x10_1 ∧ Aside0 (polymod_prime.j0 kq a0 x10_1 = some r) ∧ Aside0 (kq ≤ k) ∧ Aside0 (Below w.heap.size w wc))
 case first =>
  have H := HC2.out
  clear HC2
  by_cases c3 : a0 < 2
  · rw [if_pos c3] at H
    have c3b0 : decide (a0 < 2) = true := decide_eq_true c3
    clear c3
    (first | rw [c3b0] | (simp only [i64_w, i32_w]; rw [c3b0]) | skip)
    as_aux_lemma =>
     have H' := ak H
     clear H
     go_wp2
     go_meet
     case rel => exact ⟨_, (true), (by first | rfl | (simp; done) | (simp [*]; done)), H', ⟨by first | omega | exact Nat.le_refl _⟩, ⟨by repeat (first | (with_reducible first | exact HB.out | apply bA | apply bB | apply bC) | exact HB.out)⟩⟩
  · rw [if_neg c3] at H
    have c3b0 : decide (a0 < 2) = false := decide_eq_false c3
    clear c3
    (first | rw [c3b0] | (simp only [i64_w, i32_w]; rw [c3b0]) | skip)
    as_aux_lemma =>
     have H' := ak H
     clear H
     go_wp2
     go_meet
     case rel => exact ⟨_, (decide (a0 > 65521)), (by first | rfl | (simp; done) | (simp [*]; done)), H', ⟨by first | omega | exact Nat.le_refl _⟩, ⟨by repeat (first | (with_reducible first | exact HB.out | apply bA | apply bB | apply bC) | exact HB.out)⟩⟩
 case rest =>
  clear HC2
  try clear p2
  try clear c3
  try clear c3b0
  obtain ⟨kq, x10_1, rfl, HA, HJ1, HB⟩ := hcut
  cases kq with
  | zero => exact absurd HA.out (by simp [polymod_prime.j0])
  | succ kj1 =>
    have H := HA.out
    clear HA
    simp only [polymod_prime.j0] at H
    by_cases c4 : x10_1 = true
    · subst c4
      have H1 : (some 7) = some r := by rw [if_pos rfl] at H; exact H
      clear H
      have H := H1
      clear H1
      as_aux_lemma =>
       obtain rfl := Option.some.inj H
       go_wp2
       go_ret
       exact ⟨by first | rfl | (simp [errW_none, errW_some] <;> rfl) | (simp [*, errW_none, errW_some] <;> rfl), by repeat (first | (with_reducible first | exact HB.out | apply bA | apply bB | apply bC) | exact HB.out)⟩
    · replace c4 := Bool.eq_false_iff.mpr c4
      subst c4
      have H1 : ((residue_IsPrime.f kj1 a0).bind fun bt114 => (if bt114.2 = 0 then (if bt114.1 = true then (some 0) else (some 7)) else (some 7))) = some r := by rw [if_neg (show ¬ (false = true) by decide)] at H; exact H
      clear H
      have H := H1
      clear H1
      replace H := Option.bind_eq_some_iff.mp H
      obtain ⟨⟨t114, t115⟩, A50, H⟩ := H
      replace H : (if t115 = 0 then (if t114 = true then (some 0) else (some 7)) else (some 7)) = some r := H
      have A5 := ak A50
      clear A50
      by_cases c6 : t115 = 0
      · rw [if_pos c6] at H
        have c6b0 : (t115 == 0) = true := beq_iff_eq.mpr c6
        have c6b1 : (t115 != 0) = false := bne_eq_false_iff_eq.mpr c6
        clear c6
        by_cases c7 : t114 = true
        · subst c7
          have H1 : (some 0) = some r := by rw [if_pos rfl] at H; exact H
          clear H
          have H := H1
          clear H1
          as_aux_lemma =>
           obtain rfl := Option.some.inj H
           go_wp2_with (first | ((with_reducible refine gate_callee (f := 109) rfl ?_); refine goesL_ (some 13) rfl rfl Try.func109 (by kernel_rfl) rfl #[.int .i64 a0] rfl mX ?_; (with_reducible refine (residue_IsPrime.calls kj1 a0 true t115 _ A5.out).mono ?_); rintro e w8 ⟨rfl, hb⟩; refine ⟨_, rfl, ?_⟩; have n0_ := ak (below_step bX hb); clear HB; have HB := n0_; clear n0_; (try clear hb); (try clear hb2); (try clear hk); (try clear hi)))
           go_ret
           exact ⟨by first | rfl | (simp [errW_none, errW_some] <;> rfl) | (simp [*, errW_none, errW_some] <;> rfl), by repeat (first | (with_reducible first | exact HB.out | apply bA | apply bB | apply bC) | exact HB.out)⟩
        · replace c7 := Bool.eq_false_iff.mpr c7
          subst c7
          have H1 : (some 7) = some r := by rw [if_neg (show ¬ (false = true) by decide)] at H; exact H
          clear H
          have H := H1
          clear H1
          as_aux_lemma =>
           obtain rfl := Option.some.inj H
           go_wp2_with (first | ((with_reducible refine gate_callee (f := 109) rfl ?_); refine goesL_ (some 13) rfl rfl Try.func109 (by kernel_rfl) rfl #[.int .i64 a0] rfl mX ?_; (with_reducible refine (residue_IsPrime.calls kj1 a0 false t115 _ A5.out).mono ?_); rintro e w9 ⟨rfl, hb⟩; refine ⟨_, rfl, ?_⟩; have n0_ := ak (below_step bX hb); clear HB; have HB := n0_; clear n0_; (try clear hb); (try clear hb2); (try clear hk); (try clear hi)))
           go_ret
           exact ⟨by first | rfl | (simp [errW_none, errW_some] <;> rfl) | (simp [*, errW_none, errW_some] <;> rfl), by repeat (first | (with_reducible first | exact HB.out | apply bA | apply bB | apply bC) | exact HB.out)⟩
      · rw [if_neg c6] at H
        have c6b0 : (t115 == 0) = false := beq_eq_false_iff_ne.mpr c6
        have c6b1 : (t115 != 0) = true := bne_iff_ne.mpr c6
        as_aux_lemma =>
         obtain rfl := Option.some.inj H
         go_wp2_with (first | ((with_reducible refine gate_callee (f := 109) rfl ?_); refine goesL_ (some 13) rfl rfl Try.func109 (by kernel_rfl) rfl #[.int .i64 a0] rfl mX ?_; (with_reducible refine (residue_IsPrime.calls kj1 a0 t114 t115 _ A5.out).mono ?_); rintro e w10 ⟨rfl, hb⟩; refine ⟨_, rfl, ?_⟩; have n0_ := ak (below_step bX hb); clear HB; have HB := n0_; clear n0_; (try clear hb); (try clear hb2); (try clear hk); (try clear hi)))
         go_ret
         exact ⟨by first | rfl | (simp [errW_none, errW_some] <;> rfl) | (simp [*, errW_none, errW_some] <;> rfl), by repeat (first | (with_reducible first | exact HB.out | apply bA | apply bB | apply bC) | exact HB.out)⟩

-- NOT PRINTED: function 110 (api_ModPoly_int_110)

-- NOT PRINTED: function 93 (api_ModPoly_int_93)

/-! ### polymod_Check: function 47 -/
theorem chk_any_take (p : Int → Bool) (l : List Int) (m : Nat) (h : m < l.length) : (l.take (m + 1)).any p = ((l.take m).any p || p (rd l m)) := by
 rw [List.take_succ_eq_append_getElem h, List.any_append]
 simp [rd, List.getD_eq_getElem?_getD, h]

set_option maxHeartbeats 8000000 in
set_option maxRecDepth 100000 in
theorem idxf_110 (p : Int → Bool) (A0 : Option Addr) (c0 : Nat) (l0 : List Int) (B : Nat) (w : World) (hr0 : Kd.C (Kd.int .i64) w A0 l0.length l0)
 (hp : ∀ x : Int, Calls Try.prog 94 #[.int .i64 x, .pointer (some ⟨B, 0, none⟩)] w fun e w' => e = .returned (.bool (p x)) ∧ w' = w) :
 Calls Try.prog 110 #[.slice A0 l0.length c0, .func (.func 94) #[] #[.pointer (some ⟨B, 0, none⟩)]] w fun e w' => ∃ r : Int, e = .returned (.int .i64 r) ∧ Aside0 (decide (0 ≤ r) = l0.any p) ∧ w' = w := by
 have HR0 := ak hr0
 have HL := ak (show (l0.length : Int) ≤ 9223372036854775807 from by have := hr0.2.1; omega)
 clear hr0
 have HP := ak hp
 clear hp
 go_enter Try.func110, Try.ntmps110
 go_wp2
 go_loopg [8] l0.length (fun kq v8 w' => ∃ x : Int, Aside0 (0 ≤ x ∧ x + kq = (l0.length : Int)) ∧ v8 = .int .i64 x ∧ Aside0 ((l0.take x.toNat).any p = false) ∧ w' = w)
 case atStart => exact ⟨0, ⟨by omega⟩, rfl, ⟨by simp⟩, rfl⟩
 case round =>
  obtain ⟨x, HX, rfl, HT, rfl⟩ := hrel
  by_cases h0 : x < (l0.length : Int)
  · have c0b : decide (x < (l0.length : Int)) = true := decide_eq_true h0
    obtain ⟨k1, rfl⟩ : ∃ m, gk = m + 1 := ⟨gk - 1, by have := HX.out; omega⟩
    have b0 : decide (0 ≤ x) = true := decide_eq_true HX.out.1
    obtain ⟨ad, e, hx⟩ := Kd.at_int HR0.out x (of_decide_eq_true b0) h0
    cases e
    have b2 := eq_true (of_decide_eq_true b0)
    have b3 := eq_true h0
    have HX2 := ak (show (x.toNat : Int) = x ∧ x.toNat < l0.length from by have := HX.out; omega)
    have hcall := HP.out (rd l0 x)
    clear h0
    obtain ⟨ji, hji⟩ : ∃ j_ : Int, wrap64 (x + 1) = j_ := ⟨_, rfl⟩
    have hjiw : IntKind.i64.wrap (x + 1) = ji := (i64_w _).trans hji
    have HJ := ak (show ji = x + 1 from by rw [← hji]; unfold wrap64; have := HX.out; have := HL.out; omega)
    cases hq : p (rd l0 x) with
    | true =>
      rw [hq] at hcall
      have HQ := ak hq
      clear hq
      go_wp2_with (go_at_call 94; refine hcall.mono ?_; rintro e w' ⟨rfl, rfl⟩)
      go_ret
      refine ⟨x, rfl, ⟨?_⟩, rfl⟩
      rw [decide_eq_true HX.out.1]
      have e1 : rd l0 (x.toNat : Int) = rd l0 x := by rw [HX2.out.1]
      have : (l0.take (x.toNat + 1)).any p = true := by rw [chk_any_take p l0 _ HX2.out.2, e1, HQ.out]; simp
      symm
      rw [List.any_eq_true] at this ⊢
      obtain ⟨y, hy, hy2⟩ := this
      exact ⟨y, List.mem_of_mem_take hy, hy2⟩
    | false =>
      rw [hq] at hcall
      have HQ := ak hq
      clear hq
      go_wp2_with (go_at_call 94; refine hcall.mono ?_; rintro e w' ⟨rfl, rfl⟩)
      (first | go_roundg k1 | (refine Handed.intro k1 ?measure ?_; rotate_left; go_step; (repeat rw [add_plain]); (repeat apply Exists.intro); refine ⟨?rel, rfl⟩))
      case measure => omega
      case rel =>
       refine ⟨ji, ⟨by have := HX.out; have := HJ.out; omega⟩, rfl, ⟨?_⟩, rfl⟩
       have e1 : rd l0 (x.toNat : Int) = rd l0 x := by rw [HX2.out.1]
       have e2 : ji.toNat = x.toNat + 1 := by have := HX.out; have := HJ.out; omega
       rw [e2, chk_any_take p l0 _ HX2.out.2, HT.out, e1, HQ.out]; rfl
  · have c0b : decide (x < (l0.length : Int)) = false := decide_eq_false h0
    have HE := ak (show l0.any p = false from by
     have e : l0.take x.toNat = l0 := List.take_of_length_le (by have := HX.out; omega)
     have := HT.out; rwa [e] at this)
    clear h0
    go_wp2
    go_ret
    exact ⟨-1, rfl, ⟨by rw [HE.out]; rfl⟩, rfl⟩

set_option maxHeartbeats 8000000 in
set_option maxRecDepth 100000 in
theorem hasf_93 (p : Int → Bool) (A0 : Option Addr) (c0 : Nat) (l0 : List Int) (B : Nat) (w : World) (hr0 : Kd.C (Kd.int .i64) w A0 l0.length l0)
 (hp : ∀ x : Int, Calls Try.prog 94 #[.int .i64 x, .pointer (some ⟨B, 0, none⟩)] w fun e w' => e = .returned (.bool (p x)) ∧ w' = w) :
 Calls Try.prog 93 #[.slice A0 l0.length c0, .func (.func 94) #[] #[.pointer (some ⟨B, 0, none⟩)]] w fun e w' => e = .returned (.bool (l0.any p)) ∧ w' = w := by
 have HC := ak (idxf_110 p A0 c0 l0 B w hr0 hp)
 clear hr0 hp
 go_enter Try.func93, Try.ntmps93
 go_wp2_with (go_at_call 110; refine HC.out.mono ?_; rintro e w' ⟨r, rfl, hr, rfl⟩)
 go_ret
 exact ⟨by rw [← hr.out]; rfl, rfl⟩


set_option maxHeartbeats 8000000 in
set_option maxRecDepth 100000 in
theorem check1_94 (p x : Int) (B : Nat) (w : World) (hb : w.cell? ⟨B, 0, none⟩ = some (.int .i64 p)) : Calls Try.prog 94 #[.int .i64 x, .pointer (some ⟨B, 0, none⟩)] w fun e w' => e = .returned (.bool (decide (x < 0) || decide (p ≤ x))) ∧ w' = w := by
 by_cases h1 : x < 0
 · have c1 : decide (x < 0) = true := decide_eq_true h1
   clear h1
   go_enter Try.func94, Try.ntmps94
   go_wp2
   go_ret
   exact ⟨by rw [c1]; rfl, rfl⟩
 · have c1 : decide (x < 0) = false := decide_eq_false h1
   clear h1
   go_enter Try.func94, Try.ntmps94
   go_wp2
   go_ret
   exact ⟨by rw [c1]; rfl, rfl⟩
def polymod_Check.g (a0 : Int) (l1 : List Int) : Int := if (l1.length : Int) > 65 then 4 else if (l1.any fun x => decide (x < 0) || decide (a0 ≤ x)) = true then 1 else if (l1.length : Int) > 0 then (if rd l1 ((l1.length : Int) - 1) = 0 then 1 else 0) else 0
def polymod_Check.f (k : Nat) (a0 : Int) (l1 : List Int) : Option Int := (polymod_prime.f k a0).bind fun e => if e = 0 then some (polymod_Check.g a0 l1) else some e
theorem polymod_Check.mono : ∀ a0 a1 k, LeO (polymod_Check.f k a0 a1) (polymod_Check.f (k + 1) a0 a1) := fun _ _ _ => LeO.bind (polymod_prime.mono _ _) (fun _ => LeO.refl _)
set_option maxHeartbeats 8000000 in
set_option maxRecDepth 100000 in
theorem polymod_Check.calls (k : Nat) (a0 : Int) (A1 : Option Addr) (c1 : Nat) (l1 : List Int) (r : Int) (w : World) (hr1 : Kd.C (Kd.int .i64) w A1 l1.length l1) (hc1 : l1.length ≤ c1) (h : polymod_Check.f k a0 l1 = some r) :
 Calls Try.prog 47 #[.int .i64 a0, .slice A1 l1.length c1] w fun e w' => e = .returned (.int .i64 r) ∧ Below w.heap.size w w' := by
 obtain ⟨e0, hp, h⟩ := Option.bind_eq_some_iff.mp h
 have HP := ak hp
 have HR1 := ak hr1
 have HL := ak (show (l1.length : Int) ≤ 9223372036854775807 from by have := hr1.2.1; omega)
 clear hr1 hc1 hp
 by_cases h0 : e0 = 0
 · rw [if_pos h0] at h
   subst h0
   obtain rfl := Option.some.inj h
   clear h
   by_cases c3 : (l1.length : Int) > 65
   · have HG := ak (show polymod_Check.g a0 l1 = 4 from by unfold polymod_Check.g; rw [if_pos c3])
     have c3b0 : decide (65 < (l1.length : Int)) = true := decide_eq_true c3
     have c3b1 : decide (65 < l1.length) = true := decide_eq_true (by omega)
     clear c3
     go_enter Try.func47, Try.ntmps47
     go_wp2_with (go_at_call 92; refine (polymod_prime.calls k a0 0 _ HP.out).mono ?_; rintro e w1 ⟨rfl, hb⟩)
     go_ret
     exact ⟨by rw [HG.out]; rfl, ((Below.refl _ _).alloc (Nat.le_refl _) _).trans (hb.mono (by simp))⟩
   · have c3b0 : decide (65 < (l1.length : Int)) = false := decide_eq_false c3
     have c3b1 : decide (65 < l1.length) = false := decide_eq_false (by omega)
     have HG2 : ∀ v, (if (l1.any fun x => decide (x < 0) || decide (a0 ≤ x)) = true then 1 else if (l1.length : Int) > 0 then (if rd l1 ((l1.length : Int) - 1) = 0 then 1 else 0) else 0) = v → polymod_Check.g a0 l1 = v := fun v hv => by unfold polymod_Check.g; rw [if_neg c3]; exact hv
     clear c3
     cases ha : (l1.any fun x => decide (x < 0) || decide (a0 ≤ x)) with
     | true =>
       have HA := ak ha
       have HG := ak (HG2 1 (by rw [if_pos ha]))
       clear HG2 ha
       go_enter Try.func47, Try.ntmps47
       go_wp2_with (first | (go_at_call 92; refine (polymod_prime.calls k a0 0 _ HP.out).mono ?_; rintro e w1 ⟨rfl, hb⟩; have hbox : w1.cell? ⟨w.heap.size, 0, none⟩ = some (.int .i64 a0) := (hb.cell (p := ⟨w.heap.size, 0, none⟩) (by simp)).trans (by simp); have HR := ak (Kd.C_below (Kd.C_below HR1.out ((Below.refl _ w).alloc (Nat.le_refl _) (.cells #[.int .i64 a0] 3))) hb)) | (go_at_call 93; refine (hasf_93 (fun x => decide (x < 0) || decide (a0 ≤ x)) A1 c1 l1 w.heap.size _ HR.out (fun x => check1_94 a0 x _ _ hbox)).mono ?_; rw [HA.out]; rintro e w' ⟨rfl, rfl⟩))
       go_ret
       exact ⟨by rw [HG.out]; rfl, ((Below.refl _ _).alloc (Nat.le_refl _) _).trans (hb.mono (by simp))⟩
     | false =>
       have HA := ak ha
       have HG3 : ∀ v, (if (l1.length : Int) > 0 then (if rd l1 ((l1.length : Int) - 1) = 0 then 1 else 0) else 0) = v → polymod_Check.g a0 l1 = v := fun v hv => HG2 v (by rw [ha, if_neg (by simp)]; exact hv)
       clear HG2 ha
       by_cases c5 : (l1.length : Int) > 0
       · obtain ⟨ji, hji⟩ : ∃ j_ : Int, wrap64 ((l1.length : Int) - 1) = j_ := ⟨_, rfl⟩
         have hjiw : IntKind.i64.wrap ((l1.length : Int) - 1) = ji := (i64_w _).trans hji
         have HJ := ak (show (l1.length : Int) - 1 = ji from by rw [← hji]; unfold wrap64; have := HL.out; omega)
         have c5b0 : decide (0 < (l1.length : Int)) = true := decide_eq_true c5
         have c5b1 : decide (0 < l1.length) = true := decide_eq_true (by omega)
         have b0 : decide (0 ≤ ji) = true := decide_eq_true (by have := HJ.out; omega)
         have b1 : decide (ji < (l1.length : Int)) = true := decide_eq_true (by have := HJ.out; omega)
         have HG := ak (HG3 (if rd l1 ji = 0 then 1 else 0) (by rw [if_pos c5, HJ.out]))
         clear HG3 c5
         obtain ⟨ad, e, hx0⟩ := Kd.at_int HR1.out ji (of_decide_eq_true b0) (of_decide_eq_true b1)
         cases e
         have HX0 := ak hx0
         clear hx0
         have b2 := eq_true (of_decide_eq_true b0)
         have b3 := eq_true (of_decide_eq_true b1)
         by_cases hz : rd l1 ji = 0
         all_goals
          first
          | (have z0 : (rd l1 ji == 0) = true := beq_iff_eq.mpr hz
             have z1 : (rd l1 ji != 0) = false := bne_eq_false_iff_eq.mpr hz
             have HV := ak (HG.out.trans (if_pos hz))
             clear hz)
          | (have z0 : (rd l1 ji == 0) = false := beq_eq_false_iff_ne.mpr hz
             have z1 : (rd l1 ji != 0) = true := bne_iff_ne.mpr hz
             have HV := ak (HG.out.trans (if_neg hz))
             clear hz)
          go_enter Try.func47, Try.ntmps47
          go_wp2_with (first | (go_at_call 92; refine (polymod_prime.calls k a0 0 _ HP.out).mono ?_; rintro e w1 ⟨rfl, hb⟩; have hbox : w1.cell? ⟨w.heap.size, 0, none⟩ = some (.int .i64 a0) := (hb.cell (p := ⟨w.heap.size, 0, none⟩) (by simp)).trans (by simp); have hb0 := ((Below.refl _ w).alloc (Nat.le_refl _) (.cells #[.int .i64 a0] 3)); have HR := ak (Kd.C_below (Kd.C_below HR1.out hb0) hb); have hx1 := pw_cell_below hb (pw_cell_below hb0 HX0.out)) | (go_at_call 93; refine (hasf_93 (fun x => decide (x < 0) || decide (a0 ≤ x)) (some ad) c1 l1 w.heap.size _ HR.out (fun x => check1_94 a0 x _ _ hbox)).mono ?_; rw [HA.out]; rintro e w' ⟨rfl, rfl⟩))
          go_ret
          exact ⟨by rw [HV.out]; rfl, ((Below.refl _ _).alloc (Nat.le_refl _) _).trans (hb.mono (by simp))⟩
       · have c5b0 : decide (0 < (l1.length : Int)) = false := decide_eq_false c5
         have c5b1 : decide (0 < l1.length) = false := decide_eq_false (by omega)
         have HG := ak (HG3 0 (by rw [if_neg c5]))
         clear HG3 c5
         go_enter Try.func47, Try.ntmps47
         go_wp2_with (first | (go_at_call 92; refine (polymod_prime.calls k a0 0 _ HP.out).mono ?_; rintro e w1 ⟨rfl, hb⟩; have hbox : w1.cell? ⟨w.heap.size, 0, none⟩ = some (.int .i64 a0) := (hb.cell (p := ⟨w.heap.size, 0, none⟩) (by simp)).trans (by simp); have HR := ak (Kd.C_below (Kd.C_below HR1.out ((Below.refl _ w).alloc (Nat.le_refl _) (.cells #[.int .i64 a0] 3))) hb)) | (go_at_call 93; refine (hasf_93 (fun x => decide (x < 0) || decide (a0 ≤ x)) A1 c1 l1 w.heap.size _ HR.out (fun x => check1_94 a0 x _ _ hbox)).mono ?_; rw [HA.out]; rintro e w' ⟨rfl, rfl⟩))
         go_ret
         exact ⟨by rw [HG.out]; rfl, ((Below.refl _ _).alloc (Nat.le_refl _) _).trans (hb.mono (by simp))⟩
 · rw [if_neg h0] at h
   obtain rfl := Option.some.inj h
   clear h
   have h1 : (e0 == 0) = false := beq_eq_false_iff_ne.mpr h0
   have h2 : (e0 != 0) = true := bne_iff_ne.mpr h0
   clear h0
   go_enter Try.func47, Try.ntmps47
   go_wp2_with (go_at_call 92; refine (polymod_prime.calls k a0 e0 _ HP.out).mono ?_; rintro e w1 ⟨rfl, hb⟩)
   go_ret
   exact ⟨rfl, ((Below.refl _ _).alloc (Nat.le_refl _) _).trans (hb.mono (by simp))⟩

/-! ### polymod_first: function 60 -/
def polymod_first.l0 : Nat → Int → List (List Int) → Int → Int → Option (Int)
 | 0, _, _, _, _ => none
 | k + 1, x0, x8, x9, x10 => if x10 < x9 then (if 0 ≤ x10 then (if x10 < (x8.length : Int) then ((polymod_Check.f k x0 (rd_L2 x8 x10)).bind fun t119 => (if t119 = 0 then (polymod_first.l0 k x0 x8 x9 (wrap64 (x10 + 1))) else (some t119))) else (none)) else (none)) else (some 0)
def polymod_first.f (k : Nat) (a0 : Int) (l1 : List (List Int)) : Option (Int) := polymod_first.l0 k a0 l1 (l1.length : Int) 0
theorem polymod_first.mono_l : ∀ k, (∀ y0 y1 y2 y3, LeO (polymod_first.l0 k y0 y1 y2 y3) (polymod_first.l0 (k + 1) y0 y1 y2 y3))
 | 0 => fun _ _ _ _ r h => by simp [polymod_first.l0] at h
 | k + 1 => by
   have ih0 := polymod_first.mono_l k
   · intro y0 y1 y2 y3
     unfold polymod_first.l0
     repeat' first
     | (with_reducible apply ih0)
     | (with_reducible apply polymod_Check.mono)
     | (with_reducible apply LeO.refl)
     | (with_reducible apply LeO.none)
     | (with_reducible refine LeO.ite ?_ ?_)
     | (with_reducible refine LeO.bind ?_ (fun _ => ?_))
theorem polymod_first.mono : ∀ a0 a1 k, LeO (polymod_first.f k a0 a1) (polymod_first.f (k + 1) a0 a1) := by
 intro a0 a1 k
 have ih0 := polymod_first.mono_l k
 unfold polymod_first.f
 repeat' first
  | (with_reducible apply ih0)
  | (with_reducible apply polymod_Check.mono)
  | (with_reducible apply LeO.refl)
  | (with_reducible apply LeO.none)
  | (with_reducible refine LeO.ite ?_ ?_)
  | (with_reducible refine LeO.bind ?_ (fun _ => ?_))
set_option maxHeartbeats 8000000 in
set_option maxRecDepth 100000 in
theorem polymod_first.calls (k : Nat) (a0 : Int) (A1 : Option Addr) (c1 : Nat) (l1 : List (List Int)) (r : Int) (w : World) (hr1 : Kd.C (Kd.slice 3 (Kd.int .i64)) w A1 l1.length l1) (hc1 : l1.length ≤ c1) (h : polymod_first.f k a0 l1 = some r) :
 Calls Try.prog 60 #[.int .i64 a0, .slice A1 l1.length c1] w fun e w' => e = .returned (.int .i64 r) ∧ Below w.heap.size w w' := by
 have HR1 := ak hr1
 have HC1 := ak hc1
 clear hr1 hc1
 have HB := ak (Below.refl w.heap.size w)
 have H : (polymod_first.l0 k a0 l1 (l1.length : Int) 0) = some r := h
 clear h
 have H' := ak H
 clear H
 go_enter Try.func60, Try.ntmps60
 go_wp2
 go_loopg [10] k (fun kq v10 w' => ∃ (x10_1 : Int), v10 = .int .i64 x10_1 ∧ Aside0 (polymod_first.l0 kq a0 l1 (l1.length : Int) x10_1 = some r) ∧ Aside0 (kq ≤ k) ∧ Aside0 (Below w.heap.size w w'))
 case atStart => exact ⟨(0), (by first | rfl | (simp; done) | (simp [*]; done)), H', ⟨Nat.le_refl _⟩, ⟨by repeat (first | (with_reducible first | exact HB.out | apply bA | apply bB | apply bC) | exact HB.out)⟩⟩
 case round =>
  clear H'
  try clear c1
  try clear p2
  obtain ⟨x10_1, rfl, HA, HK1, HB⟩ := hrel
  cases gk with
  | zero => exact absurd HA.out (by simp [polymod_first.l0])
  | succ k1 =>
    have H := HA.out
    clear HA
    simp only [polymod_first.l0] at H
    by_cases c3 : x10_1 < (l1.length : Int)
    · rw [if_pos c3] at H
      have c3b0 : decide (x10_1 < (l1.length : Int)) = true := decide_eq_true c3
      clear c3
      by_cases c4 : 0 ≤ x10_1
      · rw [if_pos c4] at H
        have c4b0 : decide (0 ≤ x10_1) = true := decide_eq_true c4
        clear c4
        by_cases c5 : x10_1 < (l1.length : Int)
        · rw [if_pos c5] at H
          have c5b0 : decide (x10_1 < (l1.length : Int)) = true := decide_eq_true c5
          clear c5
          replace H := Option.bind_eq_some_iff.mp H
          obtain ⟨t119, A60, H⟩ := H
          replace H : (if t119 = 0 then (polymod_first.l0 k1 a0 l1 (l1.length : Int) (wrap64 (x10_1 + 1))) else (some t119)) = some r := H
          have A6 := ak A60
          clear A60
          by_cases c7 : t119 = 0
          · rw [if_pos c7] at H
            have c7b0 : (t119 == 0) = true := beq_iff_eq.mpr c7
            have c7b1 : (t119 != 0) = false := bne_eq_false_iff_eq.mpr c7
            clear c7
            as_aux_lemma =>
             have H' := ak H
             clear H
             have p118 : 0 ≤ (x10_1 : Int) := of_decide_eq_true aX
             have q118 : x10_1 < (l1.length : Int) := of_decide_eq_true aX
             obtain ⟨ad118, A118_0, c118_0, e118, hx118_0, hl118_0, hi118_0⟩ := at_L2 HR1.out x10_1 p118 q118
             cases e118
             replace hx118_0 := (HB.out.cell (World.block_lt_of_cell? w _ hx118_0)).trans hx118_0
             have HR118_0 := ak hi118_0
             have HC118_0 := ak hl118_0
             clear hi118_0 hl118_0
             replace p118 := eq_true p118
             replace q118 := eq_true q118
             go_wp2_with (first | ((with_reducible refine gate_callee (f := 47) rfl ?_); refine goesL_ (some 16) rfl rfl Try.func47 (by kernel_rfl) rfl #[.int .i64 a0, .slice A118_0 (rd_L2 l1 x10_1).length c118_0] rfl mX ?_; (with_reducible refine (polymod_Check.calls k1 a0 _ _ (rd_L2 l1 x10_1) t119 _ ?side1 ?side2 A6.out).mono ?_); (case side1 => exact cX (Kd.C_below HR118_0.out HB.out)); (case side2 => exact HC118_0.out); rintro e w8 ⟨rfl, hb⟩; refine ⟨_, rfl, ?_⟩; have n0_ := ak (below_step bX hb); clear HB; have HB := n0_; clear n0_; (try clear hb); (try clear hb2); (try clear hk); (try clear hi)))
             (first | go_roundg k1 | (refine Handed.intro k1 ?measure ?_; rotate_left; go_step; (repeat rw [add_plain]); (repeat apply Exists.intro); refine ⟨?rel, rfl⟩))
             case measure => have := HK1.out; omega
             case rel => exact ⟨(wrap64 (x10_1 + 1)), (by first | rfl | (simp; done) | (simp [*]; done)), H', ⟨by have := HK1.out; omega⟩, ⟨by repeat (first | (with_reducible first | exact HB.out | apply bA | apply bB | apply bC) | exact HB.out)⟩⟩
          · rw [if_neg c7] at H
            have c7b0 : (t119 == 0) = false := beq_eq_false_iff_ne.mpr c7
            have c7b1 : (t119 != 0) = true := bne_iff_ne.mpr c7
            as_aux_lemma =>
             obtain rfl := Option.some.inj H
             have p118 : 0 ≤ (x10_1 : Int) := of_decide_eq_true aX
             have q118 : x10_1 < (l1.length : Int) := of_decide_eq_true aX
             obtain ⟨ad118, A118_0, c118_0, e118, hx118_0, hl118_0, hi118_0⟩ := at_L2 HR1.out x10_1 p118 q118
             cases e118
             replace hx118_0 := (HB.out.cell (World.block_lt_of_cell? w _ hx118_0)).trans hx118_0
             have HR118_0 := ak hi118_0
             have HC118_0 := ak hl118_0
             clear hi118_0 hl118_0
             replace p118 := eq_true p118
             replace q118 := eq_true q118
             go_wp2_with (first | ((with_reducible refine gate_callee (f := 47) rfl ?_); refine goesL_ (some 16) rfl rfl Try.func47 (by kernel_rfl) rfl #[.int .i64 a0, .slice A118_0 (rd_L2 l1 x10_1).length c118_0] rfl mX ?_; (with_reducible refine (polymod_Check.calls k1 a0 _ _ (rd_L2 l1 x10_1) t119 _ ?side1 ?side2 A6.out).mono ?_); (case side1 => exact cX (Kd.C_below HR118_0.out HB.out)); (case side2 => exact HC118_0.out); rintro e w9 ⟨rfl, hb⟩; refine ⟨_, rfl, ?_⟩; have n0_ := ak (below_step bX hb); clear HB; have HB := n0_; clear n0_; (try clear hb); (try clear hb2); (try clear hk); (try clear hi)))
             go_ret
             exact ⟨by first | rfl | (simp [errW_none, errW_some] <;> rfl) | (simp [*, errW_none, errW_some] <;> rfl), by repeat (first | (with_reducible first | exact HB.out | apply bA | apply bB | apply bC) | exact HB.out)⟩
        · rw [if_neg c5] at H
          exact absurd H (by simp)
      · rw [if_neg c4] at H
        exact absurd H (by simp)
    · rw [if_neg c3] at H
      have c3b0 : decide (x10_1 < (l1.length : Int)) = false := decide_eq_false c3
      clear c3
      as_aux_lemma =>
       obtain rfl := Option.some.inj H
       go_wp2
       go_ret
       exact ⟨by first | rfl | (simp [errW_none, errW_some] <;> rfl) | (simp [*, errW_none, errW_some] <;> rfl), by repeat (first | (with_reducible first | exact HB.out | apply bA | apply bB | apply bC) | exact HB.out)⟩

/-! ### fp_Mod: function 87 -/
def fp_Mod.f (a0 : Int) (a1 : Int) : Option (Int) := if a0 = 0 then (none) else (if (Int.tmod a1 a0) < 0 then (some (wrap64 ((Int.tmod a1 a0) + a0))) else (some (Int.tmod a1 a0)))
set_option maxHeartbeats 8000000 in
set_option maxRecDepth 100000 in
theorem fp_Mod.calls (a0 : Int) (a1 : Int) (r : Int) (w : World) (h : fp_Mod.f a0 a1 = some r) :
 Calls Try.prog 87 #[.int .i64 a0, .int .i64 a1] w fun e w' => e = .returned (.int .i64 r) ∧ Drawn0 w w' := by
 have H : (if a0 = 0 then (none) else (if (Int.tmod a1 a0) < 0 then (some (wrap64 ((Int.tmod a1 a0) + a0))) else (some (Int.tmod a1 a0)))) = some r := h
 clear h
 by_cases c3 : a0 = 0
 · rw [if_pos c3] at H
   exact absurd H (by simp)
 · rw [if_neg c3] at H
   have c3b0 : (a0 == 0) = false := beq_eq_false_iff_ne.mpr c3
   have c3b1 : (a0 != 0) = true := bne_iff_ne.mpr c3
   by_cases c4 : (Int.tmod a1 a0) < 0
   · rw [if_pos c4] at H
     have c4b0 : decide ((Int.tmod a1 a0) < 0) = true := decide_eq_true c4
     clear c4
     as_aux_lemma =>
      obtain rfl := Option.some.inj H
      go_enter Try.func87, Try.ntmps87
      go_wp2
      go_ret
      exact ⟨by first | rfl | (simp; done) | (simp [*]; done), by repeat (first | exact Drawn0.refl _ | apply Drawn0.step)⟩
   · rw [if_neg c4] at H
     have c4b0 : decide ((Int.tmod a1 a0) < 0) = false := decide_eq_false c4
     clear c4
     as_aux_lemma =>
      obtain rfl := Option.some.inj H
      go_enter Try.func87, Try.ntmps87
      go_wp2
      go_ret
      exact ⟨by first | rfl | (simp; done) | (simp [*]; done), by repeat (first | exact Drawn0.refl _ | apply Drawn0.step)⟩

end Go.Proofs.Ytmknclgamadphaa.PPolymodPrimes
