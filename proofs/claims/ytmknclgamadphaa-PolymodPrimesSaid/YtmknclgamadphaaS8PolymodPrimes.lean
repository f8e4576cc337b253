/- What the program's powers modulo a polynomial are. -/
import Derived.Test.YtmknclgamadphaaA8PolymodPrimes
import Derived.Test.YtmknclgamadphaaA5PolymodPrimes
namespace Go.Proofs.Ytmknclgamadphaa.MPolymodPrimes
open Go.RowKit Go.Proofs.Ytmknclgamadphaa.PPolymodPrimes Go.Proofs.YtmknclgamadphaaW.PrintWords Go.Proofs.YtmknclgamadphaaW.PrintLast Go.Proofs.YtmknclgamadphaaW.PrintMore
set_option linter.unusedVariables false
set_option linter.unusedSimpArgs false
theorem fp_MulMod_is {p : Int} (hp : MoP p) {f g m : List Int} (hf : Val p f) (hg : Val p g) (hm : Val p m) (hne : m ≠ []) (hfl : f.length ≤ 1000) (hgl : g.length ≤ 1000) (hml : m.length ≤ 1000) :
    ∃ r, Ev (fun k => fp_MulMod.f k p f g m) r ∧ Val p r ∧ r.length < m.length ∧ Fx.Cg (toF p m) (toF p f * toF p g) (toF p r) := by
  have hl := pmul_len p f g
  obtain ⟨q, r, h1, hd⟩ := fp_Rem_is hp (val_pmul hp.1.pos f g) hm hne (by omega) (by omega)
  refine ⟨r, Ev.bind (fp_Mul_is hp.1 hf hg (by omega) (by omega)) (Ev.bind h1 (Ev.con rfl)), hd.vr, hd.lt, ?_⟩
  rw [← toF_mul]
  exact hd.cg
theorem bit1_fin : ∀ n : Fin 256, Go.bits .and .u8 ((n.val : Nat) : Int) 1 = ((n.val % 2 : Nat) : Int) := by decide +kernel
theorem shr_nat (x : Nat) (j : Nat) (hj : j ≤ 8) : shr .u8 (x : Int) (j : Int) = ((x / 2 ^ j : Nat) : Int) := by
  unfold shr
  rw [Int.toNat_natCast, show min j (IntKind.bits .u8) = j from Nat.min_eq_left hj]
  norm_cast
theorem halves (x j : Nat) : x / 2 ^ j = 2 * (x / 2 ^ (j + 1)) + (x / 2 ^ j) % 2 := by
  have : x / 2 ^ (j + 1) = x / 2 ^ j / 2 := by rw [Nat.pow_succ, Nat.div_div_eq_div_mul]
  omega
theorem pow_bits {p : Int} (hp : MoP p) {m b : List Int} {e : ByteArray} (hm : Val p m) (hne : m ≠ []) (hb : Val p b) (hbl : b.length < m.length) (hml : m.length ≤ 1000) {n i : Nat} (hi : i < e.size) (hes : e.size ≤ 1000000) {Q : List Int → Prop} {E : Nat}
    (next : ∀ v : List Int, Val p v → v.length < m.length → Fx.Cg (toF p m) (CR.pw (toF p b) (E * 256 + (bt e (i : Int)).toNat)) (toF p v) → ∃ w, Ev (fun k => fp_PowMod.l0 k p e m v b (n : Int) ((i : Int) + 1)) w ∧ Q w) :
    ∀ (j : Nat) (v : List Int), j ≤ 8 → Val p v → v.length < m.length → Fx.Cg (toF p m) (CR.pw (toF p b) (E * 2 ^ (8 - j) + (bt e (i : Int)).toNat / 2 ^ j)) (toF p v) → ∃ w, Ev (fun k => fp_PowMod.l1 k p e m v b (i : Int) ((j : Int) - 1) (n : Int) (i : Int)) w ∧ Q w := by
  intro j
  induction j with
  | zero =>
    intro v _ hv hvl hc
    rw [Nat.pow_zero, Nat.div_one, Nat.sub_zero] at hc
    obtain ⟨w, h1, h2⟩ := next v hv hvl hc
    refine ⟨w, Ev.succ ?_, h2⟩
    simp only [fp_PowMod.l1]
    rw [w64 (x := (i : Int) + 1) (by omega) (by omega)]
    exact Ev.neg (by omega) h1
  | succ j ih =>
    intro v hj hv hvl hc
    obtain ⟨s, s1, sv, sl, sc⟩ := fp_MulMod_is hp hv hv hm hne (by omega) (by omega) hml
    obtain ⟨t, t1, tv, tl, tc⟩ := fp_MulMod_is hp sv hb hm hne (by omega) (by omega) hml
    have hr := bt_range e (i : Int)
    have hx : bt e (i : Int) = (((bt e (i : Int)).toNat : Nat) : Int) := (Int.toNat_of_nonneg hr.1).symm
    have hh := halves (bt e (i : Int)).toNat j
    have h8 : E * 2 ^ (8 - j) = 2 * (E * 2 ^ (8 - (j + 1))) := by
      rw [show 8 - j = (8 - (j + 1)) + 1 from by omega, Nat.pow_succ, ← Nat.mul_assoc, Nat.mul_comm]
    have hsq : Fx.Cg (toF p m) (CR.pw (toF p b) (2 * (E * 2 ^ (8 - (j + 1)) + (bt e (i : Int)).toNat / 2 ^ (j + 1)))) (toF p s) := by
      rw [Nat.two_mul, CR.pw_add]
      exact (hc.mul hc).trans sc
    have hlt : (bt e (i : Int)).toNat / 2 ^ j < 256 := Nat.lt_of_le_of_lt (Nat.div_le_self _ _) (by omega)
    have hbit := bit1_fin ⟨(bt e (i : Int)).toNat / 2 ^ j, hlt⟩
    simp only at hbit
    have hsh : shr .u8 (bt e (i : Int)) (j : Int) = (((bt e (i : Int)).toNat / 2 ^ j : Nat) : Int) := by rw [hx, Int.toNat_natCast]; exact shr_nat _ _ (by omega)
    rw [← hsh] at hbit
    by_cases c : (bt e (i : Int)).toNat / 2 ^ j % 2 = 1
    · obtain ⟨w, h1, h2⟩ := ih t (by omega) tv tl (by
        have e1 : E * 2 ^ (8 - j) + (bt e (i : Int)).toNat / 2 ^ j = 2 * (E * 2 ^ (8 - (j + 1)) + (bt e (i : Int)).toNat / 2 ^ (j + 1)) + 1 := by omega
        rw [e1, CR.pw_add]
        refine (hsq.mul ?_).trans tc
        show Fx.Cg _ (1 * toF p b) _
        rw [CR.one_mul]
        exact Fx.Cg.refl (Fx.po_toF b))
      refine ⟨w, Ev.succ ?_, h2⟩
      simp only [fp_PowMod.l1]
      rw [show ((j + 1 : Nat) : Int) - 1 = (j : Int) from by omega, w64 (x := (j : Int) - 1) (by omega) (by omega), hbit]
      exact Ev.pos (by omega) (Ev.bind s1 (Ev.pos (by omega) (Ev.pos (by omega) (Ev.pos (by omega) (Ev.pos (by omega) (Ev.bind t1 h1))))))
    · obtain ⟨w, h1, h2⟩ := ih s (by omega) sv sl (by
        have e1 : E * 2 ^ (8 - j) + (bt e (i : Int)).toNat / 2 ^ j = 2 * (E * 2 ^ (8 - (j + 1)) + (bt e (i : Int)).toNat / 2 ^ (j + 1)) := by omega
        rw [e1]
        exact hsq)
      refine ⟨w, Ev.succ ?_, h2⟩
      simp only [fp_PowMod.l1]
      rw [show ((j + 1 : Nat) : Int) - 1 = (j : Int) from by omega, w64 (x := (j : Int) - 1) (by omega) (by omega), hbit]
      exact Ev.pos (by omega) (Ev.bind s1 (Ev.pos (by omega) (Ev.pos (by omega) (Ev.pos (by omega) (Ev.neg (by omega) h1)))))
/-- The number of the first i bytes. -/
def numB (e : ByteArray) : Nat → Nat
  | 0 => 0
  | i + 1 => numB e i * 256 + (bt e (i : Int)).toNat
theorem pow_bytes {p : Int} (hp : MoP p) {m b : List Int} {e : ByteArray} (hm : Val p m) (hne : m ≠ []) (hb : Val p b) (hbl : b.length < m.length) (hml : m.length ≤ 1000) (hes : e.size ≤ 1000000) :
    ∀ (d i : Nat) (v : List Int), i + d = e.size → Val p v → v.length < m.length → Fx.Cg (toF p m) (CR.pw (toF p b) (numB e i)) (toF p v) → ∃ w, Ev (fun k => fp_PowMod.l0 k p e m v b (e.size : Int) (i : Int)) w ∧ Val p w ∧ w.length < m.length ∧ Fx.Cg (toF p m) (CR.pw (toF p b) (numB e e.size)) (toF p w) := by
  intro d
  induction d with
  | zero =>
    intro i v hi hv hvl hc
    obtain rfl : i = e.size := by omega
    refine ⟨v, Ev.succ ?_, hv, hvl, hc⟩
    simp only [fp_PowMod.l0]
    exact Ev.neg (by omega) (Ev.con rfl)
  | succ d ih =>
    intro i v hi hv hvl hc
    obtain ⟨w, h1, h2⟩ := pow_bits hp hm hne hb hbl hml (n := e.size) (i := i) (by omega) hes (E := numB e i) (fun v hv hvl hc => ih (i + 1) v (by omega) hv hvl hc) 8 v (Nat.le_refl _) hv hvl (by
      have hr := bt_range e (i : Int)
      have : (bt e (i : Int)).toNat / 2 ^ 8 = 0 := Nat.div_eq_of_lt (by omega)
      rw [this, Nat.sub_self, Nat.pow_zero, Nat.mul_one, Nat.add_zero]
      exact hc)
    refine ⟨w, Ev.succ ?_, h2⟩
    simp only [fp_PowMod.l0]
    exact Ev.pos (by omega) h1
theorem fp_PowMod_is {p : Int} (hp : MoP p) {f m : List Int} {e : ByteArray} (hf : Val p f) (hm : Val p m) (hne : m ≠ []) (hfl : f.length ≤ 1000) (hml : m.length ≤ 1000) (hes : e.size ≤ 1000000) :
    ∃ w, Ev (fun k => fp_PowMod.f k p f e m) w ∧ Val p w ∧ w.length < m.length ∧ Fx.Cg (toF p m) (CR.pw (toF p f) (numB e e.size)) (toF p w) := by
  have hv1 : Val p [1] := ⟨fun i => by
    have := hp.1.lo
    cases i with
    | zero => rw [co_zero]; omega
    | succ i => rw [co_succ, co_nil]; omega, rfl⟩
  have h1 : toF p [1] = 1 := Fx.ext fun i => by
    rw [Fx.one_c]
    show co [1] i % p = _
    cases i with
    | zero => rfl
    | succ i => rw [co_succ, co_nil, if_neg (by omega)]
  obtain ⟨_, o, o1, od⟩ := fp_Rem_is hp hv1 hm hne (by simp) (by omega)
  obtain ⟨_, t, t1, td⟩ := fp_Rem_is hp hf hm hne (by omega) (by omega)
  have ho := od.cg
  rw [h1] at ho
  obtain ⟨w, w1, w2, w3, w4⟩ := pow_bytes hp hm hne td.vr td.lt hml hes e.size 0 o (Nat.zero_add _) od.vr od.lt ho
  exact ⟨w, Ev.bind o1 (Ev.bind t1 w1), w2, w3, (td.cg.pw _).trans w4⟩
end Go.Proofs.Ytmknclgamadphaa.MPolymodPrimes
