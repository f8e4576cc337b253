/- Horner's rule is the remainder by x - a: values of products and compositions. -/
import Derived.Test.YtmknclgamadphaaA8PolymodFrobenius
import Derived.Test.YtmknclgamadphaaS4PolymodFrobenius
namespace Go.Proofs.Ytmknclgamadphaa.MPolymodFrobenius
open Go.RowKit Go.Proofs.Ytmknclgamadphaa.PPolymodFrobenius Go.Proofs.YtmknclgamadphaaW.PrintWords Go.Proofs.YtmknclgamadphaaW.PrintLast Go.Proofs.YtmknclgamadphaaW.PrintMore
set_option linter.unusedVariables false
set_option linter.unusedSimpArgs false
namespace Fx
variable {p : Int}
/-- x - a. -/
def lin (p a : Int) : Fx p := mono p 1 1 - mono p a 0
theorem lin_top (hp : Prime p) (a : Int) : (lin p a).top 1 := by
  have h2 := hp.1
  refine ⟨fun i hi => ?_, ?_⟩
  · show (mono p 1 1 - mono p a 0).c i = 0
    rw [sub_c, mono_c, mono_c, if_neg (by omega), if_neg (by omega)]; simp
  · show (mono p 1 1 - mono p a 0).c 1 ≠ 0
    rw [sub_c, mono_c, mono_c, if_pos rfl, if_neg (by omega), Int.zero_emod, Int.sub_zero, emm, Int.emod_eq_of_lt (by omega) (by omega)]
    decide
theorem lin_cg (a : Int) : Cg (lin p a) (mono p 1 1) (mono p a 0) := ⟨po_mono _ _, po_mono _ _, Dvd.refl _⟩
theorem const_mul (a b : Int) : mono p a 0 * mono p b 0 = mono p (a * b) 0 := ext fun i => by
  rw [mono_zero_mul, mono_c, mono_c]
  by_cases h : i = 0
  · rw [if_pos h, if_pos h, Int.mul_emod, emm, ← Int.mul_emod]
  · rw [if_neg h, if_neg h]; simp
theorem const_add (a b : Int) : mono p a 0 + mono p b 0 = mono p (a + b) 0 := ext fun i => by
  rw [add_c, mono_c, mono_c, mono_c, Int.emod_add_emod, Int.add_emod_emod]
  by_cases h : i = 0
  · rw [if_pos h, if_pos h, if_pos h]
  · rw [if_neg h, if_neg h, if_neg h]; rfl
theorem const_mod (a : Int) : mono p (a % p) 0 = mono p a 0 := ext fun i => by
  rw [mono_c, mono_c]
  by_cases h : i = 0
  · rw [if_pos h, if_pos h, emm]
  · rw [if_neg h, if_neg h]
theorem const_inj {a b : Int} (ha : 0 ≤ a ∧ a < p) (hb : 0 ≤ b ∧ b < p) (h : mono p a 0 = mono p b 0) : a = b := by
  have := congrArg (fun f => f.c 0) h
  simp only [mono_c, if_pos rfl] at this
  rwa [if_pos trivial, if_pos trivial, Int.emod_eq_of_lt ha.1 ha.2, Int.emod_eq_of_lt hb.1 hb.2] at this
/-- f without its lowest i coefficients. -/
def shf (p : Int) (f : List Int) (i : Nat) : Fx p := of p fun j => co f (i + j)
theorem shf_zero (f : List Int) : shf p f 0 = toF p f := of_ext fun j => by rw [Nat.zero_add]
theorem shf_end (f : List Int) {i : Nat} (h : f.length ≤ i) : shf p f i = 0 := ext fun j => by
  rw [zero_c]
  show co f (i + j) % p = 0
  rw [co_ge (by omega)]; simp
theorem shf_step (f : List Int) (i : Nat) : shf p f i = mono p (co f i) 0 + mono p 1 1 * shf p f (i + 1) := ext fun j => by
  rw [add_c, mono_c, mono_mul, Int.emod_add_emod, Int.add_emod_emod]
  show co f (i + j) % p = _
  cases j with
  | zero => rw [if_pos rfl, if_neg (by omega), Int.add_zero]; rfl
  | succ j =>
    rw [if_neg (by omega), if_pos (by omega), Int.zero_add, Int.one_mul]
    show _ = (co f (i + 1 + (j + 1 - 1)) % p) % p
    rw [emm, show i + 1 + (j + 1 - 1) = i + (j + 1) from by omega]
end Fx
theorem hn_cg {p a : Int} {f : List Int} : ∀ (i : Nat) (v : Int), Fx.Cg (Fx.lin p a) (Fx.shf p f i) (Fx.mono p v 0) → Fx.Cg (Fx.lin p a) (toF p f) (Fx.mono p (hn p a f i v) 0) := by
  intro i
  induction i with
  | zero => intro v h; rwa [Fx.shf_zero] at h
  | succ i ih =>
    intro v h
    refine ih _ ?_
    have h1 := (Fx.Cg.refl (g := Fx.lin p a) (Fx.po_mono (co f i) 0)).add ((Fx.lin_cg a).mul h)
    rw [← Fx.shf_step, Fx.const_mul, Fx.const_add] at h1
    rw [Fx.const_mod, Int.mul_comm v a, Int.add_comm]
    exact h1
theorem val_cg {p a : Int} {f : List Int} : Fx.Cg (Fx.lin p a) (toF p f) (Fx.mono p (hn p a f f.length 0) 0) := by
  refine hn_cg f.length 0 ?_
  rw [Fx.shf_end f (Nat.le_refl _)]
  have : Fx.mono p 0 0 = 0 := Fx.ext fun i => by rw [Fx.mono_c, Fx.zero_c]; split <;> simp
  rw [this]
  exact Fx.Cg.refl ⟨0, Fx.bd_zero 0⟩
theorem hn_rng {p a : Int} (hp : 0 < p) {f : List Int} : ∀ (i : Nat) (v : Int), 0 ≤ v ∧ v < p → 0 ≤ hn p a f i v ∧ hn p a f i v < p := by
  intro i
  induction i with
  | zero => intro v h; exact h
  | succ i ih => intro v h; exact ih _ ⟨Int.emod_nonneg _ (by omega), Int.emod_lt_of_pos _ hp⟩
/-- The value is the one number that leaves the same remainder by x - a. -/
theorem val_uniq {p a : Int} (hp : MoP p) {f : List Int} {v : Int} (hv : 0 ≤ v ∧ v < p) (h : Fx.Cg (Fx.lin p a) (toF p f) (Fx.mono p v 0)) : hn p a f f.length 0 = v := by
  have h1 := (val_cg (p := p) (a := a) (f := f)).symm.trans h
  have h2 := h1.eq hp.2 (Fx.lin_top hp.2 a) (Fx.mono_bd _ 0) (Fx.mono_bd _ 0)
  exact Fx.const_inj (hn_rng hp.1.pos _ _ ⟨Int.le_refl _, hp.1.pos⟩) hv h2
theorem val_mul {p a : Int} (hp : MoP p) {f g h : List Int} (e : toF p h = toF p f * toF p g) : hn p a h h.length 0 = (hn p a f f.length 0 * hn p a g g.length 0) % p := by
  refine val_uniq hp (mod_bd hp.1 _) ?_
  rw [e, Fx.const_mod, ← Fx.const_mul]
  exact val_cg.mul val_cg
/-- A composition's value is the value at the value. -/
theorem cmp_cg {p a y : Int} (hp : MoP p) {f m : List Int} (hf : Val p f) (hy : Fx.Cg (Fx.lin p a) (toF p m) (Fx.mono p y 0)) : ∀ (i : Nat) (V : List Int) (v : Int), Val p V → Fx.Cg (Fx.lin p a) (toF p V) (Fx.mono p v 0) →
    Fx.Cg (Fx.lin p a) (toF p (cmp_ p f m i V)) (Fx.mono p (hn p y f i v) 0) := by
  intro i
  induction i with
  | zero => intro V v _ h; exact h
  | succ i ih =>
    intro V v hV h
    refine ih _ _ (val_padd hp.1.pos _ _) ?_
    have e1 : toF p (trimZ [co f i]) = Fx.mono p (co f i) 0 := Fx.ext fun j => by
      rw [Fx.mono_c]
      show co (trimZ [co f i]) j % p = _
      rw [co_trimZ]
      cases j with
      | zero => rw [co_zero, if_pos rfl]
      | succ j => rw [co_succ, co_nil, if_neg (by omega)]
    have e2 : toF p (padd p (pmul p V m) (trimZ [co f i])) = toF p V * toF p m + Fx.mono p (co f i) 0 := by
      unfold padd
      rw [toF_add, toF_mul, e1]
    rw [e2, Fx.const_mod, ← Fx.const_add, ← Fx.const_mul]
    exact (h.mul hy).add (Fx.Cg.refl (Fx.po_mono _ _))
theorem val_comp {p a : Int} (hp : MoP p) {f m : List Int} (hf : Val p f) : hn p a (cmp_ p f m f.length []) (cmp_ p f m f.length []).length 0 = hn p (hn p a m m.length 0) f f.length 0 := by
  refine val_uniq hp (hn_rng hp.1.pos _ _ ⟨Int.le_refl _, hp.1.pos⟩) (cmp_cg hp hf val_cg f.length [] 0 (val_nil hp.1.pos) ?_)
  rw [toF_nil]
  have : Fx.mono p 0 0 = 0 := Fx.ext fun i => by rw [Fx.mono_c, Fx.zero_c]; split <;> simp
  rw [this]
  exact Fx.Cg.refl ⟨0, Fx.bd_zero 0⟩
/-- The p-th power, by Horner's rule. -/
theorem pw_shf {p : Int} (hp : Prime p) {n : Nat} (hn : (n : Int) = p) {f : List Int} (hf : Val p f) (i : Nat) : CR.pw (Fx.shf p f i) n = CR.pw (Fx.mono p 1 1) n * CR.pw (Fx.shf p f (i + 1)) n + Fx.mono p (co f i) 0 := by
  have h0 := (hf.rng i).1
  have e : Fx.mono p (co f i) 0 = Fx.mono p (((co f i).toNat : Nat) : Int) 0 := by rw [Int.toNat_of_nonneg h0]
  rw [Fx.shf_step, Fx.pw_sum hp hn, CR.pw_mul, CR.add_comm]
  congr 1
  rw [e, Fx.pw_const hp hn]
end Go.Proofs.Ytmknclgamadphaa.MPolymodFrobenius
