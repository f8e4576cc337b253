/- Power series with whole-number coefficients modulo m (polynomials are those with a bound): a commutative ring. No program in sight. -/
import Derived.Test.YtmknclgamadphaaA1PolymodPrimes
import Derived.Test.YtmknclgamadphaaS3PolymodPrimes
namespace Go.Proofs.Ytmknclgamadphaa.MPolymodPrimes
set_option linter.unusedVariables false
set_option linter.unusedSimpArgs false

/-! ### products of series over the whole numbers -/
def conv (F G : Nat → Int) (k : Nat) : Int := sm (k + 1) fun i => F i * G (k - i)
theorem conv_comm (F G : Nat → Int) (k : Nat) : conv F G k = conv G F k := by
  unfold conv
  rw [sm_rev]
  refine sm_ext fun i hi => ?_
  rw [Int.mul_comm]
  congr 1
  · congr 1; omega
theorem conv_add (F G H : Nat → Int) (k : Nat) : conv F (fun i => G i + H i) k = conv F G k + conv F H k := by
  unfold conv
  rw [← sm_add]
  exact sm_ext fun i _ => Int.mul_add ..
theorem conv_mod {m : Int} {F G F' G' : Nat → Int} (hF : ∀ i, F i % m = F' i % m) (hG : ∀ i, G i % m = G' i % m) (k : Nat) : conv F G k % m = conv F' G' k % m := by
  unfold conv
  refine sm_mod fun i _ => ?_
  rw [Int.mul_emod, hF i, hG (k - i), ← Int.mul_emod]
theorem sm_shift (j n : Nat) (B : Nat → Int) (h : j ≤ n) : sm n (fun i => if j ≤ i then B (i - j) else 0) = sm (n - j) B := by
  induction n with
  | zero => have : j = 0 := by omega
            subst this; rfl
  | succ n ih =>
    by_cases e : j = n + 1
    · subst e
      rw [Nat.sub_self, sm_zero]
      · rfl
      · intro i hi; rw [if_neg (by omega)]
    · rw [sm, ih (by omega), if_pos (by omega), show n + 1 - j = (n - j) + 1 from by omega]; rfl
theorem conv_assoc (F G H : Nat → Int) (k : Nat) : conv (conv F G) H k = conv F (conv G H) k := by
  have h1 : conv (conv F G) H k = sm (k + 1) fun i => sm (k + 1) fun j => if j ≤ i then F j * (G (i - j) * H (k - (i - j) - j)) else 0 := by
    refine sm_ext fun i hi => ?_
    rw [sm_more (n := i + 1) (m := k + 1) (F := fun j => if j ≤ i then F j * (G (i - j) * H (k - (i - j) - j)) else 0) (by omega) (fun j h1 h2 => if_neg (by omega))]
    show sm (i + 1) (fun j => F j * G (i - j)) * H (k - i) = _
    rw [← sm_mul']
    refine sm_ext fun j hj => ?_
    rw [if_pos (by omega), Int.mul_assoc, show k - (i - j) - j = k - i from by omega]
  rw [h1, sm_swap]
  unfold conv
  refine sm_ext fun j hj => ?_
  rw [sm_shift j (k + 1) (fun l => F j * (G l * H (k - l - j))) (by omega), ← sm_mul]
  rw [show k + 1 - j = k - j + 1 from by omega]
  refine sm_ext fun l hl => ?_
  rw [show k - l - j = k - j - l from by omega]
theorem conv_one (F : Nat → Int) (k : Nat) : conv F (fun i => if i = 0 then 1 else 0) k = F k := by
  unfold conv
  rw [sm_one (k := k) (by omega) (fun i hi hne => by show F i * (if k - i = 0 then 1 else 0) = 0; rw [if_neg (by omega), Int.mul_zero])]
  show F k * (if k - k = 0 then 1 else 0) = F k
  rw [Nat.sub_self, if_pos rfl, Int.mul_one]

/-! ### modulo m -/
structure Fx (m : Int) where
  c : Nat → Int
  ok : ∀ i, c i % m = c i
namespace Fx
variable {m : Int}
theorem ext {f g : Fx m} (h : ∀ i, f.c i = g.c i) : f = g := by
  cases f; cases g
  congr 1
  exact funext h
def of (m : Int) (F : Nat → Int) : Fx m := ⟨fun i => F i % m, fun i => Int.emod_emod_of_dvd _ (Int.dvd_refl m)⟩
theorem of_c (F : Nat → Int) (i : Nat) : (of m F).c i = F i % m := rfl
theorem of_ext {F G : Nat → Int} (h : ∀ i, F i % m = G i % m) : of m F = of m G := ext h
theorem of_self (f : Fx m) : of m f.c = f := ext f.ok
theorem emm (a : Int) : a % m % m = a % m := Int.emod_emod_of_dvd _ (Int.dvd_refl m)
instance : CR (Fx m) where
  add f g := of m fun i => f.c i + g.c i
  mul f g := of m (conv f.c g.c)
  neg f := of m fun i => -f.c i
  zero := of m fun _ => 0
  one := of m fun i => if i = 0 then 1 else 0
  add_assoc a b c := ext fun i => by
    show ((a.c i + b.c i) % m + c.c i) % m = (a.c i + (b.c i + c.c i) % m) % m
    rw [Int.emod_add_emod, Int.add_emod_emod, Int.add_assoc]
  add_comm a b := ext fun i => by
    show (a.c i + b.c i) % m = (b.c i + a.c i) % m
    rw [Int.add_comm]
  add_zero a := ext fun i => by
    show (a.c i + 0 % m) % m = a.c i
    rw [Int.add_emod_emod, Int.add_zero, a.ok]
  add_neg a := ext fun i => by
    show (a.c i + -a.c i % m) % m = 0 % m
    rw [Int.add_emod_emod, Int.add_right_neg]
  mul_assoc a b c := ext fun k => by
    show conv (of m (conv a.c b.c)).c c.c k % m = conv a.c (of m (conv b.c c.c)).c k % m
    exact (conv_mod (F' := conv a.c b.c) (G' := c.c) (fun i => emm _) (fun i => rfl) k).trans (Eq.trans (by rw [conv_assoc]) (conv_mod (F := a.c) (F' := a.c) (G := (of m (conv b.c c.c)).c) (G' := conv b.c c.c) (fun i => rfl) (fun i => emm _) k).symm)
  mul_comm a b := ext fun k => by
    show conv a.c b.c k % m = conv b.c a.c k % m
    rw [conv_comm]
  mul_one a := ext fun k => by
    show conv a.c (of m fun i => if i = 0 then 1 else 0).c k % m = a.c k
    exact (conv_mod (F' := a.c) (G' := fun i => if i = 0 then 1 else 0) (fun i => rfl) (fun i => emm _) k).trans (by rw [conv_one, a.ok])
  mul_add a b c := ext fun k => by
    show conv a.c (of m fun i => b.c i + c.c i).c k % m = (conv a.c b.c k % m + conv a.c c.c k % m) % m
    exact (conv_mod (F' := a.c) (G' := fun i => b.c i + c.c i) (fun i => rfl) (fun i => emm _) k).trans (by rw [conv_add, Int.add_emod_emod, Int.emod_add_emod])
theorem add_c (f g : Fx m) (i : Nat) : (f + g).c i = (f.c i + g.c i) % m := rfl
theorem neg_c (f : Fx m) (i : Nat) : (-f).c i = (-f.c i) % m := rfl
theorem mul_c (f g : Fx m) (k : Nat) : (f * g).c k = conv f.c g.c k % m := rfl
theorem zero_c (i : Nat) : (0 : Fx m).c i = 0 := by show (0 : Int) % m = 0; exact Int.zero_emod m
theorem one_c (i : Nat) : (1 : Fx m).c i = (if i = 0 then 1 else 0) % m := rfl
theorem sub_c (f g : Fx m) (i : Nat) : (f - g).c i = (f.c i - g.c i) % m := by
  show (f.c i + -g.c i % m) % m = _
  rw [Int.add_emod_emod]; rfl

/-! ### bounds of the degree -/
/-- All coefficients from place n on are 0. -/
def bd (f : Fx m) (n : Nat) : Prop := ∀ i, n ≤ i → f.c i = 0
theorem bd.mono {f : Fx m} {n k : Nat} (h : f.bd n) (hk : n ≤ k) : f.bd k := fun i hi => h i (by omega)
theorem bd_zero (n : Nat) : (0 : Fx m).bd n := fun i _ => zero_c i
theorem bd_0 {f : Fx m} (h : f.bd 0) : f = 0 := ext fun i => by rw [zero_c]; exact h i (Nat.zero_le _)
theorem bd.add {f g : Fx m} {n : Nat} (hf : f.bd n) (hg : g.bd n) : (f + g).bd n := fun i hi => by rw [add_c, hf i hi, hg i hi]; simp
theorem bd.neg {f : Fx m} {n : Nat} (hf : f.bd n) : (-f).bd n := fun i hi => by rw [neg_c, hf i hi]; simp
theorem bd.sub {f g : Fx m} {n : Nat} (hf : f.bd n) (hg : g.bd n) : (f - g).bd n := hf.add hg.neg
/-- The highest coefficient of a product, and none beyond it. -/
theorem conv_top {F G : Nat → Int} {a b : Nat} (hF : ∀ i, a < i → F i = 0) (hG : ∀ i, b < i → G i = 0) : conv F G (a + b) = F a * G b := by
  unfold conv
  rw [sm_one (k := a) (by omega) (fun i hi hne => ?_), show a + b - a = b from by omega]
  by_cases h : a < i
  · rw [hF i h, Int.zero_mul]
  · rw [hG (a + b - i) (by omega), Int.mul_zero]
theorem conv_beyond {F G : Nat → Int} {a b k : Nat} (hF : ∀ i, a < i → F i = 0) (hG : ∀ i, b < i → G i = 0) (hk : a + b < k) : conv F G k = 0 := by
  unfold conv
  refine sm_zero fun i hi => ?_
  by_cases h : a < i
  · rw [hF i h, Int.zero_mul]
  · rw [hG (k - i) (by omega), Int.mul_zero]
theorem bd.mul {f g : Fx m} {a b : Nat} (hf : f.bd (a + 1)) (hg : g.bd (b + 1)) : (f * g).bd (a + b + 1) := fun k hk => by
  rw [mul_c, conv_beyond (fun i hi => hf i hi) (fun i hi => hg i hi) (by omega)]; simp
theorem mul_top {f g : Fx m} {a b : Nat} (hf : f.bd (a + 1)) (hg : g.bd (b + 1)) : (f * g).c (a + b) = (f.c a * g.c b) % m := by
  rw [mul_c, conv_top (fun i hi => hf i hi) (fun i hi => hg i hi)]
/-- The series c x^k. -/
def mono (m : Int) (a : Int) (k : Nat) : Fx m := of m fun i => if i = k then a else 0
theorem mono_c (a : Int) (k i : Nat) : (mono m a k).c i = (if i = k then a else 0) % m := rfl
theorem mono_bd (a : Int) (k : Nat) : (mono m a k).bd (k + 1) := fun i hi => by rw [mono_c, if_neg (by omega)]; simp
theorem mono_mul (a : Int) (k : Nat) (g : Fx m) (i : Nat) : (mono m a k * g).c i = (if k ≤ i then a * g.c (i - k) else 0) % m := by
  rw [mul_c]
  refine (conv_mod (F' := fun i => if i = k then a else 0) (G' := g.c) (fun i => emm _) (fun i => rfl) i).trans ?_
  congr 1
  unfold conv
  by_cases h : k ≤ i
  · rw [if_pos h, sm_one (k := k) (by omega) (fun j hj hne => by show (if j = k then a else 0) * g.c (i - j) = 0; rw [if_neg hne, Int.zero_mul])]
    show (if k = k then a else 0) * g.c (i - k) = a * g.c (i - k)
    rw [if_pos rfl]
  · rw [if_neg h]
    exact sm_zero fun j hj => by show (if j = k then a else 0) * g.c (i - j) = 0; rw [if_neg (by omega), Int.zero_mul]
theorem mono_zero_mul (a : Int) (g : Fx m) (i : Nat) : (mono m a 0 * g).c i = (a * g.c i) % m := by rw [mono_mul, if_pos (Nat.zero_le _)]; rfl
theorem one_mono : (1 : Fx m) = mono m 1 0 := rfl
theorem bd_one : (1 : Fx m).bd 1 := mono_bd 1 0
/-- What divides what, by a polynomial. -/
def Dvd (g f : Fx m) : Prop := ∃ (q : Fx m) (n : Nat), q.bd n ∧ f = q * g
end Fx

/-! ### lists -/
/-- The polynomial of a list. -/
def toF (m : Int) (l : List Int) : Fx m := Fx.of m (co l)
theorem toF_c {m : Int} {l : List Int} (h : Val m l) (i : Nat) : (toF m l).c i = co l i := h.mod i
theorem toF_bd (m : Int) (l : List Int) : (toF m l).bd l.length := fun i hi => by
  show co l i % m = 0
  rw [co_ge hi]; simp
theorem toF_inj {m : Int} {l k : List Int} (hl : Val m l) (hk : Val m k) (h : toF m l = toF m k) : l = k :=
  hl.ext hk fun i => by rw [← toF_c hl i, ← toF_c hk i, h]
theorem toF_nil (m : Int) : toF m [] = 0 := Fx.ext fun i => by
  show co [] i % m = _
  rw [co_nil, Fx.zero_c]; simp
theorem toF_eq_zero {m : Int} (hm : 0 < m) {l : List Int} (hl : Val m l) (h : toF m l = 0) : l = [] := toF_inj hl (val_nil hm) (by rw [h, toF_nil])
/-- Of a list of values F i % m, if F is 0 from n on. -/
theorem toF_ofF {m : Int} {n : Nat} {F : Nat → Int} (h : ∀ i, n ≤ i → F i % m = 0) : toF m (ofF n fun i => F i % m) = Fx.of m F := Fx.ext fun i => by
  show co (ofF n fun i => F i % m) i % m = F i % m
  rw [co_ofF]
  by_cases hi : i < n
  · rw [if_pos hi, Fx.emm]
  · rw [if_neg hi, h i (by omega)]; simp
theorem toF_add {m : Int} {f g : List Int} : toF m (ofF (max f.length g.length) fun j => (co f j + co g j) % m) = toF m f + toF m g := by
  rw [toF_ofF (fun i hi => by rw [co_ge (by omega), co_ge (by omega)]; simp)]
  exact Fx.ext fun i => by
    show (co f i + co g i) % m = (co f i % m + co g i % m) % m
    rw [Int.add_emod_emod, Int.emod_add_emod]
theorem toF_sub {m : Int} {f g : List Int} : toF m (ofF (max f.length g.length) fun j => (co f j + m - co g j) % m) = toF m f - toF m g := by
  rw [toF_ofF (fun i hi => by rw [co_ge (by omega), co_ge (by omega)]; simp)]
  exact Fx.ext fun i => by
    rw [Fx.sub_c]
    show (co f i + m - co g i) % m = (co f i % m - co g i % m) % m
    rw [← Int.sub_emod, show co f i + m - co g i = co f i - co g i + m from by omega, Int.add_emod_right]
theorem toF_scale {m c : Int} {f : List Int} : toF m (ofF f.length fun j => (co f j * c) % m) = Fx.mono m c 0 * toF m f := by
  rw [toF_ofF (fun i hi => by rw [co_ge hi]; simp)]
  exact Fx.ext fun i => by
    rw [Fx.mono_zero_mul]
    show (co f i * c) % m = (c * (co f i % m)) % m
    rw [Int.mul_comm c, Int.mul_emod (co f i % m), Fx.emm, ← Int.mul_emod]
theorem rows_conv {f g : List Int} (k : Nat) : rows_ f g f.length k = conv (co f) (co g) k := by
  unfold rows_ conv
  have e1 : sm f.length (fun a => if a ≤ k then co f a * co g (k - a) else 0) = sm (max f.length (k + 1)) fun a => if a ≤ k then co f a * co g (k - a) else 0 :=
    (sm_more (by omega) (fun i h1 h2 => by rw [co_ge h1]; simp)).symm
  have e2 : sm (k + 1) (fun i => co f i * co g (k - i)) = sm (k + 1) fun a => if a ≤ k then co f a * co g (k - a) else 0 := sm_ext fun i hi => by rw [if_pos (by omega)]
  rw [e1, e2]
  exact sm_more (by omega) (fun i h1 h2 => by rw [if_neg (by omega)])
theorem toF_mul {m : Int} {f g : List Int} : toF m (pmul m f g) = toF m f * toF m g := by
  have hz : ∀ k, f.length = 0 ∨ g.length = 0 → conv (co f) (co g) k = 0 := fun k h => sm_zero fun i hi => by
    rcases h with h | h
    · rw [co_ge (l := f) (by omega), Int.zero_mul]
    · rw [co_ge (l := g) (by omega), Int.mul_zero]
  have hm : ∀ k, (toF m f * toF m g).c k = conv (co f) (co g) k % m := fun k => by
    rw [Fx.mul_c]
    exact conv_mod (fun i => Fx.emm _) (fun i => Fx.emm _) k
  unfold pmul
  by_cases h : f.length = 0 ∨ g.length = 0
  · rw [if_pos h, toF_nil]
    exact Fx.ext fun i => by rw [hm, hz i h, Fx.zero_c]; simp
  · rw [if_neg h, toF_ofF (fun i hi => ?_)]
    · exact Fx.ext fun i => by rw [hm]; show rows_ f g f.length i % m = _; rw [rows_conv]
    · rw [rows_conv, Fx.conv_beyond (a := f.length - 1) (b := g.length - 1) (fun i hi => co_ge (by omega)) (fun i hi => co_ge (by omega)) (by omega)]; simp
theorem val_pmul {m : Int} (hm : 0 < m) (f g : List Int) : Val m (pmul m f g) := by
  unfold pmul
  split
  · exact val_nil hm
  · exact val_ofF hm _ _
theorem pmul_len (m : Int) (f g : List Int) : (pmul m f g).length ≤ f.length + g.length - 1 := by
  unfold pmul
  split
  · exact Nat.zero_le _
  · exact ofF_len _ _
end Go.Proofs.Ytmknclgamadphaa.MPolymodPrimes
