/- The lemmas of Gauss and of Eisenstein. No program in sight. -/
import Derived.Test.YtpendgpnikmohaaGreatXRT
set_option linter.unusedVariables false
set_option linter.unusedSimpArgs false
set_option linter.unusedSectionVars false
namespace Go.AM
/-- sums and products from 1 to n -/
def sumT (f : Nat → Nat) : Nat → Nat
  | 0 => 0
  | n + 1 => sumT f n + f (n + 1)
def prodT (f : Nat → Nat) : Nat → Nat
  | 0 => 1
  | n + 1 => prodT f n * f (n + 1)
theorem sumT_congr {f g : Nat → Nat} : ∀ {n : Nat}, (∀ k, 1 ≤ k → k ≤ n → f k = g k) → sumT f n = sumT g n
  | 0, _ => rfl
  | n + 1, h => by simp only [sumT]; rw [sumT_congr fun k a b => h k a (by omega), h (n + 1) (by omega) (Nat.le_refl _)]
theorem prodT_congr {f g : Nat → Nat} : ∀ {n : Nat}, (∀ k, 1 ≤ k → k ≤ n → f k = g k) → prodT f n = prodT g n
  | 0, _ => rfl
  | n + 1, h => by simp only [prodT]; rw [prodT_congr fun k a b => h k a (by omega), h (n + 1) (by omega) (Nat.le_refl _)]
theorem sumT_add (f g : Nat → Nat) : ∀ n, sumT (fun k => f k + g k) n = sumT f n + sumT g n
  | 0 => rfl
  | n + 1 => by simp only [sumT, sumT_add f g n]; omega
theorem sumT_mul (c : Nat) (f : Nat → Nat) : ∀ n, sumT (fun k => c * f k) n = c * sumT f n
  | 0 => rfl
  | n + 1 => by simp only [sumT, sumT_mul c f n, Nat.mul_add]
theorem prodT_mul (f g : Nat → Nat) : ∀ n, prodT (fun k => f k * g k) n = prodT f n * prodT g n
  | 0 => rfl
  | n + 1 => by
    simp only [prodT, prodT_mul f g n]
    rw [Nat.mul_assoc, Nat.mul_assoc, Nat.mul_left_comm (prodT g n)]
theorem prodT_const (c : Nat) : ∀ n, prodT (fun _ => c) n = c ^ n
  | 0 => rfl
  | n + 1 => by simp only [prodT, prodT_const c n, Nat.pow_succ]
theorem prodT_mod (p : Nat) (f : Nat → Nat) : ∀ n, prodT (fun k => f k % p) n % p = prodT f n % p
  | 0 => rfl
  | n + 1 => by simp only [prodT]; rw [Nat.mul_mod, prodT_mod p f n, Nat.mod_mod, ← Nat.mul_mod]
/-- how often j is taken among the first n -/
def cntT (s : Nat → Nat) (j : Nat) : Nat → Nat
  | 0 => 0
  | n + 1 => cntT s j n + (if s (n + 1) = j then 1 else 0)
theorem sumT_one (t : Nat) (f : Nat → Nat) : ∀ m, sumT (fun j => if t = j then f j else 0) m = if 1 ≤ t ∧ t ≤ m then f t else 0
  | 0 => by rw [if_neg (by omega)]; rfl
  | m + 1 => by
    simp only [sumT, sumT_one t f m]
    by_cases h : t = m + 1
    · subst h; rw [if_neg (by omega), if_pos rfl, if_pos (by omega), Nat.zero_add]
    · rw [if_neg h, Nat.add_zero]
      by_cases h2 : 1 ≤ t ∧ t ≤ m
      · rw [if_pos h2, if_pos (by omega)]
      · rw [if_neg h2, if_neg (by omega)]
theorem prodT_one (t : Nat) (f : Nat → Nat) : ∀ m, prodT (fun j => f j ^ (if t = j then 1 else 0)) m = if 1 ≤ t ∧ t ≤ m then f t else 1
  | 0 => by rw [if_neg (by omega)]; rfl
  | m + 1 => by
    simp only [prodT, prodT_one t f m]
    by_cases h : t = m + 1
    · subst h; rw [if_neg (by omega), if_pos rfl, if_pos (by omega), Nat.pow_one, Nat.one_mul]
    · rw [if_neg h, Nat.pow_zero, Nat.mul_one]
      by_cases h2 : 1 ≤ t ∧ t ≤ m
      · rw [if_pos h2, if_pos (by omega)]
      · rw [if_neg h2, if_neg (by omega)]
theorem sum_cnt (s : Nat → Nat) (f : Nat → Nat) (m : Nat) : ∀ n, (∀ k, 1 ≤ k → k ≤ n → 1 ≤ s k ∧ s k ≤ m) → sumT (fun k => f (s k)) n = sumT (fun j => cntT s j n * f j) m
  | 0, _ => by
    have : ∀ m, sumT (fun j => cntT s j 0 * f j) m = 0 := fun m => by
      induction m with
      | zero => rfl
      | succ m ih => simp only [sumT]; rw [ih]; simp [cntT]
    rw [this]; rfl
  | n + 1, h => by
    simp only [sumT]
    rw [sum_cnt s f m n fun k a b => h k a (by omega)]
    have e : sumT (fun j => cntT s j (n + 1) * f j) m = sumT (fun j => cntT s j n * f j + (if s (n + 1) = j then f j else 0)) m := sumT_congr fun j a b => by
      simp only [cntT, Nat.add_mul]
      by_cases hj : s (n + 1) = j
      · rw [if_pos hj, if_pos hj, Nat.one_mul]
      · rw [if_neg hj, if_neg hj, Nat.zero_mul]
    rw [e, sumT_add, sumT_one, if_pos (h (n + 1) (by omega) (Nat.le_refl _))]
theorem prod_cnt (s : Nat → Nat) (f : Nat → Nat) (m : Nat) : ∀ n, (∀ k, 1 ≤ k → k ≤ n → 1 ≤ s k ∧ s k ≤ m) → prodT (fun k => f (s k)) n = prodT (fun j => f j ^ cntT s j n) m
  | 0, _ => by
    have : ∀ m, prodT (fun j => f j ^ cntT s j 0) m = 1 := fun m => by
      induction m with
      | zero => rfl
      | succ m ih => simp only [prodT]; rw [ih]; simp [cntT]
    rw [this]; rfl
  | n + 1, h => by
    simp only [prodT]
    rw [prod_cnt s f m n fun k a b => h k a (by omega)]
    have e : prodT (fun j => f j ^ cntT s j (n + 1)) m = prodT (fun j => f j ^ cntT s j n * f j ^ (if s (n + 1) = j then 1 else 0)) m := prodT_congr fun j a b => by
      simp only [cntT, Nat.pow_add]
    rw [e, prodT_mul, prodT_one, if_pos (h (n + 1) (by omega) (Nat.le_refl _))]
theorem cnt_zero (s : Nat → Nat) (j : Nat) : ∀ n, (∀ k, 1 ≤ k → k ≤ n → s k ≠ j) → cntT s j n = 0
  | 0, _ => rfl
  | n + 1, h => by simp only [cntT]; rw [cnt_zero s j n fun k a b => h k a (by omega), if_neg (h (n + 1) (by omega) (Nat.le_refl _))]
theorem cnt_le (s : Nat → Nat) (j : Nat) : ∀ n, (∀ k l, 1 ≤ k → k ≤ n → 1 ≤ l → l ≤ n → s k = s l → k = l) → cntT s j n ≤ 1
  | 0, _ => Nat.zero_le _
  | n + 1, h => by
    simp only [cntT]
    by_cases hj : s (n + 1) = j
    · rw [if_pos hj, cnt_zero s j n fun k a b e => by have := h k (n + 1) a (by omega) (by omega) (Nat.le_refl _) (by rw [e, hj]); omega]
      exact Nat.le_refl _
    · rw [if_neg hj]
      exact cnt_le s j n fun k l a b c d e => h k l a (by omega) c (by omega) e
theorem all_one (c : Nat → Nat) : ∀ m, (∀ j, 1 ≤ j → j ≤ m → c j ≤ 1) → m ≤ sumT c m → ∀ j, 1 ≤ j → j ≤ m → c j = 1
  | 0, _, _, j, a, b => by omega
  | m + 1, h, hs, j, a, b => by
    simp only [sumT] at hs
    have hb : ∀ m, (∀ j, 1 ≤ j → j ≤ m → c j ≤ 1) → sumT c m ≤ m := fun m => by
      induction m with
      | zero => intro _; exact Nat.le_refl _
      | succ m ih =>
        intro h
        have := ih fun j a b => h j a (by omega)
        have := h (m + 1) (by omega) (Nat.le_refl _)
        simp only [sumT]; omega
    have h1 := h (m + 1) (by omega) (Nat.le_refl _)
    have h2 := hb m fun j a b => h j a (by omega)
    by_cases hj : j = m + 1
    · subst hj; omega
    · exact all_one c m (fun j a b => h j a (by omega)) (by omega) j a (by omega)
/-- an injection of 1 .. m into itself -/
theorem cnt_one {s : Nat → Nat} {m : Nat} (hr : ∀ k, 1 ≤ k → k ≤ m → 1 ≤ s k ∧ s k ≤ m) (hi : ∀ k l, 1 ≤ k → k ≤ m → 1 ≤ l → l ≤ m → s k = s l → k = l) : ∀ j, 1 ≤ j → j ≤ m → cntT s j m = 1 := by
  refine all_one _ m (fun j _ _ => cnt_le s j m hi) ?_
  have h := sum_cnt s (fun _ => 1) m m hr
  have e : ∀ n, sumT (fun _ => 1) n = n := fun n => by
    induction n with
    | zero => rfl
    | succ n ih => simp only [sumT, ih]
  have e2 : sumT (fun j => cntT s j m * 1) m = sumT (fun j => cntT s j m) m := sumT_congr fun j _ _ => Nat.mul_one _
  rw [e2] at h
  have h3 : sumT (fun k => (fun _ => 1) (s k)) m = m := e m
  rw [h3] at h
  omega
theorem perm_sum {s : Nat → Nat} {m : Nat} (hr : ∀ k, 1 ≤ k → k ≤ m → 1 ≤ s k ∧ s k ≤ m) (hi : ∀ k l, 1 ≤ k → k ≤ m → 1 ≤ l → l ≤ m → s k = s l → k = l) : sumT s m = sumT (fun k => k) m := by
  have h := sum_cnt s (fun j => j) m m hr
  rw [show sumT s m = sumT (fun k => (fun j => j) (s k)) m from rfl, h]
  exact sumT_congr fun j a b => by rw [cnt_one hr hi j a b, Nat.one_mul]
theorem perm_prod {s : Nat → Nat} {m : Nat} (hr : ∀ k, 1 ≤ k → k ≤ m → 1 ≤ s k ∧ s k ≤ m) (hi : ∀ k l, 1 ≤ k → k ≤ m → 1 ≤ l → l ≤ m → s k = s l → k = l) : prodT s m = prodT (fun k => k) m := by
  have h := prod_cnt s (fun j => j) m m hr
  rw [show prodT s m = prodT (fun k => (fun j => j) (s k)) m from rfl, h]
  exact prodT_congr fun j a b => by rw [cnt_one hr hi j a b, Nat.pow_one]
/- primes -/
theorem coprime_of {p a : Nat} (hp : PrimeN p) (h : ¬ p ∣ a) : Nat.Coprime p a := by
  have h1 := Nat.gcd_dvd_left p a
  have h2 := Nat.gcd_dvd_right p a
  show Nat.gcd p a = 1
  generalize Nat.gcd p a = d at h1 h2
  have hd := Nat.le_of_dvd (by have := hp.1; omega) h1
  rcases Nat.lt_or_ge d 2 with h3 | h3
  · rcases Nat.eq_zero_or_pos d with h0 | h0
    · subst h0
      have := Nat.eq_zero_of_zero_dvd h1
      have := hp.1; omega
    · omega
  · rcases Nat.lt_or_ge d p with h4 | h4
    · exact absurd h1 (hp.2 d h3 h4)
    · have : d = p := by omega
      subst this; exact absurd h2 h
theorem euclid {p a b : Nat} (hp : PrimeN p) (h : p ∣ a * b) (ha : ¬ p ∣ a) : p ∣ b := (coprime_of hp ha).dvd_of_dvd_mul_left h
theorem fact_no {p : Nat} (hp : PrimeN p) : ∀ n, n < p → ¬ p ∣ prodT (fun k => k) n
  | 0, _, h => by
    have := Nat.le_of_dvd (by decide) h
    have h2 : prodT (fun k => k) 0 = 1 := rfl
    rw [h2] at this
    have := hp.1; omega
  | n + 1, hn, h => by
    have h' : p ∣ prodT (fun k => k) n * (n + 1) := h
    have := euclid hp h' (fact_no hp n (by omega))
    have := Nat.le_of_dvd (by omega) this
    omega
/-- cancel modulo a prime -/
theorem cancel {p c x y : Nat} (hp : PrimeN p) (hc : ¬ p ∣ c) (h : x * c % p = y * c % p) (hx : x < p) (hy : y < p) : x = y := by
  have go : ∀ x y, x < p → y < p → x ≤ y → x * c % p = y * c % p → x = y := fun x y hx hy hle h => by
    have h1 : p ∣ (y - x) * c := by
      rw [Nat.sub_mul]
      exact (Nat.dvd_of_mod_eq_zero (Nat.sub_mod_eq_zero_of_mod_eq h.symm))
    rw [Nat.mul_comm] at h1
    have h2 := euclid hp h1 hc
    rcases Nat.eq_zero_or_pos (y - x) with h0 | h0
    · omega
    · have := Nat.le_of_dvd h0 h2; omega
  rcases Nat.le_total x y with h1 | h1
  · exact go x y hx hy h1 h
  · exact (go y x hy hx h1 h.symm).symm
/- Gauss -/
def rG (a p k : Nat) : Nat := k * a % p
def fG (a p k : Nat) : Nat := if 2 * rG a p k > p then 1 else 0
def sG (a p k : Nat) : Nat := if 2 * rG a p k > p then p - rG a p k else rG a p k
/-- Gauss's number -/
def muG (a p : Nat) : Nat := sumT (fG a p) ((p - 1) / 2)
section
variable {a p : Nat} (hp : PrimeN p) (h3 : 3 ≤ p) (ha : ¬ p ∣ a)
include hp h3 ha
theorem odd_p : p % 2 = 1 := by
  rcases Nat.mod_two_eq_zero_or_one p with h | h
  · exact absurd (Nat.dvd_of_mod_eq_zero h) (hp.2 2 (Nat.le_refl _) (by omega))
  · exact h
theorem r_pos {k : Nat} (h1 : 1 ≤ k) (h2 : k < p) : 1 ≤ rG a p k ∧ rG a p k < p := by
  refine ⟨?_, Nat.mod_lt _ (by omega)⟩
  rcases Nat.eq_zero_or_pos (rG a p k) with h0 | h0
  · have hd : p ∣ k * a := Nat.dvd_of_mod_eq_zero h0
    have := euclid hp (by rw [Nat.mul_comm] at hd; exact hd) ha
    have := Nat.le_of_dvd (by omega) this
    omega
  · exact h0
theorem s_range (k : Nat) (h1 : 1 ≤ k) (h2 : k ≤ (p - 1) / 2) : 1 ≤ sG a p k ∧ sG a p k ≤ (p - 1) / 2 := by
  have ho := odd_p hp h3 ha
  obtain ⟨r1, r2⟩ := r_pos hp h3 ha h1 (show k < p by omega)
  unfold sG
  split <;> omega
theorem s_inj (k l : Nat) (k1 : 1 ≤ k) (k2 : k ≤ (p - 1) / 2) (l1 : 1 ≤ l) (l2 : l ≤ (p - 1) / 2) (h : sG a p k = sG a p l) : k = l := by
  obtain ⟨r1, r2⟩ := r_pos hp h3 ha k1 (show k < p by omega)
  obtain ⟨t1, t2⟩ := r_pos hp h3 ha l1 (show l < p by omega)
  have ho := odd_p hp h3 ha
  have hr : rG a p k = rG a p l ∨ rG a p k + rG a p l = p := by
    unfold sG at h
    split at h <;> split at h <;> omega
  rcases hr with hr | hr
  · exact cancel hp ha hr (by omega) (by omega)
  · have hd : p ∣ (k + l) * a := by
      refine Nat.dvd_of_mod_eq_zero ?_
      rw [Nat.add_mul, Nat.add_mod]
      show (rG a p k + rG a p l) % p = 0
      rw [hr, Nat.mod_self]
    rw [Nat.mul_comm] at hd
    have := Nat.le_of_dvd (by omega) (euclid hp hd ha)
    omega
theorem r_eps (k : Nat) (h1 : 1 ≤ k) (h2 : k ≤ (p - 1) / 2) : ((p - 1) ^ fG a p k * sG a p k) % p = k * a % p := by
  obtain ⟨r1, r2⟩ := r_pos hp h3 ha h1 (show k < p by omega)
  show _ = rG a p k
  unfold fG sG
  split
  · rw [Nat.pow_one]
    generalize rG a p k = r at r1 r2
    have e : (p - 1) * (p - r) = r + p * (p - r - 1) := by
      obtain ⟨q, rfl⟩ : ∃ q, p = r + q + 1 := ⟨p - r - 1, by omega⟩
      rw [show r + q + 1 - r - 1 = q by omega, show r + q + 1 - r = q + 1 by omega, show r + q + 1 - 1 = r + q by omega]
      simp only [Nat.add_mul, Nat.mul_add]; omega
    rw [e, Nat.add_mul_mod_self_left, Nat.mod_eq_of_lt r2]
  · rw [Nat.pow_zero, Nat.one_mul, Nat.mod_eq_of_lt r2]
theorem prod_pow (c : Nat) (f : Nat → Nat) : ∀ n, prodT (fun k => c ^ f k) n = c ^ sumT f n
  | 0 => rfl
  | n + 1 => by simp only [prodT, sumT, prod_pow c f n, Nat.pow_add]
theorem gauss : a ^ ((p - 1) / 2) % p = (p - 1) ^ muG a p % p := by
  have hm := fact_no hp ((p - 1) / 2) (by omega)
  refine cancel hp hm ?_ (Nat.mod_lt _ (by omega)) (Nat.mod_lt _ (by omega))
  have h1 : prodT (fun k => k * a % p) ((p - 1) / 2) % p = (a ^ ((p - 1) / 2) * prodT (fun k => k) ((p - 1) / 2)) % p := by
    rw [prodT_mod p (fun k => k * a), prodT_mul (fun k => k) (fun _ => a), prodT_const, Nat.mul_comm]
  have h2 : prodT (fun k => ((p - 1) ^ fG a p k * sG a p k) % p) ((p - 1) / 2) = prodT (fun k => k * a % p) ((p - 1) / 2) := prodT_congr fun k x y => r_eps hp h3 ha k x y
  rw [← h2, prodT_mod p (fun k => (p - 1) ^ fG a p k * sG a p k), prodT_mul, prod_pow hp h3 ha, show prodT (fun k => sG a p k) ((p - 1) / 2) = prodT (sG a p) ((p - 1) / 2) from rfl,
    perm_prod (s_range hp h3 ha) (s_inj hp h3 ha)] at h1
  rw [Nat.mod_mul_mod, Nat.mod_mul_mod]
  exact h1.symm
theorem gauss_iff : eN a p = true ↔ muG a p % 2 = 0 := by
  rw [eN_iff, gauss hp h3 ha]
  generalize muG a p = u
  rcases Nat.mod_two_eq_zero_or_one u with h | h
  · have := (minus_pow h3 (u / 2)).1
    rw [show 2 * (u / 2) = u by omega] at this
    exact ⟨fun _ => h, fun _ => this⟩
  · have := (minus_pow h3 (u / 2)).2
    rw [show 2 * (u / 2) + 1 = u by omega] at this
    rw [this]
    constructor <;> intro <;> omega
/-- Eisenstein -/
theorem eisen (hodd : a % 2 = 1) : sumT (fun k => k * a / p) ((p - 1) / 2) % 2 = muG a p % 2 := by
  have ho := odd_p hp h3 ha
  have h1 : sumT (fun k => k * a) ((p - 1) / 2) = p * sumT (fun k => k * a / p) ((p - 1) / 2) + sumT (rG a p) ((p - 1) / 2) := by
    rw [← sumT_mul, ← sumT_add]
    exact sumT_congr fun k _ _ => (Nat.div_add_mod (k * a) p).symm
  have h2 : sumT (fun k => k * a) ((p - 1) / 2) = a * sumT (fun k => k) ((p - 1) / 2) := by
    rw [← sumT_mul]; exact sumT_congr fun k _ _ => Nat.mul_comm _ _
  have h4 : ∀ n, n ≤ (p - 1) / 2 → (sumT (rG a p) n + sumT (sG a p) n) % 2 = sumT (fG a p) n % 2 := fun n => by
    induction n with
    | zero => intro _; rfl
    | succ n ih =>
      intro hn
      have ih := ih (by omega)
      obtain ⟨r1, r2⟩ := r_pos hp h3 ha (show 1 ≤ n + 1 by omega) (show n + 1 < p by omega)
      have e : (rG a p (n + 1) + sG a p (n + 1)) % 2 = fG a p (n + 1) % 2 := by
        unfold sG fG
        split <;> omega
      simp only [sumT]; omega
  have h5 := h4 _ (Nat.le_refl _)
  rw [perm_sum (s_range hp h3 ha) (s_inj hp h3 ha)] at h5
  rw [h2] at h1
  unfold muG
  generalize sumT (fun k => k) ((p - 1) / 2) = T at *
  generalize sumT (rG a p) ((p - 1) / 2) = R at *
  generalize sumT (fG a p) ((p - 1) / 2) = U at *
  generalize sumT (fun k => k * a / p) ((p - 1) / 2) = F at *
  have e1 : (a * T) % 2 = T % 2 := by rw [Nat.mul_mod, hodd, Nat.one_mul, Nat.mod_mod]
  have e2 : (p * F) % 2 = F % 2 := by rw [Nat.mul_mod, ho, Nat.one_mul, Nat.mod_mod]
  omega
end
end Go.AM
