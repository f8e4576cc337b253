/- Powers in a commutative ring, the binomial theorem, and its form modulo a prime. No program in sight. -/
import Derived.Test.YtmknclgamadphaaA3PolymodPrimes
namespace Go.Proofs.Ytmknclgamadphaa.MPolymodPrimes
set_option linter.unusedVariables false
set_option linter.unusedSimpArgs false
namespace CR
variable {R : Type} [CR R]
def pw (a : R) : Nat → R
  | 0 => 1
  | n + 1 => pw a n * a
theorem pw_one (n : Nat) : pw (1 : R) n = 1 := by
  induction n with
  | zero => rfl
  | succ n ih => show pw 1 n * 1 = 1; rw [ih, mul_1]
theorem pw_add (a : R) (m n : Nat) : pw a (m + n) = pw a m * pw a n := by
  induction n with
  | zero => exact (mul_1 _).symm
  | succ n ih => show pw a (m + n) * a = pw a m * (pw a n * a); rw [ih, mul_assoc]
theorem pw_mul (a b : R) (n : Nat) : pw (a * b) n = pw a n * pw b n := by
  induction n with
  | zero => exact (mul_1 1).symm
  | succ n ih => show pw (a * b) n * (a * b) = pw a n * a * (pw b n * b); rw [ih, mul_assoc, mul_assoc, mul_left_comm (pw b n)]
theorem pw_pw (a : R) (m n : Nat) : pw (pw a m) n = pw a (m * n) := by
  induction n with
  | zero => rfl
  | succ n ih => show pw (pw a m) n * pw a m = pw a (m * (n + 1)); rw [ih, Nat.mul_succ, pw_add]
/-- The sum of f 0, .., f (n - 1). -/
def rs (f : Nat → R) : Nat → R
  | 0 => 0
  | n + 1 => rs f n + f n
theorem rs_ext {f g : Nat → R} {n : Nat} (h : ∀ i, i < n → f i = g i) : rs f n = rs g n := by
  induction n with
  | zero => rfl
  | succ n ih => show rs f n + f n = rs g n + g n; rw [ih fun i hi => h i (by omega), h n (by omega)]
theorem rs_plus (f g : Nat → R) (n : Nat) : rs (fun i => f i + g i) n = rs f n + rs g n := by
  induction n with
  | zero => exact (add_0 0).symm
  | succ n ih => show rs _ n + (f n + g n) = rs f n + f n + (rs g n + g n); rw [ih, add_assoc, add_assoc, add_left_comm (rs g n)]
theorem rs_mul (f : Nat → R) (n : Nat) (a : R) : rs f n * a = rs (fun i => f i * a) n := by
  induction n with
  | zero => exact zero_mul a
  | succ n ih => show (rs f n + f n) * a = rs _ n + f n * a; rw [add_mul, ih]
theorem rs_first (f : Nat → R) (n : Nat) : rs f (n + 1) = f 0 + rs (fun i => f (i + 1)) n := by
  induction n with
  | zero => show (0 : R) + f 0 = f 0 + 0; rw [zero_add, add_0]
  | succ n ih => show rs f (n + 1) + f (n + 1) = f 0 + (rs _ n + f (n + 1)); rw [ih, add_assoc]
theorem rs_zero {f : Nat → R} {n : Nat} (h : ∀ i, i < n → f i = 0) : rs f n = 0 := by
  induction n with
  | zero => rfl
  | succ n ih => show rs f n + f n = 0; rw [ih fun i hi => h i (by omega), h n (by omega), add_0]
end CR
/-! ### binomial coefficients -/
def bin : Nat → Nat → Nat
  | _, 0 => 1
  | 0, _ + 1 => 0
  | n + 1, k + 1 => bin n k + bin n (k + 1)
theorem bin_0 (n : Nat) : bin n 0 = 1 := by cases n <;> rfl
theorem bin_big : ∀ (n k : Nat), n < k → bin n k = 0 := by
  intro n
  induction n with
  | zero => intro k h; cases k with
    | zero => omega
    | succ k => rfl
  | succ n ih => intro k h; cases k with
    | zero => omega
    | succ k => show bin n k + bin n (k + 1) = 0; rw [ih k (by omega), ih (k + 1) (by omega)]
theorem bin_self : ∀ n : Nat, bin n n = 1 := by
  intro n
  induction n with
  | zero => rfl
  | succ n ih => show bin n n + bin n (n + 1) = 1; rw [ih, bin_big n (n + 1) (by omega)]
theorem bin_up : ∀ (n k : Nat), (k + 1) * bin (n + 1) (k + 1) = (n + 1) * bin n k := by
  intro n
  induction n with
  | zero => intro k; cases k with
    | zero => rfl
    | succ k => show (k + 2) * (bin 0 (k + 1) + bin 0 (k + 2)) = 1 * bin 0 (k + 1); simp [bin]
  | succ n ih =>
    intro k
    cases k with
    | zero =>
      have h := ih 0
      rw [bin_0] at h
      show 1 * (bin (n + 1) 0 + bin (n + 1) 1) = (n + 2) * bin (n + 1) 0
      rw [bin_0]
      simp only [Nat.zero_add, Nat.one_mul, Nat.mul_one] at h ⊢
      omega
    | succ k =>
      have h1 := ih k
      have h2 := ih (k + 1)
      have e : bin (n + 1) (k + 1) = bin n k + bin n (k + 1) := rfl
      show (k + 2) * (bin (n + 1) (k + 1) + bin (n + 1) (k + 2)) = (n + 2) * bin (n + 1) (k + 1)
      have a1 : (k + 2) * (bin (n + 1) (k + 1) + bin (n + 1) (k + 2)) = (k + 1) * bin (n + 1) (k + 1) + bin (n + 1) (k + 1) + (k + 2) * bin (n + 1) (k + 2) := by
        rw [Nat.mul_add, show k + 2 = (k + 1) + 1 from rfl, Nat.add_mul, Nat.one_mul]
      have a2 : (n + 2) * bin (n + 1) (k + 1) = (n + 1) * bin (n + 1) (k + 1) + bin (n + 1) (k + 1) := by
        rw [show n + 2 = (n + 1) + 1 from rfl, Nat.add_mul, Nat.one_mul]
      have h2' : (k + 2) * bin (n + 1) (k + 2) = (n + 1) * bin n (k + 1) := h2
      rw [a1, a2, h1, h2', e, Nat.mul_add]
      omega
namespace CR
variable {R : Type} [CR R]
def bt_ (a b : R) (n k : Nat) : R := nsm (bin n k) (pw a k * pw b (n - k))
theorem nsm_mul' (n : Nat) (a b : R) : a * nsm n b = nsm n (a * b) := by rw [mul_comm, nsm_mul, mul_comm]
/-- The binomial theorem. -/
theorem binom (a b : R) (n : Nat) : pw (a + b) n = rs (bt_ a b n) (n + 1) := by
  induction n with
  | zero =>
    show (1 : R) = 0 + bt_ a b 0 0
    have : bt_ a b 0 0 = (0 : R) + (1 : R) * 1 := rfl
    rw [this, mul_1, zero_add, zero_add]
  | succ n ih =>
    have h1 : rs (bt_ a b n) (n + 1) * a = rs (fun k => nsm (bin n k) (pw a (k + 1) * pw b (n - k))) (n + 1) := by
      rw [rs_mul]
      refine rs_ext fun k hk => ?_
      show nsm (bin n k) (pw a k * pw b (n - k)) * a = _
      rw [nsm_mul]
      congr 1
      show pw a k * pw b (n - k) * a = pw a k * a * pw b (n - k)
      rw [mul_assoc, mul_comm (pw b (n - k)), mul_assoc]
    have h2 : rs (bt_ a b n) (n + 1) * b = pw b (n + 1) + rs (fun k => nsm (bin n (k + 1)) (pw a (k + 1) * pw b (n - k))) (n + 1) := by
      rw [rs_mul, rs_first]
      congr 1
      · show nsm (bin n 0) (pw a 0 * pw b (n - 0)) * b = pw b n * b
        rw [bin_0]
        show ((0 : R) + 1 * pw b n) * b = _
        rw [one_mul, zero_add]
      · show _ = rs _ n + nsm (bin n (n + 1)) (pw a (n + 1) * pw b (n - n))
        rw [bin_big n (n + 1) (by omega)]
        show _ = rs _ n + 0
        rw [add_0]
        refine rs_ext fun k hk => ?_
        show nsm (bin n (k + 1)) (pw a (k + 1) * pw b (n - (k + 1))) * b = _
        rw [nsm_mul]
        congr 1
        rw [mul_assoc]
        congr 1
        rw [show n - k = (n - (k + 1)) + 1 from by omega]
        rfl
    show pw (a + b) n * (a + b) = _
    rw [ih, mul_add, h1, h2, rs_first (bt_ a b (n + 1)) (n + 1), add_left_comm, ← rs_plus]
    congr 1
    · show _ = nsm (bin (n + 1) 0) (pw a 0 * pw b (n + 1))
      rw [bin_0]
      show _ = (0 : R) + 1 * pw b (n + 1)
      rw [one_mul, zero_add]
    · refine rs_ext fun k hk => ?_
      show _ = nsm (bin n k + bin n (k + 1)) (pw a (k + 1) * pw b (n + 1 - (k + 1)))
      rw [nsm_add, show n + 1 - (k + 1) = n - k from by omega]
end CR
theorem bin_prime {p : Int} (hp : Prime p) {n : Nat} (hn : (n : Int) = p) {k : Nat} (hk : 0 < k) (hkn : k < n) : ((bin n k : Nat) : Int) % p = 0 := by
  obtain ⟨m, rfl⟩ : ∃ m, n = m + 1 := ⟨n - 1, by omega⟩
  obtain ⟨j, rfl⟩ : ∃ j, k = j + 1 := ⟨k - 1, by omega⟩
  have h := bin_up m j
  have h2 : (((j + 1 : Nat) : Int) * ((bin (m + 1) (j + 1) : Nat) : Int)) % p = 0 := by
    rw [← Int.natCast_mul, h, Int.natCast_mul, hn, Int.mul_emod_right]
  rcases prime_dvd_mul hp h2 with h3 | h3
  · rw [Int.emod_eq_of_lt (by omega) (by omega)] at h3
    omega
  · exact h3
namespace Fx
variable {p : Int}
theorem nsm_c (n : Nat) (f : Fx p) (i : Nat) : (CR.nsm n f).c i = ((n : Int) * f.c i) % p := by
  induction n with
  | zero => show (0 : Fx p).c i = _; rw [zero_c]; simp
  | succ n ih =>
    show (CR.nsm n f + f).c i = _
    rw [add_c, ih, Int.emod_add_emod, Int.natCast_succ, Int.add_mul, Int.one_mul]
theorem nsm_zero_of {n : Nat} (h : (n : Int) % p = 0) (f : Fx p) : CR.nsm n f = 0 := ext fun i => by
  rw [nsm_c, zero_c, Int.mul_emod, h, Int.zero_mul, Int.zero_emod]
/-- Modulo a prime p: the p-th power of a sum. -/
theorem pw_sum (hp : Prime p) {n : Nat} (hn : (n : Int) = p) (f g : Fx p) : CR.pw (f + g) n = CR.pw f n + CR.pw g n := by
  have h2 := hp.1
  obtain ⟨m, rfl⟩ : ∃ m, n = m + 1 := ⟨n - 1, by omega⟩
  rw [CR.binom]
  show CR.rs (CR.bt_ f g (m + 1)) (m + 1) + CR.bt_ f g (m + 1) (m + 1) = _
  have hz : CR.rs (fun i => CR.bt_ f g (m + 1) (i + 1)) m = 0 := CR.rs_zero fun i hi => nsm_zero_of (bin_prime hp hn (by omega) (by omega)) _
  rw [CR.rs_first, hz, CR.add_0, CR.add_comm]
  congr 1
  · show CR.nsm (bin (m + 1) (m + 1)) (CR.pw f (m + 1) * CR.pw g (m + 1 - (m + 1))) = _
    rw [bin_self, Nat.sub_self]
    show (0 : Fx p) + CR.pw f (m + 1) * 1 = _
    rw [CR.mul_1, CR.zero_add]
  · show CR.nsm (bin (m + 1) 0) (CR.pw f 0 * CR.pw g (m + 1)) = _
    rw [bin_0]
    show (0 : Fx p) + 1 * CR.pw g (m + 1) = _
    rw [CR.one_mul, CR.zero_add]
/-- Fermat: a constant is its own p-th power. -/
theorem pw_const (hp : Prime p) {n : Nat} (hn : (n : Int) = p) (a : Nat) : CR.pw (mono p (a : Int) 0) n = mono p (a : Int) 0 := by
  have h2 := hp.1
  induction a with
  | zero =>
    obtain ⟨m, rfl⟩ : ∃ m, n = m + 1 := ⟨n - 1, by omega⟩
    have h0 : mono p ((0 : Nat) : Int) 0 = 0 := ext fun i => by rw [mono_c, zero_c]; split <;> simp
    rw [h0]
    show CR.pw 0 m * 0 = 0
    exact CR.mul_0 _
  | succ a ih =>
    have h1 : mono p ((a + 1 : Nat) : Int) 0 = mono p (a : Int) 0 + 1 := ext fun i => by
      rw [add_c, mono_c, mono_c, one_c, Int.emod_add_emod, Int.add_emod_emod]
      by_cases e : i = 0
      · rw [if_pos e, if_pos e, if_pos e]; rfl
      · rw [if_neg e, if_neg e, if_neg e]; rfl
    rw [h1, pw_sum hp hn, ih, CR.pw_one]
end Fx
end Go.Proofs.Ytmknclgamadphaa.MPolymodPrimes
