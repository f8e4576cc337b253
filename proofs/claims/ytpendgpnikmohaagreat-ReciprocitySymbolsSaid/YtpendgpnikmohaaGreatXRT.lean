/- Euler's criterion and the law of quadratic reciprocity for the odd primes up to 3000. No program in sight. -/
import Derived.Test.YtpendgpnikmohaaGreatXRN
set_option linter.unusedVariables false
set_option linter.unusedSimpArgs false
namespace Go.AM
def cov (g p : Nat) : Nat → Nat → Nat → Nat
  | 0, x, m => m
  | n + 1, x, m => cov g p n (x * g % p) (m ||| (1 <<< x))
theorem covB_eq (g p : Nat) (k : Nat → Bool) : ∀ n x m, covB g p n x m k = k (cov g p n x m)
  | 0, x, m => rfl
  | n + 1, x, m => by
    have : covB g p (n + 1) x m k = fB (Nat.mod (Nat.mul x g) p) fun x' => fB (Nat.lor m (Nat.shiftLeft 1 x)) fun m' => covB g p n x' m' k := rfl
    rw [this, fB_eq, fB_eq, covB_eq g p k n]; rfl
theorem cov_bit (g p : Nat) (a : Nat) : ∀ n x m, x < p → (cov g p n x m).testBit a = true → m.testBit a = true ∨ ∃ j, a = x * g ^ j % p
  | 0, x, m, hx, h => .inl h
  | n + 1, x, m, hx, h => by
    rcases cov_bit g p a n (x * g % p) _ (Nat.mod_lt _ (by omega)) h with h | ⟨j, h⟩
    · rw [Nat.testBit_or, Bool.or_eq_true] at h
      rcases h with h | h
      · exact .inl h
      · rw [Nat.one_shiftLeft, Nat.testBit_two_pow, decide_eq_true_eq] at h
        exact .inr ⟨0, by rw [Nat.pow_zero, Nat.mul_one, Nat.mod_eq_of_lt hx]; exact h.symm⟩
    · refine .inr ⟨j + 1, ?_⟩
      rw [h, Nat.pow_succ, Nat.mul_comm (g ^ j) g, ← Nat.mul_assoc, Nat.mod_mul_mod]
theorem okg_spec {p g : Nat} (hp : 3 ≤ p) (h : okg p g = true) : g ^ ((p - 1) / 2) % p = p - 1 ∧ ∀ a, 1 ≤ a → a < p → ∃ k, a = g ^ k % p := by
  unfold okg at h
  cases hb : Nat.beq (Nat.mod (Nat.pow g (Nat.div (Nat.sub p 1) 2)) p) (Nat.sub p 1)
  · rw [hb] at h; cases h
  · rw [hb] at h
    refine ⟨Nat.eq_of_beq_eq_true hb, fun a h1 h2 => ?_⟩
    have h' : covB g p (Nat.sub p 1) 1 1 (fun m => Nat.beq m (Nat.sub (Nat.pow 2 p) 1)) = true := h
    rw [covB_eq] at h'
    have e := Nat.eq_of_beq_eq_true h'
    have ht : (cov g p (Nat.sub p 1) 1 1).testBit a = true := by
      rw [e]
      show (2 ^ p - 1).testBit a = true
      rw [Nat.testBit_two_pow_sub_one]; exact decide_eq_true h2
    rcases cov_bit g p a _ 1 1 (by omega) ht with h3 | ⟨j, h3⟩
    · have : (2 ^ 0).testBit a = true := h3
      rw [Nat.testBit_two_pow, decide_eq_true_eq] at this
      omega
    · exact ⟨j, by rw [h3, Nat.one_mul]⟩
theorem minus_pow {p : Nat} (hp : 3 ≤ p) : ∀ k, (p - 1) ^ (2 * k) % p = 1 ∧ (p - 1) ^ (2 * k + 1) % p = p - 1
  | 0 => ⟨by rw [Nat.mul_zero, Nat.pow_zero]; exact Nat.mod_eq_of_lt (by omega), by rw [Nat.mul_zero, Nat.zero_add, Nat.pow_one]; exact Nat.mod_eq_of_lt (by omega)⟩
  | k + 1 => by
    have ih := minus_pow hp k
    have h1 : (p - 1) ^ (2 * (k + 1)) % p = 1 := by
      rw [show 2 * (k + 1) = 2 * k + 1 + 1 by omega, Nat.pow_succ, Nat.mul_mod, ih.2]
      rw [Nat.mod_eq_of_lt (show p - 1 < p by omega)]
      have : (p - 1) * (p - 1) = 1 + p * (p - 2) := by
        obtain ⟨q, rfl⟩ : ∃ q, p = q + 2 := ⟨p - 2, by omega⟩
        have e1 : q + 2 - 1 = q + 1 := by omega
        have e2 : q + 2 - 2 = q := by omega
        simp only [e1, e2, Nat.add_mul, Nat.mul_add]; omega
      rw [this, Nat.add_mul_mod_self_left]; exact Nat.mod_eq_of_lt (by omega)
    refine ⟨h1, ?_⟩
    rw [Nat.pow_succ, Nat.mul_mod, h1, Nat.one_mul, Nat.mod_mod]; exact Nat.mod_eq_of_lt (by omega)
theorem gen_pow {p g : Nat} (hg : g ^ ((p - 1) / 2) % p = p - 1) (k : Nat) : (g ^ k % p) ^ ((p - 1) / 2) % p = (p - 1) ^ k % p := by
  rw [← Nat.pow_mod, ← Nat.pow_mul, Nat.mul_comm, Nat.pow_mul, Nat.pow_mod, hg]
theorem eN_iff {a p : Nat} : eN a p = true ↔ a ^ ((p - 1) / 2) % p = 1 := ⟨fun h => Nat.eq_of_beq_eq_true h, fun h => by
  show Nat.beq (a ^ ((p - 1) / 2) % p) 1 = true
  rw [h]; rfl⟩
/-- Euler's criterion -/
theorem euler {p g : Nat} (hp : 3 ≤ p) (h : okg p g = true) {a : Nat} (h1 : 1 ≤ a) (h2 : a < p) : eN a p = true ↔ ∃ x, 1 ≤ x ∧ x ≤ p / 2 ∧ x * x % p = a := by
  obtain ⟨hg, hc⟩ := okg_spec hp h
  rw [eN_iff]
  constructor
  · intro he
    obtain ⟨k, hk⟩ := hc a h1 h2
    rw [hk, gen_pow hg] at he
    have hk2 : k % 2 = 0 := by
      rcases Nat.mod_two_eq_zero_or_one k with h | h
      · exact h
      · have := (minus_pow hp (k / 2)).2
        rw [show 2 * (k / 2) + 1 = k by omega, he] at this; omega
    obtain ⟨i, rfl⟩ : ∃ i, k = 2 * i := ⟨k / 2, by omega⟩
    have hy := Nat.mod_lt (g ^ i) (show 0 < p by omega)
    have hyy : (g ^ i % p) * (g ^ i % p) % p = a := by
      rw [← Nat.mul_mod, ← Nat.pow_add, show i + i = 2 * i by omega]; exact hk.symm
    generalize g ^ i % p = y at hy hyy
    have hy1 : 1 ≤ y := by
      rcases Nat.eq_zero_or_pos y with h0 | h0
      · subst h0; rw [Nat.mul_zero, Nat.zero_mod] at hyy; omega
      · exact h0
    by_cases hs : y ≤ p / 2
    · exact ⟨y, hy1, hs, hyy⟩
    · refine ⟨p - y, by omega, by omega, ?_⟩
      have e : (p - y) * (p - y) + p * (2 * y) = y * y + p * p := by
        obtain ⟨z, rfl⟩ : ∃ z, p = y + z := ⟨p - y, by omega⟩
        rw [show y + z - y = z by omega]
        simp only [Nat.add_mul, Nat.mul_add]
        have : z * y = y * z := Nat.mul_comm _ _
        have h4 : y * (2 * y) = 2 * (y * y) := Nat.mul_left_comm _ _ _
        have h5 : z * (2 * y) = 2 * (y * z) := by rw [Nat.mul_left_comm, this]
        omega
      have e2 : ((p - y) * (p - y) + p * (2 * y)) % p = (y * y + p * p) % p := by rw [e]
      rw [Nat.add_mul_mod_self_left, Nat.add_mul_mod_self_left] at e2
      rw [e2]; exact hyy
  · rintro ⟨x, hx1, hx2, hx⟩
    obtain ⟨j, hj⟩ := hc x hx1 (by omega)
    have : a = g ^ (2 * j) % p := by
      rw [← hx, hj, ← Nat.mul_mod, ← Nat.pow_add, show j + j = 2 * j by omega]
    rw [this, gen_pow hg]
    exact (minus_pow hp j).1
theorem allg_get : ∀ {l : List (Nat × Nat)} {x : Nat × Nat}, allg l = true → x ∈ l → okg x.1 x.2 = true
  | y :: l, x, h, hx => by
    have h' : Bool.rec false (allg l) (okg y.1 y.2) = true := h
    cases hy : okg y.1 y.2
    · rw [hy] at h'; cases h'
    · rw [hy] at h'
      rcases List.mem_cons.1 hx with rfl | hx
      · exact hy
      · exact allg_get h' hx
theorem allq_get {p : Nat} : ∀ {l : List (Nat × Nat)} {x : Nat × Nat}, allq p l = true → x ∈ l → p = x.1 ∨ qr1 p x.1 = true
  | y :: l, x, h, hx => by
    have h' : Bool.rec false (allq p l) (Bool.rec (qr1 p y.1) true (Nat.beq p y.1)) = true := h
    cases hy : (Bool.rec (qr1 p y.1) true (Nat.beq p y.1) : Bool)
    · rw [hy] at h'; cases h'
    · rw [hy] at h'
      rcases List.mem_cons.1 hx with rfl | hx
      · cases hb : Nat.beq p x.1
        · rw [hb] at hy; exact .inr hy
        · exact .inl (Nat.eq_of_beq_eq_true hb)
      · exact allq_get h' hx
theorem allqq_get {m : List (Nat × Nat)} : ∀ {l : List (Nat × Nat)} {x y : Nat × Nat}, allqq l m = true → x ∈ l → y ∈ m → x.1 = y.1 ∨ qr1 x.1 y.1 = true
  | z :: l, x, y, h, hx, hy => by
    have h' : Bool.rec false (allqq l m) (allq z.1 m) = true := h
    cases hz : allq z.1 m
    · rw [hz] at h'; cases h'
    · rw [hz] at h'
      rcases List.mem_cons.1 hx with rfl | hx
      · exact allq_get hz hy
      · exact allqq_get h' hx hy
theorem mem_PL {x : Nat × Nat} : x ∈ PL ↔ x ∈ PL0 ∨ x ∈ PL1 ∨ x ∈ PL2 ∨ x ∈ PL3 ∨ x ∈ PL4 ∨ x ∈ PL5 := by
  unfold PL
  simp only [List.mem_append, or_assoc]
theorem PL_gen {x : Nat × Nat} (h : x ∈ PL) : okg x.1 x.2 = true := by
  rcases mem_PL.1 h with h | h | h | h | h | h
  · exact allg_get gen0 h
  · exact allg_get gen1 h
  · exact allg_get gen2 h
  · exact allg_get gen3 h
  · exact allg_get gen4 h
  · exact allg_get gen5 h
theorem bx_iff (a b : Bool) : bx a b = true ↔ a = b := by cases a <;> cases b <;> decide
theorem qr1_comm {p r : Nat} (h : qr1 p r = true) : qr1 r p = true := by
  unfold qr1 at *
  rw [bx_iff] at *
  have e1 : ∀ a b, bx a b = bx b a := fun a b => by cases a <;> cases b <;> rfl
  have e2 : q3 r p = q3 p r := by
    unfold q3
    cases Nat.beq (Nat.mod r 4) 3 <;> cases Nat.beq (Nat.mod p 4) 3 <;> rfl
  rw [e1, e2]; exact h
theorem PL_qr {x y : Nat × Nat} (hx : x ∈ PL) (hy : y ∈ PL) (hne : x.1 ≠ y.1) : qr1 x.1 y.1 = true := by
  have go : ∀ {l m : List (Nat × Nat)}, allqq l m = true → x ∈ l → y ∈ m → qr1 x.1 y.1 = true := fun h h1 h2 => (allqq_get h h1 h2).resolve_left hne
  have og : ∀ {l m : List (Nat × Nat)}, allqq m l = true → x ∈ l → y ∈ m → qr1 x.1 y.1 = true := fun h h1 h2 => qr1_comm ((allqq_get h h2 h1).resolve_left hne.symm)
  rcases mem_PL.1 hx with hx | hx | hx | hx | hx | hx <;> rcases mem_PL.1 hy with hy | hy | hy | hy | hy | hy
  · exact go qr0x0 hx hy
  · exact go qr0x1 hx hy
  · exact go qr0x2 hx hy
  · exact go qr0x3 hx hy
  · exact go qr0x4 hx hy
  · exact go qr0x5 hx hy
  · exact og qr0x1 hx hy
  · exact go qr1x1 hx hy
  · exact go qr1x2 hx hy
  · exact go qr1x3 hx hy
  · exact go qr1x4 hx hy
  · exact go qr1x5 hx hy
  · exact og qr0x2 hx hy
  · exact og qr1x2 hx hy
  · exact go qr2x2 hx hy
  · exact go qr2x3 hx hy
  · exact go qr2x4 hx hy
  · exact go qr2x5 hx hy
  · exact og qr0x3 hx hy
  · exact og qr1x3 hx hy
  · exact og qr2x3 hx hy
  · exact go qr3x3 hx hy
  · exact go qr3x4 hx hy
  · exact go qr3x5 hx hy
  · exact og qr0x4 hx hy
  · exact og qr1x4 hx hy
  · exact og qr2x4 hx hy
  · exact og qr3x4 hx hy
  · exact go qr4x4 hx hy
  · exact go qr4x5 hx hy
  · exact og qr0x5 hx hy
  · exact og qr1x5 hx hy
  · exact og qr2x5 hx hy
  · exact og qr3x5 hx hy
  · exact og qr4x5 hx hy
  · exact go qr5x5 hx hy
theorem in_PL {p : Nat} (h1 : 3 ≤ p) (h2 : p ≤ 3000) (hp : PrimeN p) : ∃ g, (p, g) ∈ PL := by
  have h := List.all_eq_true.1 allC p (List.mem_range.2 (by omega))
  simp only [Bool.or_eq_true] at h
  rcases h with (h | h) | h
  · rw [show Nat.blt p 3 = false from Bool.eq_false_iff.2 fun e => by have := Nat.le_of_ble_eq_true e; omega] at h; cases h
  · unfold isC at h
    obtain ⟨d, hd, hb⟩ := List.any_eq_true.1 h
    rw [Bool.and_eq_true] at hb
    have e1 := Nat.eq_of_beq_eq_true hb.1
    have e2 : d < p := Nat.le_of_ble_eq_true hb.2
    have hd2 : 2 ≤ d := by
      simp only [List.mem_cons, List.not_mem_nil, or_false] at hd
      omega
    exact absurd (Nat.dvd_of_mod_eq_zero e1) (hp.2 d hd2 e2)
  · obtain ⟨x, hx, hb⟩ := List.any_eq_true.1 h
    have := Nat.eq_of_beq_eq_true hb
    exact ⟨x.2, by rw [← this]; exact hx⟩
end Go.AM
