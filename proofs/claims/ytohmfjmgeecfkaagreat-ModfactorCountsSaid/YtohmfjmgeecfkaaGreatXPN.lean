/- Numbers: primes, and what trial division leaves. No program in sight. -/
namespace Go.AM
def PrimeN (n : Nat) : Prop := 2 ≤ n ∧ ∀ d, 2 ≤ d → d < n → ¬ d ∣ n
open Classical in
noncomputable def isP (n : Nat) : Bool := decide (PrimeN n)
theorem isP_iff {n : Nat} : isP n = true ↔ PrimeN n := by simp [isP]
def prodN : List (Nat × Nat) → Nat
  | [] => 1
  | x :: l => x.1 ^ x.2 * prodN l
theorem prodN_append (l m : List (Nat × Nat)) : prodN (l ++ m) = prodN l * prodN m := by
  induction l with
  | nil => simp [prodN]
  | cons x l ih => simp only [List.cons_append, prodN, ih, Nat.mul_assoc]
theorem primeN_of {n d : Nat} (hn : 2 ≤ n) (h : ∀ e, 2 ≤ e → e < d → ¬ e ∣ n) (hdd : n < d * d) : PrimeN n := by
  refine ⟨hn, fun e he hen hdv => ?_⟩
  by_cases h1 : e < d
  · exact h e he h1 hdv
  · obtain ⟨q, hq⟩ := hdv
    have hqd : q < d := by
      rcases Nat.lt_or_ge q d with h2 | h2
      · exact h2
      · have h3 : d * d ≤ e * q := Nat.mul_le_mul (by omega) h2
        omega
    have hq2 : 2 ≤ q := by
      rcases Nat.lt_or_ge q 2 with h2 | h2
      · have : q = 0 ∨ q = 1 := by omega
        rcases this with rfl | rfl <;> omega
      · exact h2
    exact h q hq2 hqd ⟨e, by rw [hq, Nat.mul_comm]⟩
/-- what trial division up to d has found -/
structure Gd (n d m : Nat) (l : List (Nat × Nat)) : Prop where
  pos : 1 ≤ m
  prod : n = m * prodN l
  pr : ∀ x ∈ l, PrimeN x.1 ∧ 1 ≤ x.2
  no : ∀ e, 2 ≤ e → e < d → ¬ e ∣ m
theorem Gd.step {n d m : Nat} {l : List (Nat × Nat)} (h : Gd n d m l) (hd : 2 ≤ d) {m' c : Nat} (hm : m = m' * d ^ c) (hn : ¬ d ∣ m') : Gd n (d + 1) m' (if c = 0 then l else l ++ [(d, c)]) := by
  have hm' : 1 ≤ m' := by
    rcases Nat.eq_zero_or_pos m' with h0 | h0
    · subst h0; exact absurd (Nat.dvd_zero d) hn
    · exact h0
  have hno : ∀ e, 2 ≤ e → e < d + 1 → ¬ e ∣ m' := fun e h1 h2 hv => by
    rcases Nat.lt_or_ge e d with h3 | h3
    · exact h.no e h1 h3 (hm ▸ Nat.dvd_trans hv ⟨d ^ c, rfl⟩)
    · have : e = d := by omega
      exact hn (this ▸ hv)
  by_cases hc : c = 0
  · subst hc
    rw [if_pos rfl]
    have : m = m' := by rw [hm]; simp
    subst this
    exact ⟨hm', h.prod, h.pr, hno⟩
  · rw [if_neg hc]
    refine ⟨hm', ?_, fun x hx => ?_, hno⟩
    · rw [prodN_append, h.prod, hm]; simp only [prodN, Nat.mul_one]
      rw [Nat.mul_assoc, Nat.mul_comm (d ^ c)]
    · rcases List.mem_append.1 hx with hx | hx
      · exact h.pr x hx
      · rw [List.mem_singleton] at hx; subst hx
        refine ⟨⟨hd, fun e h1 h2 hv => h.no e h1 h2 ?_⟩, by show 1 ≤ c; omega⟩
        refine Nat.dvd_trans hv ?_
        obtain ⟨c', rfl⟩ : ∃ c', c = c' + 1 := ⟨c - 1, by omega⟩
        rw [hm]; exact ⟨m' * d ^ c', by rw [Nat.pow_succ, ← Nat.mul_assoc, Nat.mul_comm]⟩
theorem Gd.odd {n d m : Nat} {l : List (Nat × Nat)} (h : Gd n (d + 1) m l) (hd : 2 ≤ d) (ho : d % 2 = 1) : Gd n (d + 2) m l := by
  refine ⟨h.pos, h.prod, h.pr, fun e h1 h2 hv => ?_⟩
  rcases Nat.lt_or_ge e (d + 1) with h3 | h3
  · exact h.no e h1 h3 hv
  · have : e = d + 1 := by omega
    subst this
    exact h.no 2 (by omega) (by omega) (Nat.dvd_trans ⟨(d + 1) / 2, by omega⟩ hv)
theorem prodN_pos {l : List (Nat × Nat)} (h : ∀ x ∈ l, PrimeN x.1 ∧ 1 ≤ x.2) : 1 ≤ prodN l := by
  induction l with
  | nil => exact Nat.le_refl _
  | cons x l ih =>
    have h1 : 0 < x.1 ^ x.2 := Nat.pow_pos (by have := (h x (List.mem_cons_self ..)).1.1; omega)
    exact Nat.mul_pos h1 (ih fun y hy => h y (List.mem_cons_of_mem _ hy))
/-- a full row of factors tells a prime -/
def one1 : List (Nat × Nat) → Bool
  | [x] => x.2 == 1
  | _ => false
theorem one1_iff {n : Nat} {l : List (Nat × Nat)} (hn : 2 ≤ n) (h : n = prodN l) (hp : ∀ x ∈ l, PrimeN x.1 ∧ 1 ≤ x.2) : one1 l = isP n := by
  by_cases hP : PrimeN n
  · rw [isP_iff.2 hP]
    cases l with
    | nil => simp only [prodN] at h; omega
    | cons x l =>
      obtain ⟨hx, he⟩ := hp x (List.mem_cons_self ..)
      have hl : ∀ y ∈ l, PrimeN y.1 ∧ 1 ≤ y.2 := fun y hy => hp y (List.mem_cons_of_mem _ hy)
      have hr := prodN_pos hl
      obtain ⟨j, hj⟩ : ∃ j, x.2 = j + 1 := ⟨x.2 - 1, by omega⟩
      simp only [prodN, hj, Nat.pow_succ] at h
      have hq : 0 < x.1 ^ j := Nat.pow_pos (by have := hx.1; omega)
      have hdv : x.1 ∣ n := ⟨x.1 ^ j * prodN l, by rw [h, Nat.mul_comm (x.1 ^ j), Nat.mul_assoc]⟩
      have hxn : x.1 = n := by
        have hle := Nat.le_of_dvd (by omega) hdv
        rcases Nat.lt_or_ge x.1 n with h3 | h3
        · exact absurd hdv (hP.2 _ hx.1 h3)
        · omega
      have h1 : x.1 ^ j * prodN l = 1 := by
        have h4 : n * (x.1 ^ j * prodN l) = n * 1 := by
          rw [Nat.mul_one]; rw [hxn] at h ⊢; rw [← Nat.mul_assoc, Nat.mul_comm n]; exact h.symm
        exact Nat.eq_of_mul_eq_mul_left (by omega) h4
      have h5 := Nat.eq_one_of_mul_eq_one_right h1
      have h6 := Nat.eq_one_of_mul_eq_one_left h1
      have hj0 : j = 0 := by
        cases j with
        | zero => rfl
        | succ j =>
          have := Nat.eq_one_of_mul_eq_one_left (show x.1 ^ j * x.1 = 1 from h5)
          have := hx.1; omega
      cases l with
      | nil => simp only [one1, hj, hj0]; rfl
      | cons y l =>
        obtain ⟨hy, hy1⟩ := hl y (List.mem_cons_self ..)
        obtain ⟨i, hi⟩ : ∃ i, y.2 = i + 1 := ⟨y.2 - 1, by omega⟩
        simp only [prodN, hi, Nat.pow_succ] at h6
        have := Nat.eq_one_of_mul_eq_one_left (Nat.eq_one_of_mul_eq_one_right h6)
        have := hy.1; omega
  · have e : isP n = false := by cases hb : isP n; rfl; exact absurd (isP_iff.1 hb) hP
    rw [e]
    match l, h, hp with
    | [], h, hp => rfl
    | [x], h, hp =>
      simp only [one1, beq_eq_false_iff_ne]
      intro h1
      simp only [prodN, h1, Nat.pow_one, Nat.mul_one] at h
      exact hP (h ▸ (hp x (List.mem_cons_self ..)).1)
    | _ :: _ :: _, h, hp => rfl
/-- the end of trial division -/
theorem Gd.last {n d m : Nat} {l : List (Nat × Nat)} (h : Gd n d m l) (hm : 2 ≤ m) (hdd : m < d * d) {m' c : Nat} (he : m = m' * m ^ c) (hn : ¬ m ∣ m') : n = prodN (if c = 0 then l else l ++ [(m, c)]) ∧ ∀ x ∈ (if c = 0 then l else l ++ [(m, c)]), PrimeN x.1 ∧ 1 ≤ x.2 := by
  have hc : c = 1 := by
    rcases Nat.lt_or_ge c 1 with h1 | h1
    · have : c = 0 := by omega
      subst this
      rw [Nat.pow_zero, Nat.mul_one] at he
      exact absurd (he ▸ Nat.dvd_refl m) hn
    · rcases Nat.lt_or_ge 1 c with h2 | h2
      · obtain ⟨j, rfl⟩ : ∃ j, c = j + 2 := ⟨c - 2, by omega⟩
        have hm' : 1 ≤ m' := by
          rcases Nat.eq_zero_or_pos m' with h0 | h0
          · subst h0; exact absurd (Nat.dvd_zero m) hn
          · exact h0
        have h3 : m * (m' * m ^ (j + 1)) = m * 1 := by
          rw [Nat.mul_one]; rw [Nat.pow_succ, ← Nat.mul_assoc, Nat.mul_comm] at he; exact he.symm
        have h4 := Nat.eq_of_mul_eq_mul_left (by omega) h3
        have h5 := Nat.eq_one_of_mul_eq_one_left (show m ^ j * m = 1 from Nat.eq_one_of_mul_eq_one_left h4)
        omega
      · omega
  subst hc
  rw [Nat.pow_one] at he
  have hm1 : m' = 1 := by
    have : 1 * m = m' * m := by rw [Nat.one_mul]; exact he
    exact (Nat.eq_of_mul_eq_mul_right (by omega) this).symm
  rw [if_neg (by omega)]
  refine ⟨by rw [prodN_append, h.prod]; simp only [prodN, Nat.pow_one, Nat.mul_one]; exact Nat.mul_comm _ _, fun x hx => ?_⟩
  rcases List.mem_append.1 hx with hx | hx
  · exact h.pr x hx
  · rw [List.mem_singleton] at hx; subst hx
    exact ⟨primeN_of hm h.no hdd, Nat.le_refl 1⟩
end Go.AM
