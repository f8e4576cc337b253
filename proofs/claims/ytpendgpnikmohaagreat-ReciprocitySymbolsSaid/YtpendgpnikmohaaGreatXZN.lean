/- Orbits of a multiplication modulo a prime (Zolotarev). No program in sight. -/
import Derived.Test.YtpendgpnikmohaaGreatXGL
set_option linter.unusedVariables false
set_option linter.unusedSimpArgs false
set_option linter.unusedSectionVars false
namespace Go.AM
def cntB : List Bool → Nat
  | [] => 0
  | b :: l => (if b = true then 1 else 0) + cntB l
theorem cntB_set : ∀ (l : List Bool) (y : Nat), l[y]? = some false → cntB (l.set y true) = cntB l + 1
  | [], y, h => by simp at h
  | b :: l, 0, h => by simp at h; subst h; simp [cntB]; omega
  | b :: l, y + 1, h => by
    have := cntB_set l y (by simpa using h)
    simp only [List.set_cons_succ, cntB, this]; omega
theorem cntB_all : ∀ (l : List Bool), (∀ y, y < l.length → l[y]? = some true) → cntB l = l.length
  | [], _ => rfl
  | b :: l, h => by
    have h0 := h 0 (by simp)
    simp at h0
    have := cntB_all l fun y hy => by have := h (y + 1) (by simpa using hy); simpa using this
    simp only [cntB, h0, this, List.length_cons, if_true]; omega
theorem cntB_rep : ∀ n, cntB (List.replicate n false) = 0
  | 0 => rfl
  | n + 1 => by simp [List.replicate_succ, cntB, cntB_rep n]
/-- the least number of its kind -/
theorem least (P : Nat → Prop) : ∀ n, P n → ∃ d, d ≤ n ∧ P d ∧ ∀ j, j < d → ¬ P j := by
  intro n
  induction n using Nat.strongRecOn with
  | ind n ih =>
    intro h
    by_cases hj : ∃ j, j < n ∧ P j
    · obtain ⟨j, h1, h2⟩ := hj
      obtain ⟨d, a, b, c⟩ := ih j h1 h2
      exact ⟨d, by omega, b, c⟩
    · exact ⟨n, Nat.le_refl _, h, fun j h1 h2 => hj ⟨j, h1, h2⟩⟩
section
variable {a p d : Nat}
def orb (a p x j : Nat) : Nat := a ^ j * x % p
def marks (a p : Nat) (L : List Bool) (x : Nat) : Nat → List Bool
  | 0 => L
  | j + 1 => (marks a p L x j).set (orb a p x j) true
def Closed (a p : Nat) (L : List Bool) : Prop := ∀ y, y < p → (L[y]? = some true ↔ L[a * y % p]? = some true)
theorem orb_succ (x j : Nat) : orb a p x (j + 1) = a * orb a p x j % p := by
  unfold orb
  rw [Nat.pow_succ, Nat.mul_comm (a ^ j) a, Nat.mul_assoc, Nat.mul_mod_mod]
theorem orb_zero {x : Nat} (hx : x < p) : orb a p x 0 = x := by
  unfold orb
  rw [Nat.pow_zero, Nat.one_mul, Nat.mod_eq_of_lt hx]
theorem marks_len (L : List Bool) (x : Nat) : ∀ j, (marks a p L x j).length = L.length
  | 0 => rfl
  | j + 1 => by simp only [marks, List.length_set, marks_len L x j]
theorem marks_get {L : List Bool} (hL : L.length = p) (hp : 0 < p) (x : Nat) (y : Nat) (hy : y < p) : ∀ j, (marks a p L x j)[y]? = some true ↔ (L[y]? = some true ∨ ∃ i, i < j ∧ y = orb a p x i)
  | 0 => ⟨fun h => .inl h, fun h => by rcases h with h | ⟨i, h, _⟩; exact h; omega⟩
  | j + 1 => by
    have ih := marks_get hL hp x y hy j
    have hlt : orb a p x j < p := Nat.mod_lt _ hp
    simp only [marks]
    rw [List.getElem?_set]
    by_cases h : orb a p x j = y
    · rw [if_pos h, if_pos (by rw [marks_len, hL]; exact hlt)]
      exact ⟨fun _ => .inr ⟨j, by omega, h.symm⟩, fun _ => rfl⟩
    · rw [if_neg h, ih]
      constructor
      · rintro (h1 | ⟨i, h1, h2⟩)
        · exact .inl h1
        · exact .inr ⟨i, by omega, h2⟩
      · rintro (h1 | ⟨i, h1, h2⟩)
        · exact .inl h1
        · refine .inr ⟨i, ?_, h2⟩
          rcases Nat.lt_or_ge i j with h3 | h3
          · exact h3
          · have : i = j := by omega
            subst this; exact absurd h2.symm h
theorem unseen {L : List Bool} (hc : Closed a p L) (hp : 0 < p) {x : Nat} (hx : x < p) (h : ¬ L[x]? = some true) : ∀ i, ¬ L[orb a p x i]? = some true
  | 0 => by rw [orb_zero hx]; exact h
  | i + 1 => by
    rw [orb_succ]
    exact fun e => unseen hc hp hx h i ((hc _ (Nat.mod_lt _ hp)).2 e)
variable (hp : PrimeN p) (ha : ¬ p ∣ a) (hd0 : 0 < d) (hd : a ^ d % p = 1) (hmin : ∀ j, 0 < j → j < d → a ^ j % p ≠ 1)
include hp ha
theorem pow_no : ∀ j, ¬ p ∣ a ^ j
  | 0, h => by
    rw [Nat.pow_zero] at h
    have := Nat.le_of_dvd (by decide) h
    have := hp.1; omega
  | j + 1, h => by
    rw [Nat.pow_succ] at h
    exact ha (euclid hp h (pow_no j))
include hd0 hd
theorem orb_d {x : Nat} (hx : x < p) : orb a p x d = x := by
  unfold orb
  rw [Nat.mul_mod, hd, Nat.one_mul, Nat.mod_mod, Nat.mod_eq_of_lt hx]
include hmin
theorem orb_ne {x : Nat} (hx0 : 0 < x) (hx : x < p) {i j : Nat} (hij : i < j) (hj : j < d) : orb a p x i ≠ orb a p x j := fun h => by
  have hno : ¬ p ∣ a ^ i * x := fun hv => by
    have h1 := euclid hp hv (pow_no hp ha i)
    have := Nat.le_of_dvd hx0 h1; omega
  have e : 1 * (a ^ i * x) % p = a ^ (j - i) % p * (a ^ i * x) % p := by
    rw [Nat.one_mul, Nat.mod_mul_mod, ← Nat.mul_assoc, ← Nat.pow_add, show j - i + i = j by omega]
    exact h
  exact hmin (j - i) (by omega) (by omega) (cancel hp hno e (by have := hp.1; omega) (Nat.mod_lt _ (by have := hp.1; omega))).symm
theorem marks_step {L : List Bool} (hL : L.length = p) (hc : Closed a p L) {x : Nat} (hx0 : 0 < x) (hx : x < p) (h : ¬ L[x]? = some true) {j : Nat} (hj : j < d) : (marks a p L x j)[orb a p x j]? = some false := by
  have hp0 : 0 < p := by omega
  have hlt : orb a p x j < p := Nat.mod_lt _ hp0
  have hn : ¬ (marks a p L x j)[orb a p x j]? = some true := by
    rw [marks_get hL hp0 x _ hlt]
    rintro (h1 | ⟨i, h1, h2⟩)
    · exact unseen hc hp0 hx h j h1
    · exact orb_ne hp ha hd0 hd hmin hx0 hx h1 hj h2.symm
  have hl : orb a p x j < (marks a p L x j).length := by rw [marks_len, hL]; exact hlt
  rw [List.getElem?_eq_getElem hl] at hn ⊢
  cases hb : (marks a p L x j)[orb a p x j]
  · rfl
  · rw [hb] at hn; exact absurd rfl hn
theorem marks_cnt {L : List Bool} (hL : L.length = p) (hc : Closed a p L) {x : Nat} (hx0 : 0 < x) (hx : x < p) (h : ¬ L[x]? = some true) : ∀ j, j ≤ d → cntB (marks a p L x j) = cntB L + j
  | 0, _ => rfl
  | j + 1, hj => by
    simp only [marks]
    rw [cntB_set _ _ (marks_step hp ha hd0 hd hmin hL hc hx0 hx h (by omega)), marks_cnt hL hc hx0 hx h j (by omega)]; omega
theorem marks_end {L : List Bool} (hL : L.length = p) {x : Nat} (hx : x < p) : (marks a p L x d)[orb a p x d]? = some true := by
  have hp0 : 0 < p := by omega
  rw [orb_d hp ha hd0 hd hx, marks_get hL hp0 x x hx]
  exact .inr ⟨0, hd0, (orb_zero hx).symm⟩
theorem marks_closed {L : List Bool} (hL : L.length = p) (hc : Closed a p L) {x : Nat} (hx : x < p) : Closed a p (marks a p L x d) := fun y hy => by
  have hp0 : 0 < p := by omega
  rw [marks_get hL hp0 x y hy, marks_get hL hp0 x _ (Nat.mod_lt _ hp0), ← hc y hy]
  have back : ∀ u, u < p → a * y % p = a * u % p → y = u := fun u hu e => by
    rw [Nat.mul_comm a y, Nat.mul_comm a u] at e
    exact cancel hp ha e hy hu
  constructor
  · rintro (h | ⟨i, h1, h2⟩)
    · exact .inl h
    · refine .inr ?_
      rcases Nat.lt_or_ge (i + 1) d with h3 | h3
      · exact ⟨i + 1, h3, by rw [orb_succ, ← h2]⟩
      · have : i + 1 = d := by omega
        exact ⟨0, hd0, by rw [orb_zero hx, h2, ← orb_succ, this, orb_d hp ha hd0 hd hx]⟩
  · rintro (h | ⟨i, h1, h2⟩)
    · exact .inl h
    · refine .inr ?_
      cases i with
      | zero =>
        rw [orb_zero hx, ← orb_d hp ha hd0 hd hx, show d = (d - 1) + 1 by omega, orb_succ] at h2
        exact ⟨d - 1, by omega, back _ (Nat.mod_lt _ hp0) h2⟩
      | succ i =>
        rw [orb_succ] at h2
        exact ⟨i, by omega, back _ (Nat.mod_lt _ hp0) h2⟩
end
/-- the orbit of 0 -/
theorem zero_closed {a p : Nat} (hp : PrimeN p) (ha : ¬ p ∣ a) : Closed a p ((List.replicate p false).set 0 true) := fun y hy => by
  have hp0 : 0 < p := by omega
  have g : ∀ z, z < p → (((List.replicate p false).set 0 true)[z]? = some true ↔ z = 0) := fun z hz => by
    rw [List.getElem?_set]
    by_cases h : 0 = z
    · rw [if_pos h, if_pos (by simpa using hp0)]; exact ⟨fun _ => h.symm, fun _ => rfl⟩
    · rw [if_neg h]
      constructor
      · intro e; simp [List.getElem?_replicate, hz] at e
      · intro e; exact absurd e.symm h
  rw [g y hy, g _ (Nat.mod_lt _ hp0)]
  constructor
  · intro h; rw [h, Nat.mul_zero, Nat.zero_mod]
  · intro h
    have hv := Nat.dvd_of_mod_eq_zero h
    have h2 := euclid hp hv ha
    rcases Nat.eq_zero_or_pos y with h0 | h0
    · exact h0
    · have := Nat.le_of_dvd h0 h2; omega
/-- the order of a number, and the character by it -/
theorem order {a p g : Nat} (h3 : 3 ≤ p) (hg : okg p g = true) (h1 : 1 ≤ a) (h2 : a < p) : ∃ d, 0 < d ∧ a ^ d % p = 1 ∧ ∀ j, 0 < j → j < d → a ^ j % p ≠ 1 := by
  obtain ⟨e1, e2⟩ := okg_spec h3 hg
  obtain ⟨k, hk⟩ := e2 a h1 h2
  have hf : a ^ (2 * ((p - 1) / 2)) % p = 1 := by
    rw [Nat.mul_comm, Nat.pow_mul, Nat.pow_mod, hk, gen_pow e1, ← Nat.pow_mod, ← Nat.pow_mul, Nat.mul_comm k 2]
    exact (minus_pow h3 k).1
  obtain ⟨d, _, ⟨b1, b2⟩, b3⟩ := least (fun n => 0 < n ∧ a ^ n % p = 1) (2 * ((p - 1) / 2)) ⟨by omega, hf⟩
  exact ⟨d, b1, b2, fun j h0 hj e => b3 j hj ⟨h0, e⟩⟩
theorem by_order {a p d c : Nat} (hp : PrimeN p) (h3 : 3 ≤ p) (hd0 : 0 < d) (hd : a ^ d % p = 1) (hmin : ∀ j, 0 < j → j < d → a ^ j % p ≠ 1) (hc : p = 1 + d * c) : eN a p = true ↔ (p - (c + 1)) % 2 = 0 := by
  have ho : p % 2 = 1 := by
    rcases Nat.mod_two_eq_zero_or_one p with h | h
    · exact absurd (Nat.dvd_of_mod_eq_zero h) (hp.2 2 (Nat.le_refl _) (by omega))
    · exact h
  have hpc : p - (c + 1) = d * c - c := by omega
  have hpow : ∀ n, a ^ (d * n) % p = 1 := fun n => by
    rw [Nat.pow_mul, Nat.pow_mod, hd, Nat.one_pow]; exact Nat.mod_eq_of_lt (by omega)
  have hle : c ≤ d * c := by
    calc c = 1 * c := (Nat.one_mul c).symm
      _ ≤ d * c := Nat.mul_le_mul_right _ hd0
  rw [eN_iff, hpc]
  rcases Nat.mod_two_eq_zero_or_one c with h | h
  · have e : (p - 1) / 2 = d * (c / 2) := by
      have h4 : d * c = 2 * (d * (c / 2)) := by
        rw [Nat.mul_left_comm]; congr 1; omega
      omega
    rw [e, hpow]
    have h5 : (d * c) % 2 = 0 := by rw [Nat.mul_mod, h, Nat.mul_zero, Nat.zero_mod]
    exact ⟨fun _ => by omega, fun _ => rfl⟩
  · have h5 : (d * c) % 2 = 0 := by omega
    have hde : d % 2 = 0 := by
      rcases Nat.mod_two_eq_zero_or_one d with h6 | h6
      · exact h6
      · rw [Nat.mul_mod, h6, h] at h5; cases h5
    have e : (p - 1) / 2 = d / 2 * c := by
      have h4 : d * c = 2 * (d / 2 * c) := by
        rw [← Nat.mul_assoc]; congr 1; omega
      omega
    have hh : a ^ (d / 2) % p = p - 1 := by
      have hlt := Nat.mod_lt (a ^ (d / 2)) (show 0 < p by omega)
      have hsq : (a ^ (d / 2) % p) * (a ^ (d / 2) % p) % p = 1 := by
        rw [← Nat.mul_mod, ← Nat.pow_add, show d / 2 + d / 2 = d by omega]; exact hd
      have hne : a ^ (d / 2) % p ≠ 1 := hmin (d / 2) (by omega) (by omega)
      generalize a ^ (d / 2) % p = x at hlt hsq hne
      have hx0 : x ≠ 0 := fun e => by rw [e, Nat.mul_zero, Nat.zero_mod] at hsq; omega
      have hv : p ∣ (x - 1) * (x + 1) := by
        have e1 : (x - 1) * (x + 1) = x * x - 1 := by
          obtain ⟨y, rfl⟩ : ∃ y, x = y + 1 := ⟨x - 1, by omega⟩
          rw [show y + 1 - 1 = y by omega]
          simp only [Nat.add_mul, Nat.mul_add]; omega
        rw [e1]
        exact Nat.dvd_of_mod_eq_zero (Nat.sub_mod_eq_zero_of_mod_eq (by rw [hsq, Nat.mod_eq_of_lt (by omega)]))
      by_cases hx1 : p ∣ x - 1
      · have := Nat.le_of_dvd (by omega) hx1; omega
      · have := Nat.le_of_dvd (by omega) (euclid hp hv hx1); omega
    rw [e, Nat.pow_mul, Nat.pow_mod, hh]
    have := (minus_pow h3 (c / 2)).2
    rw [show 2 * (c / 2) + 1 = c by omega] at this
    rw [this]
    constructor <;> intro <;> omega
end Go.AM
