/- Lists of whole numbers as polynomials, plain: coefficients, trimming, sums; what the printed functions' proofs lean on. No program in sight. -/
import Derived.Test.YtmknclgamadphaaPPolymodPrimesx12
namespace Go.Proofs.Ytmknclgamadphaa.MPolymodPrimes
open Go.RowKit Go.Proofs.Ytmknclgamadphaa.PPolymodPrimes Go.Proofs.YtmknclgamadphaaW.PrintWords Go.Proofs.YtmknclgamadphaaW.PrintLast Go.Proofs.YtmknclgamadphaaW.PrintMore
set_option linter.unusedVariables false
set_option linter.unusedSimpArgs false

/-! ### rounds -/
theorem Ev.succ {α : Type} {g : Nat → Option α} {r : α} (h : Ev (fun k => g (k + 1)) r) : Ev g r := Ev.step (fun _ => rfl) h
theorem Ev.pos {α : Type} {c : Prop} [Decidable c] {A B : Nat → Option α} {r : α} (hc : c) (h : Ev A r) : Ev (fun n => if c then A n else B n) r := by
  simpa only [if_pos hc] using h
theorem Ev.neg {α : Type} {c : Prop} [Decidable c] {A B : Nat → Option α} {r : α} (hc : ¬ c) (h : Ev B r) : Ev (fun n => if c then A n else B n) r := by
  simpa only [if_neg hc] using h
theorem Ev.con {α : Type} {a : Option α} {r : α} (h : a = some r) : Ev (fun _ => a) r := ⟨0, fun _ _ => h⟩
theorem Ev.cbind {α β : Type} {a : Option α} {x : α} {f : Nat → α → Option β} {r : β} (h : a = some x) (k : Ev (fun n => f n x) r) : Ev (fun n => a.bind (f n)) r := Ev.bind (Ev.con h) k
theorem Ev.eq {α : Type} {g : Nat → Option α} {r r' : α} (h : Ev g r) (e : r = r') : Ev g r' := e ▸ h
theorem w64 {x : Int} (h0 : -9223372036854775808 ≤ x) (h1 : x ≤ 9223372036854775807) : wrap64 x = x := by unfold wrap64; omega

/-! ### coefficients -/
def co (l : List Int) (i : Nat) : Int := l.getD i 0
theorem rd_co (l : List Int) (i : Int) : rd l i = co l i.toNat := rfl
theorem co_ge {l : List Int} {i : Nat} (h : l.length ≤ i) : co l i = 0 := by simp [co, h]
theorem co_mem {l : List Int} {i : Nat} (h : i < l.length) : co l i ∈ l := by simp [co, h]
theorem co_nil (i : Nat) : co [] i = 0 := rfl
theorem co_zero (a : Int) (l : List Int) : co (a :: l) 0 = a := rfl
theorem co_succ (a : Int) (l : List Int) (i : Nat) : co (a :: l) (i + 1) = co l i := rfl
theorem co_set (l : List Int) (i : Nat) (x : Int) (j : Nat) : co (l.set i x) j = if i = j ∧ i < l.length then x else co l j := by
  by_cases h : i = j
  · subst h
    by_cases hl : i < l.length
    · simp [co, hl]
    · simp [co, hl]
  · simp [co, h]
theorem co_replicate (n i : Nat) : co (List.replicate n 0) i = 0 := by
  by_cases h : i < n <;> simp [co, h]
def tab (n : Nat) (F : Nat → Int) : List Int := (List.range n).map F
theorem tab_length (n : Nat) (F : Nat → Int) : (tab n F).length = n := by simp [tab]
theorem co_tab (n : Nat) (F : Nat → Int) (i : Nat) : co (tab n F) i = if i < n then F i else 0 := by
  by_cases h : i < n <;> simp [tab, co, h]
theorem co_append_left {l m : List Int} {i : Nat} (h : i < l.length) : co (l ++ m) i = co l i := by simp [co, List.getElem?_append_left h]
theorem co_take (l : List Int) (n i : Nat) : co (l.take n) i = if i < n then co l i else 0 := by
  by_cases h : i < n <;> simp [co, List.getElem?_take, h]

/-! ### trimming -/
theorem co_trimZ (l : List Int) : ∀ i, co (trimZ l) i = co l i := by
  induction l with
  | nil => intro i; rfl
  | cons a l ih =>
    intro i
    unfold trimZ
    cases h : trimZ l with
    | nil =>
      rw [h] at ih
      by_cases ha : a = 0
      · simp only [ha, if_true]
        cases i with
        | zero => rfl
        | succ i => rw [co_succ, ← ih i]; rfl
      · simp only [ha, if_false]
        cases i with
        | zero => rfl
        | succ i => rw [co_succ, co_succ, ih i]
    | cons b t =>
      rw [h] at ih
      cases i with
      | zero => rfl
      | succ i => rw [co_succ, co_succ, ih i]
theorem trimZ_zero {l : List Int} (h : ∀ i, co l i = 0) : trimZ l = [] := by
  induction l with
  | nil => rfl
  | cons a l ih =>
    have h0 : a = 0 := h 0
    unfold trimZ
    rw [ih (fun i => h (i + 1))]
    simp [h0]
theorem trimZ_ext {l m : List Int} (h : ∀ i, co l i = co m i) : trimZ l = trimZ m := by
  induction l generalizing m with
  | nil => exact (trimZ_zero (fun i => (h i).symm)).symm
  | cons a l ih =>
    cases m with
    | nil => exact trimZ_zero h
    | cons b m =>
      have h0 : a = b := h 0
      unfold trimZ
      rw [ih (m := m) (fun i => h (i + 1)), h0]
def Tr (l : List Int) : Prop := trimZ l = l
theorem tr_trimZ (l : List Int) : Tr (trimZ l) := trimZ_ext (co_trimZ l)
theorem Tr.ext {l m : List Int} (hl : Tr l) (hm : Tr m) (h : ∀ i, co l i = co m i) : l = m := hl ▸ hm ▸ trimZ_ext h
theorem tr_nil : Tr [] := rfl
theorem trimZ_len (l : List Int) : (trimZ l).length ≤ l.length := by
  induction l with
  | nil => exact Nat.le_refl _
  | cons a l ih =>
    unfold trimZ
    cases h : trimZ l with
    | nil => by_cases ha : a = 0 <;> simp [ha]
    | cons b t => rw [h] at ih; simp only [List.length_cons] at ih ⊢; omega
theorem trimZ_last {l : List Int} (h : trimZ l ≠ []) : co (trimZ l) ((trimZ l).length - 1) ≠ 0 := by
  induction l with
  | nil => exact absurd rfl h
  | cons a l ih =>
    unfold trimZ at h ⊢
    cases e : trimZ l with
    | nil =>
      rw [e] at h
      by_cases ha : a = 0
      · simp [ha] at h
      · simp [ha, co]
    | cons b t =>
      have := ih (by rw [e]; simp)
      rw [e] at this
      simpa [co] using this
theorem tr_of_last {l : List Int} (h : l = [] ∨ co l (l.length - 1) ≠ 0) : Tr l := by
  induction l with
  | nil => rfl
  | cons a l ih =>
    cases l with
    | nil => rcases h with h | h; · simp at h
             · have : a ≠ 0 := by simpa [co] using h
               simp [Tr, trimZ, this]
    | cons b t =>
      have h2 := ih (.inr (by rcases h with h | h; · simp at h
                              · simpa [co] using h))
      unfold Tr at h2 ⊢
      rw [trimZ, h2]
theorem Tr.last {l : List Int} (h : Tr l) (hn : l ≠ []) : co l (l.length - 1) ≠ 0 := by
  have := trimZ_last (l := l) (by rw [h]; exact hn)
  rwa [h] at this
/-- Of a trimmed list: beyond which place all is 0. -/
theorem Tr.len_le {l : List Int} (h : Tr l) {n : Nat} (hz : ∀ i, n ≤ i → co l i = 0) : l.length ≤ n := by
  cases l with
  | nil => exact Nat.zero_le _
  | cons a l =>
    have := h.last (by simp)
    have h2 : ¬ n ≤ (a :: l).length - 1 := fun hn => this (hz _ hn)
    omega
/-- The trimmed list of the first n values of F. -/
def ofF (n : Nat) (F : Nat → Int) : List Int := trimZ (tab n F)
theorem tr_ofF (n : Nat) (F : Nat → Int) : Tr (ofF n F) := tr_trimZ _
theorem co_ofF (n : Nat) (F : Nat → Int) (i : Nat) : co (ofF n F) i = if i < n then F i else 0 := by rw [ofF, co_trimZ, co_tab]
theorem ofF_len (n : Nat) (F : Nat → Int) : (ofF n F).length ≤ n := Nat.le_trans (trimZ_len _) (by rw [tab_length]; exact Nat.le_refl _)
theorem trimZ_ofF {l : List Int} {n : Nat} {F : Nat → Int} (hl : l.length = n) (h : ∀ i, i < n → co l i = F i) : trimZ l = ofF n F :=
  trimZ_ext fun i => by
    rw [co_tab]
    by_cases hi : i < n
    · rw [if_pos hi, h i hi]
    · rw [if_neg hi, co_ge (by omega)]
theorem ofF_ext {n m : Nat} {F G : Nat → Int} (h : ∀ i, (if i < n then F i else 0) = if i < m then G i else 0) : ofF n F = ofF m G := trimZ_ext fun i => by rw [co_tab, co_tab]; exact h i
theorem ofF_same {n : Nat} {F G : Nat → Int} (h : ∀ i, i < n → F i = G i) : ofF n F = ofF n G := ofF_ext fun i => by
  by_cases hi : i < n
  · rw [if_pos hi, if_pos hi, h i hi]
  · rw [if_neg hi, if_neg hi]
theorem ofF_trim {l : List Int} (h : Tr l) : ofF l.length (co l) = l := by
  rw [← trimZ_ofF (l := l) rfl (fun _ _ => rfl)]; exact h

/-! ### polynomials modulo p: the numbers in range, the last one not 0 -/
structure Val (p : Int) (l : List Int) : Prop where
  rng : ∀ i, 0 ≤ co l i ∧ co l i < p
  tr : Tr l
theorem Val.ext {p : Int} {l m : List Int} (hl : Val p l) (hm : Val p m) (h : ∀ i, co l i = co m i) : l = m := hl.tr.ext hm.tr h
theorem val_ofF {p : Int} (hp : 0 < p) (n : Nat) (F : Nat → Int) : Val p (ofF n fun i => F i % p) where
  rng i := by
    rw [co_ofF]
    by_cases hi : i < n
    · rw [if_pos hi]; exact ⟨Int.emod_nonneg _ (by omega), Int.emod_lt_of_pos _ hp⟩
    · rw [if_neg hi]; exact ⟨Int.le_refl _, hp⟩
  tr := tr_ofF _ _
theorem val_nil {p : Int} (hp : 0 < p) : Val p [] := ⟨fun i => by rw [co_nil]; exact ⟨Int.le_refl _, hp⟩, tr_nil⟩
theorem Val.mod {p : Int} {l : List Int} (h : Val p l) (i : Nat) : co l i % p = co l i := Int.emod_eq_of_lt (h.rng i).1 (h.rng i).2

/-! ### sums -/
def sm : Nat → (Nat → Int) → Int
  | 0, _ => 0
  | n + 1, F => sm n F + F n
theorem sm_ext {n : Nat} {F G : Nat → Int} (h : ∀ i, i < n → F i = G i) : sm n F = sm n G := by
  induction n with
  | zero => rfl
  | succ n ih => rw [sm, sm, ih (fun i hi => h i (by omega)), h n (by omega)]
theorem sm_zero {n : Nat} {F : Nat → Int} (h : ∀ i, i < n → F i = 0) : sm n F = 0 := by
  induction n with
  | zero => rfl
  | succ n ih => rw [sm, ih (fun i hi => h i (by omega)), h n (by omega)]; rfl
theorem sm_add (n : Nat) (F G : Nat → Int) : sm n (fun i => F i + G i) = sm n F + sm n G := by
  induction n with
  | zero => rfl
  | succ n ih => rw [sm, sm, sm, ih]; omega
theorem sm_mul (c : Int) (n : Nat) (F : Nat → Int) : sm n (fun i => c * F i) = c * sm n F := by
  induction n with
  | zero => simp [sm]
  | succ n ih => rw [sm, sm, ih, Int.mul_add]
theorem sm_mul' (c : Int) (n : Nat) (F : Nat → Int) : sm n (fun i => F i * c) = sm n F * c := by
  rw [Int.mul_comm, ← sm_mul]; exact sm_ext fun i _ => Int.mul_comm _ _
theorem sm_more {n m : Nat} {F : Nat → Int} (hnm : n ≤ m) (h : ∀ i, n ≤ i → i < m → F i = 0) : sm m F = sm n F := by
  induction m with
  | zero => have : n = 0 := by omega
            rw [this]
  | succ m ih =>
    by_cases e : n = m + 1
    · rw [e]
    · rw [sm, ih (by omega) (fun i h1 h2 => h i h1 (by omega)), h m (by omega) (by omega), Int.add_zero]
/-- The first term apart. -/
theorem sm_first (n : Nat) (F : Nat → Int) : sm (n + 1) F = F 0 + sm n fun i => F (i + 1) := by
  induction n with
  | zero => simp [sm]
  | succ n ih => rw [sm, ih, sm]; omega
/-- Backwards. -/
theorem sm_rev (n : Nat) (F : Nat → Int) : sm n F = sm n fun i => F (n - 1 - i) := by
  induction n generalizing F with
  | zero => rfl
  | succ n ih =>
    rw [sm_first, ih, sm, Int.add_comm]
    congr 1
    · exact sm_ext fun i hi => by congr 1; omega
    · congr 1; omega
theorem sm_swap (n m : Nat) (F : Nat → Nat → Int) : sm n (fun i => sm m fun j => F i j) = sm m fun j => sm n fun i => F i j := by
  induction n with
  | zero => rw [sm]; exact (sm_zero fun _ _ => rfl).symm
  | succ n ih => rw [sm, ih, ← sm_add]; rfl
/-- Congruent terms, congruent sums. -/
theorem sm_mod {p : Int} {n : Nat} {F G : Nat → Int} (h : ∀ i, i < n → F i % p = G i % p) : sm n F % p = sm n G % p := by
  induction n with
  | zero => rfl
  | succ n ih => rw [sm, sm, Int.add_emod, ih (fun i hi => h i (by omega)), h n (by omega), ← Int.add_emod]
theorem sm_one {n k : Nat} {F : Nat → Int} (hk : k < n) (h : ∀ i, i < n → i ≠ k → F i = 0) : sm n F = F k := by
  induction n with
  | zero => omega
  | succ n ih =>
    rw [sm]
    by_cases e : k = n
    · rw [sm_zero (fun i hi => h i (by omega) (by omega)), e, Int.zero_add]
    · rw [ih (by omega) (fun i hi => h i (by omega)), h n (by omega) (by omega), Int.add_zero]
end Go.Proofs.Ytmknclgamadphaa.MPolymodPrimes
