/- Products of polynomials modulo p are associative (plain law). -/
import Derived.Test.YtohmfjmgeecfkaaGreatVLW
import Derived.Test.YtohmfjmgeecfkaaGreatVLQ
import Derived.Test.YtohmfjmgeecfkaaGreatVLD
namespace Go.AM
set_option linter.unusedVariables false
set_option linter.unusedSimpArgs false
/-- the base -/
abbrev BB : Nat := 18446744073709551616
def pk : List Nat → Nat
  | [] => 0
  | x :: l => x + BB * pk l
theorem pk_dig : ∀ (l : List Nat) (k : Nat), (∀ x ∈ l, x < BB) → pk l / BB ^ k % BB = l.getD k 0
  | [], k, h => by simp [pk]
  | x :: l, 0, h => by
    have := h x (by simp)
    simp only [pk, Nat.pow_zero, Nat.div_one, List.getD_cons_zero, Nat.add_mul_mod_self_left]
    exact Nat.mod_eq_of_lt this
  | x :: l, k + 1, h => by
    have := h x (by simp)
    rw [Nat.pow_succ, Nat.mul_comm, ← Nat.div_div_eq_div_mul, List.getD_cons_succ, ← pk_dig l k (fun y hy => h y (by simp [hy]))]
    congr 2
    show (x + BB * pk l) / BB = pk l
    rw [Nat.add_mul_div_left _ _ (by decide), Nat.div_eq_of_lt this, Nat.zero_add]
theorem pk_set : ∀ (l : List Nat) (n a : Nat), n < l.length → pk (l.set n (l.getD n 0 + a)) = pk l + a * BB ^ n
  | [], n, a, h => by simp at h
  | x :: l, 0, a, h => by simp only [List.set_cons_zero, List.getD_cons_zero, pk, Nat.pow_zero]; omega
  | x :: l, n + 1, a, h => by
    simp only [List.set_cons_succ, List.getD_cons_succ, pk]
    rw [pk_set l n a (by simpa using h), Nat.pow_succ, Nat.mul_add]
    rw [show a * (BB ^ n * BB) = BB * (a * BB ^ n) by rw [← Nat.mul_assoc, Nat.mul_comm]]
    omega
theorem pk_rep : ∀ n, pk (List.replicate n 0) = 0
  | 0 => rfl
  | n + 1 => by rw [List.replicate_succ, pk, pk_rep n, Nat.mul_zero]
def rowU (x : Nat) : List Nat → Nat → List Nat → List Nat
  | [], _, o => o
  | y :: g, n, o => rowU x g (n + 1) (o.set n (o.getD n 0 + x * y))
theorem rowU_len (x : Nat) : ∀ (g : List Nat) (n : Nat) (o : List Nat), (rowU x g n o).length = o.length
  | [], _, o => rfl
  | y :: g, n, o => by simp only [rowU]; rw [rowU_len x g]; simp
theorem pk_row (x : Nat) : ∀ (g : List Nat) (n : Nat) (o : List Nat), n + g.length ≤ o.length → pk (rowU x g n o) = pk o + x * pk g * BB ^ n
  | [], n, o, h => by simp [rowU, pk]
  | y :: g, n, o, h => by
    simp only [List.length_cons] at h
    simp only [rowU]
    rw [pk_row x g (n + 1) _ (by simp; omega), pk_set o n _ (by omega), pk, Nat.pow_succ, Nat.add_assoc]
    congr 1
    rw [Nat.mul_add, Nat.add_mul]
    congr 1
    rw [Nat.mul_comm (BB ^ n) BB, ← Nat.mul_assoc, ← Nat.mul_assoc]
    congr 1
    rw [Nat.mul_assoc, Nat.mul_comm (pk g) BB, ← Nat.mul_assoc]
theorem getD_set (o : List Nat) (n i v : Nat) : (o.set n v).getD i 0 = if i = n ∧ n < o.length then v else o.getD i 0 := by
  rw [List.getD_eq_getElem?_getD, List.getElem?_set, List.getD_eq_getElem?_getD]
  by_cases h : n = i
  · subst h
    by_cases h2 : n < o.length
    · simp [h2]
    · simp [h2, List.getElem?_eq_none (Nat.le_of_not_lt h2)]
  · rw [if_neg h, if_neg (fun e => h e.1.symm)]
theorem row_low (x : Nat) : ∀ (g : List Nat) (n : Nat) (o : List Nat) (i : Nat), i < n → (rowU x g n o).getD i 0 = o.getD i 0
  | [], n, o, i, h => rfl
  | y :: g, n, o, i, h => by
    simp only [rowU]
    rw [row_low x g (n + 1) _ i (by omega), getD_set, if_neg (by omega)]
theorem row_bd (x C : Nat) : ∀ (g : List Nat) (n : Nat) (o : List Nat) (i : Nat), (∀ y ∈ g, x * y ≤ C) → (rowU x g n o).getD i 0 ≤ o.getD i 0 + C
  | [], n, o, i, h => Nat.le_add_right _ _
  | y :: g, n, o, i, h => by
    simp only [rowU]
    rcases Nat.lt_or_ge i (n + 1) with h1 | h1
    · rw [row_low x g (n + 1) _ i h1, getD_set]
      have := h y (by simp)
      split
      · rename_i h2; rw [h2.1]; omega
      · omega
    · have := row_bd x C g (n + 1) (o.set n (o.getD n 0 + x * y)) i (fun z hz => h z (by simp [hz]))
      rw [getD_set, if_neg (by omega)] at this
      exact this
def mulU (g : List Nat) : List Nat → Nat → List Nat → List Nat
  | [], _, o => o
  | x :: f, n, o => mulU g f (n + 1) (rowU x g n o)
theorem mulU_len (g : List Nat) : ∀ (f : List Nat) (n : Nat) (o : List Nat), (mulU g f n o).length = o.length
  | [], _, o => rfl
  | y :: f, n, o => by simp only [mulU]; rw [mulU_len g f, rowU_len]
theorem pk_mul (g : List Nat) : ∀ (f : List Nat) (n : Nat) (o : List Nat), n + f.length + g.length ≤ o.length + 1 → pk (mulU g f n o) = pk o + pk f * pk g * BB ^ n
  | [], n, o, h => by simp [mulU, pk]
  | x :: f, n, o, h => by
    simp only [List.length_cons] at h
    simp only [mulU]
    rw [pk_mul g f (n + 1) _ (by rw [rowU_len]; omega), pk_row x g n o (by omega), pk, Nat.pow_succ, Nat.add_assoc]
    congr 1
    rw [Nat.add_mul, Nat.add_mul]
    congr 1
    rw [Nat.mul_comm (BB ^ n) BB, ← Nat.mul_assoc]
    congr 1
    rw [Nat.mul_comm, ← Nat.mul_assoc]
theorem mul_bd (C : Nat) (g : List Nat) : ∀ (f : List Nat) (n : Nat) (o : List Nat) (i : Nat), (∀ x ∈ f, ∀ y ∈ g, x * y ≤ C) → (mulU g f n o).getD i 0 ≤ o.getD i 0 + f.length * C
  | [], n, o, i, h => by simp [mulU]
  | x :: f, n, o, i, h => by
    simp only [mulU, List.length_cons]
    have h1 := mul_bd C g f (n + 1) (rowU x g n o) i (fun z hz => h z (by simp [hz]))
    have h2 := row_bd x C g n o i (h x (by simp))
    rw [Nat.add_mul]; omega
theorem getD_map (p : Nat) (o : List Nat) (n : Nat) : (o.map (· % p)).getD n 0 = o.getD n 0 % p := by
  rw [List.getD_eq_getElem?_getD, List.getElem?_map, List.getD_eq_getElem?_getD]
  cases o[n]? with
  | none => simp
  | some v => rfl
theorem row_mod (p x : Nat) : ∀ (g : List Nat) (n : Nat) (o : List Nat), rowS p x g n (o.map (· % p)) = (rowU x g n o).map (· % p)
  | [], n, o => rfl
  | y :: g, n, o => by
    simp only [rowS, rowU]
    rw [← row_mod p x g (n + 1), List.map_set, getD_map]
    congr 2
    show _ = (o.getD n 0 + x * y) % p
    rw [Nat.mod_add_mod]
theorem mul_mod (p : Nat) (g : List Nat) : ∀ (f : List Nat) (n : Nat) (o : List Nat), mulS p g f n (o.map (· % p)) = (mulU g f n o).map (· % p)
  | [], n, o => rfl
  | x :: f, n, o => by
    simp only [mulS, mulU]
    rw [row_mod, mul_mod p g f]
theorem lt_of_getD {l : List Nat} {b : Nat} (h : ∀ i, l.getD i 0 < b) : ∀ x ∈ l, x < b := fun x hx => by
  obtain ⟨i, hi, rfl⟩ := List.getElem_of_mem hx
  have := h i
  rwa [List.getD_eq_getElem?_getD, List.getElem?_eq_getElem hi] at this
theorem sq_le {p x y : Nat} (hx : x ≤ p) (hy : y ≤ p) (hp : p ≤ 65536) : x * y ≤ 4294967296 := by
  calc x * y ≤ 65536 * y := Nat.mul_le_mul_right _ (by omega)
    _ ≤ 65536 * 65536 := Nat.mul_le_mul_left _ (by omega)
    _ ≤ _ := by decide
theorem mulL_dig {p : Nat} {f g : List Nat} (hp : p ≤ 65536) (hf : Lt p f) (hg : Lt p g) (lf : f.length ≤ 200000) (ng : 0 < g.length) (k : Nat) : (mulL p f g).getD k 0 = pk f * pk g / BB ^ k % BB % p := by
  have e : mulL p f g = (mulU g f 0 (List.replicate (f.length + g.length - 1) 0)).map (· % p) := by
    rw [← mul_mod]
    unfold mulL
    congr 1
    rw [List.map_replicate, Nat.zero_mod]
  rw [e, getD_map]
  have hpk := pk_mul g f 0 (List.replicate (f.length + g.length - 1) 0) (by rw [List.length_replicate]; omega)
  rw [pk_rep, Nat.zero_add, Nat.pow_zero, Nat.mul_one] at hpk
  rw [← hpk, pk_dig]
  apply lt_of_getD
  intro i
  have h1 := mul_bd 4294967296 g f 0 (List.replicate (f.length + g.length - 1) 0) i (fun x hx y hy => sq_le (Nat.le_of_lt (hf x hx)) (Nat.le_of_lt (hg y hy)) hp)
  have h2 : (List.replicate (f.length + g.length - 1) 0).getD i 0 = 0 := by
    rw [List.getD_eq_getElem?_getD, List.getElem?_replicate]; split <;> rfl
  rw [h2] at h1
  show _ < 18446744073709551616
  omega

theorem pk_eq : ∀ l, pk l = Q.pk l
  | [] => rfl
  | x :: l => by simp only [pk, Q.pk, pk_eq l]
theorem cv_nil : ∀ (f : List Nat) (k : Nat), Q.cv f [] k = 0
  | [], k => rfl
  | x :: f, 0 => by simp [Q.cv]
  | x :: f, k + 1 => by simp [Q.cv, cv_nil f k]
theorem Lt.getD {p : Nat} {f : List Nat} (h : Lt p f) (hp : p ≤ 65536) (i : Nat) : f.getD i 0 ≤ 65535 := by
  rw [List.getD_eq_getElem?_getD]
  cases hi : f[i]? with
  | none => simp
  | some x => have := h x (List.mem_of_getElem? hi); simp; omega
theorem mulL_cv {p : Nat} {f g : List Nat} (hp : p ≤ 65536) (hf : Lt p f) (hg : Lt p g) (lf : f.length ≤ 200000) (ng : 0 < g.length) (k : Nat) : (mulL p f g).getD k 0 = Q.cv f g k % p := by
  rw [mulL_dig hp hf hg lf ng k, pk_eq, pk_eq, ← Q.pk_mul]
  have : Q.pk (Q.mulN f g) / Q.BB ^ k % Q.BB = (Q.mulN f g).getD k 0 := Q.pk_dig _ _ (Q.lt_of_getD fun i => by
    rw [Q.mul_getD]
    have h1 := Q.cv_le (hg.getD hp) f i (hf.getD hp)
    have h2 : f.length * (65535 * 65535) ≤ 200000 * (65535 * 65535) := Nat.mul_le_mul_right _ lf
    show _ < 18446744073709551616
    omega)
  rw [show Q.pk (Q.mulN f g) / BB ^ k % BB = Q.pk (Q.mulN f g) / Q.BB ^ k % Q.BB from rfl, this, Q.mul_getD]
theorem trimN_far (l : List Nat) : ∀ n k, trimN l n ≤ k → k < n → l.getD k 0 = 0
  | 0, k, h1, h2 => by omega
  | n + 1, k, h1, h2 => by
    unfold trimN at h1
    cases hb : Nat.beq (l.getD n 0) 0 with
    | true =>
      rw [hb] at h1
      have h1 : trimN l n ≤ k := h1
      by_cases hk : k = n
      · rw [hk]; exact Nat.eq_of_beq_eq_true hb
      · exact trimN_far l n k h1 (by omega)
    | false => rw [hb] at h1; have h1 : n + 1 ≤ k := h1; omega
theorem getD_far {l : List Nat} {k : Nat} (h : l.length ≤ k) : l.getD k 0 = 0 := by rw [List.getD_eq_getElem?_getD, List.getElem?_eq_none h]; rfl
theorem take_getD (l : List Nat) (n k : Nat) : (l.take n).getD k 0 = if k < n then l.getD k 0 else 0 := by
  by_cases h : k < n
  · rw [if_pos h, List.getD_eq_getElem?_getD, List.getElem?_take_of_lt h, ← List.getD_eq_getElem?_getD]
  · rw [if_neg h, getD_far (by rw [List.length_take]; omega)]
theorem mulT_dig {p : Nat} {f g : List Nat} (hp : p ≤ 65536) (hf : Lt p f) (hg : Lt p g) (lf : f.length ≤ 200000) (k : Nat) : (mulT p f g).getD k 0 = Q.cv f g k % p := by
  by_cases hz : f.length = 0 ∨ g.length = 0
  · rw [mulT_zero p hz]
    rcases hz with h | h
    · rw [List.eq_nil_of_length_eq_zero h]; simp [Q.cv]
    · rw [List.eq_nil_of_length_eq_zero h, cv_nil]; simp
  · rw [mulT, if_neg hz, take_getD, ← mulL_cv hp hf hg lf (by omega) k]
    split
    · rfl
    · rename_i h
      rcases Nat.lt_or_ge k (mulL p f g).length with h1 | h1
      · exact (trimN_far _ _ k (by omega) h1).symm
      · exact (getD_far h1).symm
theorem eq_of_dig {a b : List Nat} (ha : Trimd a) (hb : Trimd b) (h : ∀ k, a.getD k 0 = b.getD k 0) : a = b := by
  have key : ∀ {a b : List Nat}, Trimd b → (∀ k, a.getD k 0 = b.getD k 0) → b.length ≤ a.length := fun {a b} hb h => by
    rcases Nat.lt_or_ge a.length b.length with h1 | h1
    · have h2 := hb (by omega)
      rw [← h, getD_far (by omega)] at h2
      exact absurd rfl h2
    · exact h1
  have hl : a.length = b.length := Nat.le_antisymm (key ha fun k => (h k).symm) (key hb h)
  refine List.ext_getElem hl fun i h1 h2 => ?_
  have := h i
  rw [List.getD_eq_getElem?_getD, List.getD_eq_getElem?_getD, List.getElem?_eq_getElem h1, List.getElem?_eq_getElem h2] at this
  exact this
theorem pk_zero : ∀ m : List Nat, (∀ i, m.getD i 0 = 0) → Q.pk m = 0
  | [], h => rfl
  | y :: m, h => by
    have h0 : y = 0 := by simpa using h 0
    simp only [Q.pk]
    rw [h0, pk_zero m (fun i => by simpa using h (i + 1)), Nat.mul_zero]
theorem pk_split (p : Nat) : ∀ (w m : List Nat), (∀ i, m.getD i 0 = w.getD i 0 % p) → Q.pk w = Q.pk m + p * Q.pk (w.map (· / p))
  | [], m, h => by
    rw [pk_zero m fun i => by simpa using h i]; simp [Q.pk]
  | x :: w, m, h => by
    have h0 : m.getD 0 0 = x % p := by simpa using h 0
    have h1 := Nat.div_add_mod x p
    cases m with
    | nil =>
      have ih := pk_split p w [] fun i => by simpa using h (i + 1)
      have h0 : 0 = x % p := h0
      simp only [Q.pk, List.map_cons, Nat.mul_add] at ih ⊢
      rw [ih, Nat.zero_add, Nat.mul_left_comm p Q.BB]; omega
    | cons y m =>
      have ih := pk_split p w m fun i => by simpa using h (i + 1)
      have h0 : y = x % p := h0
      simp only [Q.pk, List.map_cons, Nat.mul_add] at ih ⊢
      rw [ih, Nat.mul_add, Nat.mul_left_comm p Q.BB]; omega
theorem addN_len : ∀ a b : List Nat, (Q.addN a b).length ≤ max a.length b.length
  | [], b => by simp [Q.addN]
  | x :: a, [] => by simp [Q.addN]
  | x :: a, y :: b => by
    have := addN_len a b
    simp only [Q.addN, List.length_cons]; omega
theorem mulN_len : ∀ f g : List Nat, (Q.mulN f g).length ≤ f.length + g.length
  | [], g => by simp [Q.mulN]
  | x :: f, g => by
    have h1 := addN_len (g.map (x * ·)) (0 :: Q.mulN f g)
    have h2 := mulN_len f g
    simp only [List.length_map, List.length_cons] at h1 ⊢
    simp only [Q.mulN]; omega
theorem quo_le {p : Nat} {f g : List Nat} (hp : p ≤ 65536) (hf : Lt p f) (hg : Lt p g) (lf : f.length ≤ 100) (i : Nat) : p * ((Q.mulN f g).map (· / p)).getD i 0 ≤ 429483622500 := by
  have h1 : ((Q.mulN f g).map (· / p)).getD i 0 = (Q.mulN f g).getD i 0 / p := by
    rw [List.getD_eq_getElem?_getD, List.getElem?_map, List.getD_eq_getElem?_getD]
    cases (Q.mulN f g)[i]? with
    | none => simp
    | some v => rfl
  rw [h1, Q.mul_getD]
  have h2 := Q.cv_le (hg.getD hp) f i (hf.getD hp)
  have h3 : f.length * (65535 * 65535) ≤ 100 * (65535 * 65535) := Nat.mul_le_mul_right _ lf
  have h4 := Nat.mul_div_le (Q.cv f g i) p
  omega
theorem cv_scale (p : Nat) : ∀ (f g : List Nat) (k : Nat), p * Q.cv f g k = Q.cv (f.map (p * ·)) g k
  | [], g, k => by simp [Q.cv]
  | x :: f, g, 0 => by simp only [Q.cv, List.map_cons, Nat.mul_assoc]
  | x :: f, g, k + 1 => by simp only [Q.cv, List.map_cons, Nat.mul_add, Nat.mul_assoc, cv_scale p f g k]
theorem cv_scaleR (p : Nat) : ∀ (f g : List Nat) (k : Nat), p * Q.cv f g k = Q.cv f (g.map (p * ·)) k
  | [], g, k => by simp [Q.cv]
  | x :: f, g, 0 => by simp only [Q.cv, Q.map_getD]; rw [Nat.mul_left_comm]
  | x :: f, g, k + 1 => by simp only [Q.cv, Q.map_getD, Nat.mul_add, cv_scaleR p f g k]; rw [Nat.mul_left_comm]
theorem left_dig {p : Nat} {f g h : List Nat} (h0 : 0 < p) (hp : p ≤ 65536) (hf : Lt p f) (hg : Lt p g) (hh : Lt p h) (lf : f.length ≤ 100) (lg : g.length ≤ 100) (lh : h.length ≤ 100) (k : Nat) : (mulT p (mulT p f g) h).getD k 0 = Q.pk f * Q.pk g * Q.pk h / Q.BB ^ k % Q.BB % p := by
  have lm := mulT_len p f g
  have hm := mulT_lt h0 f g
  rw [mulT_dig hp hm hh (by omega) k]
  have e := pk_split p (Q.mulN f g) (mulT p f g) fun i => by rw [mulT_dig hp hf hg (by omega) i, Q.mul_getD]
  rw [← Q.pk_mul f g, e, Nat.add_mul, Nat.mul_assoc, ← Q.pk_mul, ← Q.pk_mul, ← Q.pk_map, ← Q.pk_add]
  have hd : ∀ i, (Q.addN (Q.mulN (mulT p f g) h) ((Q.mulN ((Q.mulN f g).map (· / p)) h).map (p * ·))).getD i 0 = Q.cv (mulT p f g) h i + p * Q.cv ((Q.mulN f g).map (· / p)) h i := fun i => by
    rw [Q.add_getD, Q.map_getD, Q.mul_getD, Q.mul_getD]
  rw [Q.pk_dig _ _ (Q.lt_of_getD fun i => by
    rw [hd i, cv_scale]
    have h1 := Q.cv_le (hh.getD hp) (mulT p f g) i (hm.getD hp)
    have h2 : (mulT p f g).length * (65535 * 65535) ≤ 200 * (65535 * 65535) := Nat.mul_le_mul_right _ (by omega)
    have h3 := Q.cv_le (a := 429483622500) (hh.getD hp) (((Q.mulN f g).map (· / p)).map (p * ·)) i (fun j => by rw [Q.map_getD]; exact quo_le hp hf hg lf j)
    have h5 := mulN_len f g
    rw [List.length_map, List.length_map] at h3
    have h4 : (Q.mulN f g).length * (429483622500 * 65535) ≤ 200 * (429483622500 * 65535) := Nat.mul_le_mul_right _ (by omega)
    show _ < 18446744073709551616
    omega), hd k, Nat.add_mul_mod_self_left]
theorem right_dig {p : Nat} {f g h : List Nat} (h0 : 0 < p) (hp : p ≤ 65536) (hf : Lt p f) (hg : Lt p g) (hh : Lt p h) (lf : f.length ≤ 100) (lg : g.length ≤ 100) (lh : h.length ≤ 100) (k : Nat) : (mulT p f (mulT p g h)).getD k 0 = Q.pk f * Q.pk g * Q.pk h / Q.BB ^ k % Q.BB % p := by
  have hm := mulT_lt h0 g h
  rw [mulT_dig hp hf hm (by omega) k]
  have e := pk_split p (Q.mulN g h) (mulT p g h) fun i => by rw [mulT_dig hp hg hh (by omega) i, Q.mul_getD]
  rw [Nat.mul_assoc, ← Q.pk_mul g h, e, Nat.mul_add, Nat.mul_left_comm, ← Q.pk_mul, ← Q.pk_mul, ← Q.pk_map, ← Q.pk_add]
  have hd : ∀ i, (Q.addN (Q.mulN f (mulT p g h)) ((Q.mulN f ((Q.mulN g h).map (· / p))).map (p * ·))).getD i 0 = Q.cv f (mulT p g h) i + p * Q.cv f ((Q.mulN g h).map (· / p)) i := fun i => by
    rw [Q.add_getD, Q.map_getD, Q.mul_getD, Q.mul_getD]
  rw [Q.pk_dig _ _ (Q.lt_of_getD fun i => by
    rw [hd i, cv_scaleR]
    have h1 := Q.cv_le (hm.getD hp) f i (hf.getD hp)
    have h2 : f.length * (65535 * 65535) ≤ 200 * (65535 * 65535) := Nat.mul_le_mul_right _ (by omega)
    have h3 := Q.cv_le (b := 429483622500) (g := ((Q.mulN g h).map (· / p)).map (p * ·)) (fun j => by rw [Q.map_getD]; exact quo_le hp hg hh lg j) f i (hf.getD hp)
    have h4 : f.length * (65535 * 429483622500) ≤ 200 * (65535 * 429483622500) := Nat.mul_le_mul_right _ (by omega)
    show _ < 18446744073709551616
    omega), hd k, Nat.add_mul_mod_self_left]
theorem mulT_assoc {p : Nat} {f g h : List Nat} (h0 : 0 < p) (hp : p ≤ 65536) (hf : Lt p f) (hg : Lt p g) (hh : Lt p h) (lf : f.length ≤ 100) (lg : g.length ≤ 100) (lh : h.length ≤ 100) : mulT p (mulT p f g) h = mulT p f (mulT p g h) :=
  eq_of_dig (mulT_trim _ _ _) (mulT_trim _ _ _) fun k => by rw [left_dig h0 hp hf hg hh lf lg lh, right_dig h0 hp hf hg hh lf lg lh]
theorem cv_one : ∀ (f : List Nat) (k : Nat), Q.cv f [1] k = f.getD k 0
  | [], k => by simp [Q.cv]
  | x :: f, 0 => by simp [Q.cv]
  | x :: f, k + 1 => by simp [Q.cv, cv_one f k]
theorem mulT_one {p : Nat} {o : List Nat} (h1 : 1 < p) (hp : p ≤ 65536) (ho : Lt p o) (to : Trimd o) (lo : o.length ≤ 100) : mulT p o [1] = o :=
  eq_of_dig (mulT_trim _ _ _) to fun k => by
    rw [mulT_dig hp ho (fun x hx => by rw [List.mem_singleton] at hx; omega) (by omega), cv_one]
    rcases Nat.lt_or_ge k o.length with h | h
    · exact Nat.mod_eq_of_lt (ho _ (List.mem_of_getElem? (getD_of h)))
    · rw [getD_far h]; exact Nat.zero_mod p
theorem mulI_succ (p : Nat) (P : List Nat) : ∀ (n : Nat) (o : List Nat), mulI p P (n + 1) o = mulT p (mulI p P n o) P
  | 0, o => rfl
  | n + 1, o => mulI_succ p P n (mulT p o P)
theorem mulI_trim (p : Nat) (P : List Nat) : ∀ (n : Nat) (o : List Nat), Trimd o → Trimd (mulI p P n o)
  | 0, o, h => h
  | n + 1, o, h => mulI_trim p P n _ (mulT_trim _ _ _)
theorem pow_eq {p : Nat} {P o : List Nat} (h1 : 1 < p) (hp : p ≤ 65536) (hP : Lt p P) (lP : P.length ≤ 100) (ho : Lt p o) (to : Trimd o) (lo : o.length ≤ 100) : ∀ n, n * (P.length - 1) ≤ 90 → mulT p o (powL p P n) = mulI p P n o
  | 0, h => mulT_one h1 hp ho to lo
  | n + 1, h => by
    rw [Nat.add_mul] at h
    have hl := powL_len p (P := P) n
    show mulT p o (mulT p (powL p P n) P) = _
    rw [← mulT_assoc (by omega) hp ho (powL_lt h1 P n) hP lo (by omega) lP, pow_eq h1 hp hP lP ho to lo n (by omega), mulI_succ]
theorem prod_eq {p : Nat} (h1 : 1 < p) (hp : p ≤ 65536) : ∀ (ws : List Rw) (o : List Nat), (∀ r ∈ ws, r.l.length ≤ 65 ∧ Lt p r.l) → Lt p o → Trimd o → o.length + degS ws ≤ 90 → prodP p ws o = prodR p ws o
  | [], o, hw, ho, to, hl => rfl
  | r :: ws, o, hw, ho, to, hl => by
    simp only [degS] at hl
    obtain ⟨w1, w2⟩ := hw r (by simp)
    show prodP p ws (mulI p r.l r.m o) = prodR p ws (mulT p o (powL p r.l r.m))
    rw [pow_eq h1 hp w2 (by omega) ho to (by omega) r.m (by omega)]
    have := mulI_len p r.l r.m o
    exact prod_eq h1 hp ws _ (fun s hs => hw s (by simp [hs])) (mulI_lt (by omega) _ _ _ ho) (mulI_trim _ _ _ _ to) (by omega)
theorem out_eq (p uu : Nat) (ws : List Rw) : outP p uu ws = outR p uu ws := by
  unfold outP outR
  by_cases h : fullP p uu ws
  · rw [if_pos h, if_pos h]
    obtain ⟨a1, a2, a3, a4, a5, a6⟩ := h
    have hp := pB_lt a1
    have hs := scan_ok a4
    rw [Bool.or_eq_false_iff] at a5
    have hu : uu ≠ 0 := of_decide_eq_false a5.1
    exact prod_eq (by omega) (by omega) ws [uu] (fun r hr => ⟨(hs r hr).1, (hs r hr).2.1⟩) (fun x hx => by rw [List.mem_singleton] at hx; omega) (fun _ => hu) (by show 1 + degS ws ≤ 90; omega)
  · rw [if_neg h, if_neg h]
theorem out_len (p uu : Nat) (ws : List Rw) : (outR p uu ws).length ≤ 500000 := by
  have key : ∀ (ws : List Rw) (o : List Nat), (prodR p ws o).length ≤ o.length + degS ws := fun ws => by
    induction ws with
    | nil => intro o; exact Nat.le_add_right _ _
    | cons r ws ih =>
      intro o
      have h1 := ih (mulT p o (powL p r.l r.m))
      have h2 := mulP_len p o r.l r.m
      simp only [degS]
      show (prodR p ws (mulT p o (powL p r.l r.m))).length ≤ _
      omega
  unfold outR
  by_cases h : fullP p uu ws
  · rw [if_pos h]
    have h1 := key ws [uu]
    have h2 : [uu].length = 1 := rfl
    have := h.2.2.2.2.2
    omega
  · rw [if_neg h]; simp
end Go.AM

/- ModfactorProducts: the law on rows of rows. -/
namespace Go.AM
open Go.Proofs
set_option linter.unusedVariables false
set_option linter.unusedSimpArgs false
set_option linter.constructorNameAsVariable false
set_option maxRecDepth 100000
noncomputable section
variable {S S' : St}
def L1006_0 : CS 12 := (cSeq (cSeq (cReg fun kn A B C D E F G H I J K L S => pFa 1 C (fun a0 => pLd a0 S (fun a1 => pLen a1 (fun a2 => pLss E a2 (fun a3 => kn A B C D E a3 G H I J K L S))))) (cCond (fun x y A B C D E F G H I J K L S => pIf F (x A B C D E F G H I J K L S) (y A B C D E F G H I J K L S)) cSkip (cExit 0))) (cSeq (cBlock 1 (cSeq (cReg fun kn A B C D E F G H I J K L S => pFa 1 C (fun a0 => pLd a0 S (fun a1 => pIdx 2 a1 E (fun a2 => pFa 0 a2 (fun a3 => pLd a3 S (fun a4 => pLen a4 (fun a5 => pGtr a5 (.i .i64 80) (fun a6 => kn A B C D E F a6 H I J K L S)))))))) (cCond (fun x y A B C D E F G H I J K L S => pIf G (x A B C D E F G H I J K L S) (y A B C D E F G H I J K L S)) (cSeq (cReg fun kn A B C D E F G H I J K L S => kn A B C D E F G H I J K (.b true) S) cRet) cSkip))) (cReg fun kn A B C D E F G H I J K L S => pAdd E (.i .i64 1) (fun a0 => kn A B C D a0 F G H I J K L S))))
def H1006_ (f11 : Gn 0) (f27 : Gn 2) (f1025 : Gn 2) (f1026 : Gn 2) (I0 : CS 12) : CS 12 := (cSeq (cReg fun kn A B C D E F G H I J K L S => pBox B S (fun a0 S => kn A B a0 D E F G H I J K (.b false) S)) (cSeq (cSeq (cReg fun kn A B C D E F G H I J K L S => f11 S (fun a0 S => pNot a0 (fun a1 => pGd a1 false (fun c => pFa 1 C (fun v => c v S)) S (fun a2 S => pGd a1 false (fun c => pLd a2 S (fun v => c v S)) S (fun a3 S => pGd a1 false (fun c => pLen a3 (fun v => c v S)) S (fun a4 S => pGd a1 false (fun c => pGtr a4 (.i .i64 300) (fun v => c v S)) S (fun a5 S => pPick a1 (.b true) a5 (fun a6 => kn A B C a6 E F G H I J K L S)))))))) (cCond (fun x y A B C D E F G H I J K L S => pIf D (x A B C D E F G H I J K L S) (y A B C D E F G H I J K L S)) (cSeq (cReg fun kn A B C D E F G H I J K L S => f11 S (fun a0 S => kn A B C D E F G H I J K a0 S)) cRet) cSkip)) (cSeq (cSeq (cReg fun kn A B C D E F G H I J K L S => kn A B C D (.i .i64 0) F G H I J K L S) I0) (cSeq (cReg fun kn A B C D E F G H I J K L S => pLdn 2 C S (fun a0 => f1025 A a0 S (fun a1 S => pExt a1 0 (fun a2 => pExt a1 1 (fun a3 => kn A B C D E F G a2 I a3 K L S))))) (cSeq (cReg fun kn A B C D E F G H I J K L S => pLdn 2 C S (fun a0 => f1026 A a0 S (fun a1 S => pExt a1 0 (fun a2 => pExt a1 1 (fun a3 => kn A B C D E F G H a2 J a3 L S))))) (cSeq (cReg fun kn A B C D E F G H I J K L S => f27 H I S (fun a0 S => pGd a0 true (fun c => c J S) S (fun a1 S => pGd a0 true (fun c => c K S) S (fun a2 S => pGd a0 true (fun c => pEql a1 a2 (fun v => c v S)) S (fun a3 S => pPick a0 a3 (.b false) (fun a4 => kn A B C D E F G H I J K a4 S)))))) cRet))))))
theorem C1006_eq (f11 : Gn 0) (f27 : Gn 2) (f1025 : Gn 2) (f1026 : Gn 2) : C1006 f11 f27 f1025 f1026 = H1006_ f11 f27 f1025 f1026 (cBlock 0 (cLoop L1006_0)) := by rfl
-- p0 p1  | A B v2 D E F G H I J K L
section
variable (K_ : Fn 12) (kx : Nat → Fn 12) (kr : Fn 12) (A B C D E F G H I J K L c1 lv n q q0 w nw j_ : V) (S : St)
  (g1 : ∀ c, pFa 1 C c = c c1) (g2 : ∀ c, pLd c1 S c = c lv) (g3 : ∀ c, pLen lv c = c n)
include g1 g2 g3
theorem z_end (h1 : ∀ c, pLss E n c = c (.b false)) : L1006_0 K_ kx kr A B C D E F G H I J K L S = kx 0 A B C D E (.b false) G H I J K L S := by
  simp only [L1006_0, cSeq, cReg, cCond, cBlock, cSkip, cExit, cRet,  g1, g2, g3, h1, ifF]
variable (h1 : ∀ c, pLss E n c = c (.b true)) (h2 : ∀ c, pIdx 2 lv E c = c q) (h3 : ∀ c, pFa 0 q c = c q0) (h4 : ∀ c, pLd q0 S c = c w) (h5 : ∀ c, pLen w c = c nw)
include h1 h2 h3 h4 h5
theorem z_hit (h6 : ∀ c, pGtr nw (nn 80) c = c (.b true)) : L1006_0 K_ kx kr A B C D E F G H I J K L S = kr A B C D E (.b true) (.b true) H I J K (.b true) S := by
  simp only [L1006_0, cSeq, cReg, cCond, cBlock, cSkip, cExit, cRet,  g1, g2, g3, h1, h2, h3, h4, h5, h6, ifT]
theorem z_go (h6 : ∀ c, pGtr nw (nn 80) c = c (.b false)) (h7 : ∀ c, pAdd E (nn 1) c = c j_) : L1006_0 K_ kx kr A B C D E F G H I J K L S = K_ A B C D j_ (.b true) (.b false) H I J K L S := by
  simp only [L1006_0, cSeq, cReg, cCond, cBlock, cSkip, cExit, cRet,  g1, g2, g3, h1, h2, h3, h4, h5, h6, h7, ifT, ifF]
end
section
variable (f27 : Gn 2) (f1025 f1026 : Gn 2) (I0 : CS 12) (K_ : Fn 12) (kx : Nat → Fn 12) (kr : Fn 12) (A B C D E F G H I J K L b b1 lv n x f g e t1 t2 t3 : V) (k : Cont) (S S1 S2 S3 : St)
  (hkr : kr = fun A B C D E F G H I J K L S => k L S)
  (h1 : ∀ k, pBox B S k = k b S1) (h2 : ∀ c, pFa 1 b c = c b1) (h3 : ∀ c, pLd b1 S1 c = c lv) (h4 : ∀ c, pLen lv c = c n)
include hkr h1 h2 h3 h4
theorem y_many (h5 : ∀ c, pGtr n (nn 300) c = c (.b true)) : H1006_ sayT f27 f1025 f1026 I0 K_ kx kr A B C D E F G H I J K L S = k (.b true) S1 := by
  subst hkr
  simp only [H1006_, cSeq, cReg, cCond, cBlock, cSkip, cExit, cRet, sayT,  h1, h2, h3, h4, h5, pNot_t, pGd_ff, pPick_f, ifT]
variable (h5 : ∀ c, pGtr n (nn 300) c = c (.b false))
include h5
theorem y_long (hL : ∀ (kn : Fn 12) (kx : Nat → Fn 12), I0 kn kx kr A B b (.b false) (nn 0) F G H I J K (.b false) S1 = k (.b true) S1) : H1006_ sayT f27 f1025 f1026 I0 K_ kx kr A B C D E F G H I J K L S = k (.b true) S1 := by
  subst hkr
  simp only [H1006_, cSeq, cReg, cCond, cBlock, cSkip, cExit, cRet, sayT,  h1, h2, h3, h4, h5, hL, pNot_t, pGd_ff, pPick_f, ifF]
theorem y_go (hL : ∀ (kn : Fn 12) (kx : Nat → Fn 12) (kr : Fn 12), I0 kn kx kr A B b (.b false) (nn 0) F G H I J K (.b false) S1 = kn A B b (.b false) t1 t2 t3 H I J K (.b false) S1) (h6 : ∀ c, pLdn 2 b S1 c = c x) (h7 : ∀ k, f1025 A x S1 k = k (.tu [f, e]) S2) (h8 : ∀ c, pLdn 2 b S2 c = c x) (h9 : ∀ k, f1026 A x S2 k = k (.tu [g, e]) S3) (h10 : ∀ k, f27 f g S3 k = k (.b true) S3) (h11 : ∀ c, pEql e e c = c (.b true)) :
    H1006_ sayT f27 f1025 f1026 I0 K_ kx kr A B C D E F G H I J K L S = k (.b true) S3 := by
  subst hkr
  simp only [H1006_, cSeq, cReg, cCond, cBlock, cSkip, cExit, cRet, sayT,  h1, h2, h3, h4, h5, hL, h6, h7, h8, h9, h10, h11, ext0, ext1, pNot_t, pGd_ff, pGd_tt, pPick_f, pPick_t, ifF]
end
theorem zloop {lv bx c1 : V} {p : Nat} {ws : List Rw} (hn : ws.length ≤ 300) (hl : LRow S lv ws) (hr : ROK S ws) (hs : ∀ r ∈ ws, r.l.length ≤ 9223372036854775807) (B D H I J K L : V) (g1 : ∀ c, pFa 1 bx c = c c1) (g2 : ∀ c, pLd c1 S c = c lv) : ∀ (Fu i : Nat) (F G : V), i ≤ ws.length → ws.length < Fu + i →
    (∀ (kx : Nat → Fn 12) (k : Cont), loopN L1006_0 kx (fun A B C D E F G H I J K L S => k L S) Fu (nn p) B bx D (nn i) F G H I J K L S = k (.b true) S) ∨
    ((∀ r ∈ ws.drop i, r.l.length ≤ 80) ∧ ∃ F2 G2, ∀ (kx : Nat → Fn 12) (kr : Fn 12), loopN L1006_0 kx kr Fu (nn p) B bx D (nn i) F G H I J K L S = kx 0 (nn p) B bx D (nn ws.length) F2 G2 H I J K L S)
  | 0, i, F, G, a1, a2 => by omega
  | Fu + 1, i, F, G, a1, a2 => by
    have g3 : ∀ c, pLen lv c = c (nn ws.length) := fun c => hl.len (by omega) c
    by_cases hi : i < ws.length
    · obtain ⟨r, hri⟩ : ∃ r, ws[i]? = some r := ⟨_, List.getElem?_eq_getElem hi⟩
      have hmem := List.mem_of_getElem? hri
      have hd := drop_rw hri
      rw [hd]
      obtain ⟨q, q0, q1, y1, y2, y3, y4, y5, y6⟩ := hl.at_ (by omega) hri
      have hb := hs r hmem
      have h1 : ∀ c, pLss (nn i) (nn ws.length) c = c (.b true) := fun c => by rw [lss_n (by omega) (by omega), decide_eq_true hi]
      have h5 := fun c => (hr r hmem).1.len hb c
      by_cases h80 : 80 < r.l.length
      · refine .inl fun kx k => ?_
        rw [loopN_succ, z_hit (g1 := g1) (g2 := g2) (g3 := g3) (h1 := h1) (h2 := y1) (h3 := y3) (h4 := y4) (h5 := h5) (h6 := fun c => by rw [gtr_n (by omega) (by omega), decide_eq_true h80])]
      · have step : ∀ (kx : Nat → Fn 12) (kr : Fn 12), loopN L1006_0 kx kr (Fu + 1) (nn p) B bx D (nn i) F G H I J K L S = loopN L1006_0 kx kr Fu (nn p) B bx D (nn (i + 1)) (.b true) (.b false) H I J K L S := fun kx kr => by
          rw [loopN_succ, z_go (g1 := g1) (g2 := g2) (g3 := g3) (h1 := h1) (h2 := y1) (h3 := y3) (h4 := y4) (h5 := h5) (h6 := fun c => by rw [gtr_n (by omega) (by omega), decide_eq_false h80]) (h7 := fun c => add_n (by omega) c)]
        simp only [step]
        rcases zloop hn hl hr hs B D H I J K L g1 g2 Fu (i + 1) (.b true) (.b false) (by omega) (by omega) with z | ⟨z1, F2, G2, z2⟩
        · exact .inl z
        · refine .inr ⟨fun s hs => ?_, F2, G2, z2⟩
          rcases List.mem_cons.1 hs with rfl | hs
          · omega
          · exact z1 s hs
    · have : i = ws.length := by omega
      subst this
      rw [List.drop_length]
      refine .inr ⟨fun r hr => by simp at hr, .b false, G, fun kx kr => ?_⟩
      rw [loopN_succ, z_end (g1 := g1) (g2 := g2) (g3 := g3) (h1 := fun c => by rw [lss_n (by omega) (by omega), decide_eq_false (by omega)])]
def F1006x : Gn 2 := G1006 (C1006 sayT F27 F1025x F1026)
theorem K1006x : FOK Tryz.prog 6 (un 2 F1006x) := fokP (.cons K11y (.cons K27 (.cons K1025x (.cons K1026 .nil)))) .nil hm Tryz.func6 (by kernel_rfl) (D1006 sayT F27 F1025x F1026) (H1006 _)
theorem pLdn2_eq {S : St} {id : Pos} {b : Nat} {x1 x2 : V} (h : S.h.get id = some ⟨b, [x1, x2]⟩) (c : V → R) : pLdn 2 (.p id 0) S c = c (.ag [x1, x2]) := by
  show cellsAt id S (fun cs => dropK cs 0 (fun l => takeK l 2 (fun l => c (.ag l)))) = _
  rw [cellsAt_eq h]; rfl
theorem law1006 (ok : SOK S) {p uu : Nat} (hp : p < 18446744073709551616) (hu : uu < 18446744073709551616) {lv : V} {ws : List Rw} (hl : LRow S lv ws) (hr : ROK S ws) (hs : ∀ r ∈ ws, r.l.length ≤ 9223372036854775807) (hn : ws.length ≤ 9223372036854775807) :
    ∃ S', ∀ k, F1006x (nn p) (.ag [nn uu, lv]) S k = k (.b true) S' := by
  have st1 := Stp.new ok [nn uu, lv]
  have hb : (S.new [nn uu, lv]).h.get S.nx = some ⟨S.cnt, [nn uu, lv]⟩ := St.new_get _ _
  have h1 : ∀ k : Cont, pBox (.ag [nn uu, lv]) S k = k (.p S.nx 0) (S.new [nn uu, lv]) := fun k => pBox_ag _ S k
  have h2 : ∀ c, pFa 1 (.p S.nx 0) c = c (.p S.nx 1) := fun c => pFa_eq _ _ _ c
  have h3 : ∀ c, pLd (.p S.nx 1) (S.new [nn uu, lv]) c = c lv := fun c => pLd_eq hb (by rfl) c
  have hl1 := hl.stp ok st1
  have hr1 := hr.stp ok st1
  have h4 : ∀ c, pLen lv c = c (nn ws.length) := fun c => hl1.len hn c
  unfold F1006x G1006
  simp only [C1006_eq]
  by_cases h300 : 300 < ws.length
  · refine ⟨S.new [nn uu, lv], fun k => ?_⟩
    rw [y_many (k := k) (h1 := h1) (h2 := h2) (h3 := h3) (h4 := h4) (h5 := fun c => by rw [gtr_n (by omega) (by omega), decide_eq_true h300]) (hkr := rfl)]
  have h5 : ∀ c, pGtr (nn ws.length) (nn 300) c = c (.b false) := fun c => by rw [gtr_n (by omega) (by omega), decide_eq_false h300]
  rcases zloop (p := p) (show ws.length ≤ 300 by omega) hl1 hr1 hs (.ag [nn uu, lv]) (.b false) .other .other .other .other (.b false) h2 h3 1000000 0 .other .other (by omega) (by omega) with z | ⟨z1, F2, G2, z2⟩
  · refine ⟨S.new [nn uu, lv], fun k => ?_⟩
    rw [y_long (k := k) (h1 := h1) (h2 := h2) (h3 := h3) (h4 := h4) (h5 := h5) (hkr := rfl) (hL := fun kn kx => by
      obtain ⟨kx', e1, e2⟩ := block_loop_at 0 L1006_0 kn kx (fun A B C D E F G H I J K L S => k L S)
      rw [e2]; exact z kx' k)]
  · have z1 : ∀ r ∈ ws, r.l.length ≤ 80 := z1
    have h6 : ∀ c, pLdn 2 (.p S.nx 0) (S.new [nn uu, lv]) c = c (.ag [nn uu, lv]) := fun c => pLdn2_eq hb c
    obtain ⟨S2, f, st2, r2, w2⟩ := f1025_ok st1.ok hp hu hl1 hr1 z1 hn
    have s02 := st1.trans st2
    have h8 : ∀ c, pLdn 2 (.p S.nx 0) S2 c = c (.ag [nn uu, lv]) := fun c => pLdn2_eq (st2.get st1.ok hb) c
    obtain ⟨S3, g, st3, r3, w3⟩ := f1026_ok st2.ok hp hu (hl.stp ok s02) (hr.stp ok s02) z1 hn
    rw [out_eq] at r2
    have h10 := fun k => f27_ok (st3.row st2.ok r2) r3 (out_len p uu ws) k
    refine ⟨S3, fun k => ?_⟩
    rw [y_go (k := k) (h1 := h1) (h2 := h2) (h3 := h3) (h4 := h4) (h5 := h5) (hkr := rfl) (h6 := h6) (h7 := w2) (h8 := h8) (h9 := w3) (h10 := h10) (h11 := fun c => by rw [eql_n, decide_eq_true rfl]) (hL := fun kn kx kr => by
      obtain ⟨kx', e1, e2⟩ := block_loop_at 0 L1006_0 kn kx kr
      rw [e2, ← e1]; exact z2 kx' kr)]
end
end Go.AM

/- A law whose arguments are rows of rows: the machine's state at the start. -/
namespace Go.AM
open Go.Proofs
set_option linter.unusedVariables false
set_option linter.unusedSimpArgs false
set_option linter.constructorNameAsVariable false
noncomputable section
variable {P : Program}
/-- blocks, some of them dead -/
def layO : List (Option (List V)) → St → St
  | [], S => S
  | some cs :: r, S => layO r (S.new cs)
  | none :: r, S => layO r ((S.new []).upd S.nx ⟨0, []⟩)
def blkO (n : Nat) : Option (List V) → Blk
  | some cs => ⟨n, cs⟩
  | none => ⟨0, []⟩
theorem layO_ok : ∀ (l : List (Option (List V))) (S : St), SOK S → SOK (layO l S) ∧ (layO l S).cnt = S.cnt + l.length ∧ (∀ q : Pos, q.num < S.cnt → (layO l S).h.get q = S.h.get q) ∧
    (∀ (j : Nat) (o : Option (List V)), l[j]? = some o → ∀ q : Pos, q.num = S.cnt + j → (layO l S).h.get q = some (blkO (S.cnt + j) o))
  | [], S, ok => ⟨ok, rfl, fun _ _ => rfl, fun j cs h => by simp at h⟩
  | some c :: r, S, ok => by
    obtain ⟨h1, h2, h4, h5⟩ := layO_ok r (S.new c) (ok.new c)
    have hc : (S.new c).cnt = S.cnt + 1 := rfl
    refine ⟨h1, by simp only [layO, h2, hc, List.length_cons]; omega, fun q hq => ?_, fun j cs hj q hq => ?_⟩
    · show (layO r (S.new c)).h.get q = _
      rw [h4 q (by omega), St.new_get_ne c fun e => by rw [e, ok.nx] at hq; omega]
    · show (layO r (S.new c)).h.get q = _
      cases j with
      | zero =>
        simp at hj; subst hj
        have : q = S.nx := Pos.num_inj _ _ (by rw [hq, ok.nx]; rfl)
        rw [h4 q (by omega), this, St.new_get]; rfl
      | succ j =>
        rw [h5 j cs (by simpa using hj) q (by omega), hc]
        congr 2; omega
  | none :: r, S, ok => by
    have ok1 : SOK ((S.new []).upd S.nx ⟨0, []⟩) := (ok.new []).upd (St.new_get _ _) (.inr ⟨rfl, rfl⟩)
    obtain ⟨h1, h2, h4, h5⟩ := layO_ok r _ ok1
    have hc : ((S.new []).upd S.nx ⟨0, []⟩).cnt = S.cnt + 1 := rfl
    refine ⟨h1, by simp only [layO, h2, hc, List.length_cons]; omega, fun q hq => ?_, fun j cs hj q hq => ?_⟩
    · show (layO r ((S.new []).upd S.nx ⟨0, []⟩)).h.get q = _
      have : q ≠ S.nx := fun e => by rw [e, ok.nx] at hq; omega
      rw [h4 q (by omega), St.upd_get_ne _ this, St.new_get_ne _ this]
    · show (layO r ((S.new []).upd S.nx ⟨0, []⟩)).h.get q = _
      cases j with
      | zero =>
        simp at hj; subst hj
        have : q = S.nx := Pos.num_inj _ _ (by rw [hq, ok.nx]; rfl)
        rw [h4 q (by omega), this, St.upd_get]; rfl
      | succ j =>
        rw [h5 j cs (by simpa using hj) q (by omega), hc]
        congr 2; omega
def mkO (bl : List (Option (List V))) : St := (layO bl S0).lock
theorem mkO_ok (bl : List (Option (List V))) : SOK (mkO bl) ∧ (mkO bl).cnt = 1 + bl.length ∧ (mkO bl).fl = 1 + bl.length ∧ ∀ (j : Nat) (o : Option (List V)), bl[j]? = some o → ∀ q : Pos, q.num = j + 1 → (mkO bl).h.get q = some (blkO (j + 1) o) := by
  obtain ⟨h1, h2, h4, h5⟩ := layO_ok bl S0 S0_ok
  rw [S0_cnt] at h2 h5
  refine ⟨h1.lock, h2, h2, fun j o hj q hq => ?_⟩
  have := h5 j o hj q (by omega)
  rw [Nat.add_comm 1 j] at this
  exact this
/-- plain calls of a function whose arguments lie in memory -/
theorem top_callsO {f : Nat} {fn : Func} {np : Nat} {F : Gn np} (hf : P.funcs[f]? = some fn) (hb : fn.body.isSome = true) (hnm : (fn.name == "runtime.NumGoroutine") = false) (h : FOK P f (un np F)) (vs : List V) (args : Array Value) (w : World)
    (bl : List (Option (List V))) (locs : List Loc) (hl : bl.length = locs.length) (hro : ∀ (j : Nat) (L : Loc), locs[j]? = some L → L.ro = true)
    (hc : ∀ (j : Nat) (cs : List V) (L : Loc), bl[j]? = some (some cs) → locs[j]? = some L → HB (rhoM locs) L cs w)
    (ha : VRs (rhoM locs) vs args.toList) {S : St} (hr : un np F vs (mkO bl) (fun v S => some (v, S)) = some (.b true, S)) : Calls P f args w fun e w' => e = .returned (.bool true) ∧ Go.RowKit.Below w.heap.size w w' := by
  obtain ⟨ok, cnt, fl, get⟩ := mkO_ok bl
  obtain ⟨v, S', h1, h2, h3⟩ := h vs (mkO bl) _ _ ok hr
  cases h1
  have hh : HRel (rhoM locs) (mkO bl) w := by
    refine ⟨fun id L b h hb h0 => ?_, fun id id' L L' b b' h h' _ _ _ _ _ hq => ?_, fun id L h _ => ?_⟩
    · obtain ⟨j, hn, hj⟩ := rhoM_some h
      have hlt := (List.getElem?_eq_some_iff.1 hj).1
      obtain ⟨o, ho⟩ : ∃ o, bl[j]? = some o := ⟨_, List.getElem?_eq_getElem (by omega)⟩
      rw [get j o ho id hn] at hb
      cases hb
      cases o with
      | none => exact absurd rfl h0
      | some cs => exact hc j cs L ho hj
    · obtain ⟨j, _, hj⟩ := rhoM_some h
      obtain ⟨j', _, hj'⟩ := rhoM_some h'
      rw [hro j L hj, hro j' L' hj'] at hq
      cases hq
    · obtain ⟨j, hn, hj⟩ := rhoM_some h
      have hlt := (List.getElem?_eq_some_iff.1 hj).1
      omega
  have hfr : Fresh (rhoM locs) (mkO bl).cnt S.cnt := fun id h1 _ => by
    rw [cnt] at h1
    exact List.getElem?_eq_none (by omega)
  have := h3 (rhoM locs) w args ha hh hfr
  rcases this with ⟨h4, h5⟩ | ⟨u, w', h4, h5⟩
  · exact h5.mono fun e w' ⟨u, he, ρ', p, q⟩ => ⟨by rw [he, q.b_inv], p.os, p.tape, p.output, p.size, fun k hk => p.frame k hk fun id L h h1 h2 => by rw [fl] at h1; rw [cnt] at h2; omega⟩
  · exfalso
    simp only [callFunc, Sem.run_bind, run_program, Result.andThen_ok, hf, hnm, Bool.false_eq_true, if_false] at h4
    obtain ⟨c, hc⟩ : ∃ c, fn.body = some c := by cases h : fn.body; rw [h] at hb; cases hb; exact ⟨_, rfl⟩
    simp only [hc, Option.isNone_some] at h4
    cases h4
theorem pos_ex : ∀ n : Nat, 0 < n → ∃ q : Pos, q.num = n := fun n => by
  induction n using Nat.strongRecOn with
  | _ n ih =>
    intro h
    by_cases h1 : n = 1
    · exact ⟨.h, by rw [h1]; rfl⟩
    · obtain ⟨q, hq⟩ := ih (n / 2) (by omega) (by omega)
      by_cases h2 : n % 2 = 0
      · exact ⟨.o q, by show 2 * q.num = n; omega⟩
      · exact ⟨.i q, by show 2 * q.num + 1 = n; omega⟩
def posN (n : Nat) : Pos := Classical.choose (pos_ex (n + 1) (Nat.succ_pos n))
theorem posN_num (n : Nat) : (posN n).num = n + 1 := Classical.choose_spec (pos_ex (n + 1) (Nat.succ_pos n))
theorem un2p (g : Gn 2) (a b : V) : un 2 g [a, b] = g a b := by rfl
/- rows of integers in the machine's heap -/
def IsInts (w : World) (a : Option Addr) (len cap : Nat) (zs : List Int) : Prop :=
  (a = none ∧ len = 0 ∧ cap = 0 ∧ zs = []) ∨
  ∃ x, a = some x ∧ len ≤ cap ∧ cap ≤ 9223372036854775807 ∧ zs.length = cap ∧ (∀ i, i < zs.length → w.cell? (x.add i) = some (.int .i64 (zs.getD i 0))) ∧ ∀ n ∈ zs, (Lit.int .i64 n).wf = true
/-- a row with a slice and an integer -/
structure RD where
  a : Option Addr
  len : Nat
  cap : Nat
  zs : List Int
  z : Int
def IsRows (w : World) (a : Option Addr) (len cap : Nat) (f : Nat → RD) : Prop :=
  (a = none ∧ len = 0 ∧ cap = 0) ∨
  ∃ x, a = some x ∧ len ≤ cap ∧ cap ≤ 9223372036854775807 ∧ ∀ i, i < cap → w.cell? (x.add (i * 2)) = some (.slice (f i).a (f i).len (f i).cap) ∧ w.cell? (x.add (i * 2 + 1)) = some (.int .i64 (f i).z) ∧ (Lit.int .i64 (f i).z).wf = true ∧ IsInts w (f i).a (f i).len (f i).cap (f i).zs
def cz (z : Int) : Nat := (z % (M .i64 : Int)).toNat
theorem cz_lt (z : Int) : cz z < 18446744073709551616 := by
  have hM : (M .i64 : Int) = 18446744073709551616 := by decide
  have h0 := Int.emod_nonneg z (b := (M .i64 : Int)) (by decide)
  have h1 := Int.emod_lt_of_pos z (b := (M .i64 : Int)) (by decide)
  unfold cz
  omega
/-- where the cells of an address lie -/
def csz (w : World) (b : Nat) : Nat := match w.heap[b]? with
  | some (.cells c _ _) => c.size
  | _ => 0
theorem cell_spot {w : World} {x : Addr} {v : Value} (h : w.cell? x = some v) : x = ⟨x.block, x.off, none⟩ ∧ ∃ c e fr, w.heap[x.block]? = some (.cells c e fr) ∧ c[x.off]? = some v ∧ csz w x.block = c.size := by
  unfold World.cell? at h
  split at h
  · rename_i c e fr hh
    split at h
    · cases h
    · rename_i hs
      refine ⟨?_, c, e, fr, hh, h, by unfold csz; rw [hh]⟩
      cases x with
      | mk b o s => cases s with
        | none => rfl
        | some s => exact absurd rfl hs
  · cases h
theorem cell_add {w : World} {x : Addr} {n : Nat} {v : Value} (hx : x = ⟨x.block, x.off, none⟩) (h : w.cell? (x.add n) = some v) : ∃ c e fr, w.heap[x.block]? = some (.cells c e fr) ∧ c[x.off + n]? = some v ∧ csz w x.block = c.size := by
  have e : x.add n = ⟨x.block, x.off + n, none⟩ := by
    rw [hx]; unfold Addr.add
    split
    · rename_i h0; subst h0; rfl
    · rfl
  rw [e] at h
  exact (cell_spot h).2
theorem add_zero (x : Addr) : x.add 0 = x := by unfold Addr.add; rw [if_pos rfl]
/-- a block of the heap that holds what the machine's list says -/
theorem hb_of {ρ : Ren} {w : World} {x : Addr} {cs : List V} (h0 : cs ≠ []) (h : ∀ (j : Nat) (v : V), cs[j]? = some v → ∃ u, w.cell? (x.add j) = some u ∧ VR ρ v u ∧ v.one = true) : x = ⟨x.block, x.off, none⟩ ∧ x.off ≤ csz w x.block ∧ HB ρ ⟨x.block, x.off, csz w x.block, true⟩ cs w := by
  have hpos : 0 < cs.length := by cases cs with | nil => exact absurd rfl h0 | cons a l => simp
  obtain ⟨u0, g0, _⟩ := h 0 _ (List.getElem?_eq_getElem hpos)
  rw [add_zero] at g0
  obtain ⟨hx, c, e, fr, h1, h2, h3⟩ := cell_spot g0
  have hall : ∀ (j : Nat) (v : V), cs[j]? = some v → ∃ u, c[x.off + j]? = some u ∧ VR ρ v u ∧ v.one = true := fun j v hv => by
    obtain ⟨u, k1, k2, k3⟩ := h j v hv
    obtain ⟨c', e', fr', m1, m2, _⟩ := cell_add hx k1
    rw [h1] at m1
    cases m1
    exact ⟨u, m2, k2, k3⟩
  have hlen : x.off + cs.length ≤ c.size := by
    obtain ⟨u, k1, _⟩ := hall (cs.length - 1) _ (List.getElem?_eq_getElem (by omega))
    have := (Array.getElem?_eq_some_iff.1 k1).1
    omega
  refine ⟨hx, by rw [h3]; omega, .inl ⟨c, e, fr, h1, h3.symm, (fun h => by cases h), by show x.off + cs.length ≤ csz w x.block; rw [h3]; exact hlen, hall⟩⟩
section
variable (w : World) (f : Nat → RD)
def rwV (i : Nat) : V := match (f i).a with
  | none => .sn
  | some _ => .sl (posN (i + 1)) 0 (f i).len (f i).cap
def rwOf (i : Nat) : Rw := ⟨rwV f i, ((f i).zs.take (f i).len).map cz, cz (f i).z⟩
def rows (len : Nat) : List Rw := (List.range len).map (rwOf f)
def blk (i : Nat) : Option (List V) := if (f i).len = 0 then none else some ((((f i).zs.take (f i).len).map cz).map nn)
def loc (i : Nat) : Loc := match (f i).a with
  | none => ⟨0, 0, 0, true⟩
  | some y => ⟨y.block, y.off, if (f i).len = 0 then y.off else csz w y.block, true⟩
def blks (len : Nat) : List (Option (List V)) := (if len = 0 then none else some (cellsR (rows f len))) :: (List.range len).map (blk f)
def locs (x : Addr) (len : Nat) : List Loc := ⟨x.block, x.off, if len = 0 then x.off else csz w x.block, true⟩ :: (List.range len).map (loc w f)
end
theorem cellsR_len : ∀ ws : List Rw, (cellsR ws).length = ws.length * 2
  | [] => rfl
  | r :: ws => by simp only [cellsR, List.length_cons, cellsR_len ws]; omega
theorem cellsR_get : ∀ (ws : List Rw) (j : Nat) (v : V), (cellsR ws)[j]? = some v → ∃ i r, ws[i]? = some r ∧ (j = i * 2 ∧ v = r.v ∨ j = i * 2 + 1 ∧ v = nn r.m)
  | [], j, v, h => by simp [cellsR] at h
  | r :: ws, 0, v, h => by
    simp only [cellsR, List.getElem?_cons_zero, Option.some.injEq] at h
    exact ⟨0, r, rfl, .inl ⟨rfl, h.symm⟩⟩
  | r :: ws, 1, v, h => by
    simp only [cellsR, List.getElem?_cons_succ, List.getElem?_cons_zero, Option.some.injEq] at h
    exact ⟨0, r, rfl, .inr ⟨rfl, h.symm⟩⟩
  | r :: ws, j + 2, v, h => by
    simp only [cellsR, List.getElem?_cons_succ] at h
    obtain ⟨i, s, h1, h2⟩ := cellsR_get ws j v h
    exact ⟨i + 1, s, by simpa using h1, h2.elim (fun h => .inl ⟨by omega, h.2⟩) (fun h => .inr ⟨by omega, h.2⟩)⟩
theorem rows_get {f : Nat → RD} {len i : Nat} {r : Rw} (h : (rows f len)[i]? = some r) : i < len ∧ r = rwOf f i := by
  unfold rows at h
  rw [List.getElem?_map] at h
  have hi : i < len := by
    rcases Nat.lt_or_ge i len with h1 | h1
    · exact h1
    · rw [List.getElem?_eq_none (by simpa using h1)] at h; cases h
  rw [List.getElem?_range hi] at h
  exact ⟨hi, by simpa using h.symm⟩
theorem range_get {α : Type} (g : Nat → α) {len i : Nat} {r : α} (h : ((List.range len).map g)[i]? = some r) : i < len ∧ r = g i := by
  rw [List.getElem?_map] at h
  have hi : i < len := by
    rcases Nat.lt_or_ge i len with h1 | h1
    · exact h1
    · rw [List.getElem?_eq_none (by simpa using h1)] at h; cases h
  rw [List.getElem?_range hi] at h
  exact ⟨hi, by simpa using h.symm⟩
theorem map_at {α : Type} (g : Nat → α) {len i : Nat} (h : i < len) : ((List.range len).map g)[i]? = some (g i) := by
  rw [List.getElem?_map, List.getElem?_range h]; rfl
/-- the codes of a row, in the heap -/
theorem ints_cells {w : World} {y : Addr} {len cap : Nat} {zs : List Int} (h1 : len ≤ cap) (h2 : zs.length = cap) (h3 : ∀ i, i < zs.length → w.cell? (y.add i) = some (.int .i64 (zs.getD i 0))) (h4 : ∀ n ∈ zs, (Lit.int .i64 n).wf = true) (ρ : Ren) (j : Nat) (v : V) (hv : (((zs.take len).map cz).map nn)[j]? = some v) :
    ∃ u, w.cell? (y.add j) = some u ∧ VR ρ v u ∧ v.one = true := by
  rw [List.getElem?_map, List.getElem?_map] at hv
  have hj : j < len := by
    rcases Nat.lt_or_ge j len with h | h
    · exact h
    · rw [List.getElem?_eq_none (by rw [List.length_take]; omega)] at hv; cases hv
  rw [List.getElem?_take_of_lt hj] at hv
  have hz : j < zs.length := by omega
  rw [List.getElem?_eq_getElem hz] at hv
  simp only [Option.map_some, Option.some.injEq] at hv
  subst hv
  have hg : zs.getD j 0 = zs[j] := by rw [List.getD_eq_getElem?_getD, List.getElem?_eq_getElem hz]; rfl
  exact ⟨_, h3 j hz, by rw [hg]; exact vr_wf (h4 _ (List.getElem_mem hz)), rfl⟩
theorem walkModfactorProducts (p uu : Int) (a : Option Addr) (len cap : Nat) (f : Nat → RD) (W : World) (wp : (Lit.int .i64 p).wf = true) (wu : (Lit.int .i64 uu).wf = true) (hR : IsRows W a len cap f) :
    Calls Tryz.prog 6 #[.int .i64 p, .agg #[.int .i64 uu, .slice a len cap]] W fun e w' => e = .returned (.bool true) ∧ Go.RowKit.Below W.heap.size W w' := by
  rcases hR with ⟨rfl, rfl, rfl⟩ | ⟨x, rfl, hlc, hcm, hcell⟩
  · obtain ⟨ok, _⟩ := mkO_ok []
    obtain ⟨S', z⟩ := law1006 (p := cz p) (uu := cz uu) (lv := .sn) (ws := []) ok (cz_lt _) (cz_lt _) rfl (fun r hr => by simp at hr) (fun r hr => by simp at hr) (by simp)
    refine top_callsO Tryz.func6 (by kernel_rfl) (by kernel_rfl) K1006x [nn (cz p), .ag [nn (cz uu), .sn]] _ W [] [] rfl (fun j L h => by simp at h) (fun j cs L h => by simp at h) ?_ (S := S') (by rw [un2p, z])
    exact .cons _ _ _ _ (vr_wf wp) (.cons _ _ _ _ (.ag _ _ (fun v hv => by rcases List.mem_cons.1 hv with rfl | hv; rfl; rcases List.mem_cons.1 hv with rfl | hv; rfl; simp at hv) (.cons _ _ _ _ (vr_wf wu) (.cons _ _ _ _ .sn .nil))) .nil)
  · obtain ⟨ok, _, _, get⟩ := mkO_ok (blks f len)
    have hcell' := fun i (hi : i < len) => hcell i (by omega)
    -- where a row lies
    have rho_row : ∀ i, i < len → rhoM (locs W f x len) (posN (i + 1)) = some (loc W f i) := fun i hi => by
      show (locs W f x len)[(posN (i + 1)).num - 1]? = _
      rw [posN_num]
      show (_ :: _ : List Loc)[i + 1]? = _
      rw [List.getElem?_cons_succ, map_at _ hi]
    have rho_0 : rhoM (locs W f x len) (posN 0) = some ⟨x.block, x.off, if len = 0 then x.off else csz W x.block, true⟩ := by
      show (locs W f x len)[(posN 0).num - 1]? = _
      rw [posN_num]; rfl
    have get_row : ∀ i, i < len → (mkO (blks f len)).h.get (posN (i + 1)) = some (blkO (i + 2) (blk f i)) := fun i hi => get (i + 1) _ (by show (_ :: _ : List (Option (List V)))[i + 1]? = _; rw [List.getElem?_cons_succ, map_at _ hi]) _ (posN_num _)
    have get_0 : (mkO (blks f len)).h.get (posN 0) = some (blkO 1 (if len = 0 then none else some (cellsR (rows f len)))) := get 0 _ rfl _ (posN_num _)
    have hlen : (rows f len).length = len := by simp [rows]
    -- the value of a row's slice
    have vr_row : ∀ i, i < len → VR (rhoM (locs W f x len)) (rwV f i) (.slice (f i).a (f i).len (f i).cap) ∧ (rwV f i).one = true := fun i hi => by
      obtain ⟨_, _, _, hI⟩ := hcell' i hi
      have hrho := rho_row i hi
      unfold rwV
      unfold loc at hrho
      rcases hI with ⟨e1, e2, e3, e4⟩ | ⟨y, e1, k1, k2, k3, k4, k5⟩
      · rw [e1, e2, e3]; exact ⟨.sn, rfl⟩
      · simp only [e1] at hrho ⊢
        refine ⟨.sl _ _ _ _ y _ hrho ?_ k1 fun hp => ?_, rfl⟩
        · show y.off ≤ if (f i).len = 0 then y.off else csz W y.block
          split
          · exact Nat.le_refl _
          · rename_i hne
            have := k4 0 (by omega)
            rw [add_zero] at this
            obtain ⟨_, c, e, fr, m1, m2, m3⟩ := cell_spot this
            have := (Array.getElem?_eq_some_iff.1 m2).1
            rw [m3]; omega
        · have := k4 0 (by omega)
          rw [add_zero] at this
          exact (cell_spot this).1
    have hro : ∀ (j : Nat) (L : Loc), (locs W f x len)[j]? = some L → L.ro = true := fun j L h => by
      cases j with
      | zero => cases h; rfl
      | succ j =>
        have h : ((List.range len).map (loc W f))[j]? = some L := h
        obtain ⟨_, rfl⟩ := range_get _ h
        unfold loc
        cases (f j).a <;> rfl
    have hHB : ∀ (j : Nat) (cs : List V) (L : Loc), (blks f len)[j]? = some (some cs) → (locs W f x len)[j]? = some L → HB (rhoM (locs W f x len)) L cs W := fun j cs L h1 h2 => by
      cases j with
      | zero =>
        have h1 : some (if len = 0 then none else some (cellsR (rows f len))) = some (some cs) := h1
        have h2 : some (⟨x.block, x.off, if len = 0 then x.off else csz W x.block, true⟩ : Loc) = some L := h2
        by_cases h0 : len = 0
        · rw [if_pos h0] at h1; cases h1
        · rw [if_neg h0] at h1 h2
          cases h1
          cases h2
          refine (hb_of (fun e => ?_) fun j v hv => ?_).2.2
          · have := cellsR_len (rows f len)
            rw [e, hlen] at this
            simp at this; omega
          · obtain ⟨i, r, g1, g2⟩ := cellsR_get _ j v hv
            obtain ⟨hi, rfl⟩ := rows_get g1
            obtain ⟨c1, c2, c3, c4⟩ := hcell' i hi
            rcases g2 with ⟨rfl, rfl⟩ | ⟨rfl, rfl⟩
            · exact ⟨_, c1, vr_row i hi⟩
            · exact ⟨_, c2, vr_wf c3, rfl⟩
      | succ j =>
        have h1 : ((List.range len).map (blk f))[j]? = some (some cs) := h1
        have h2 : ((List.range len).map (loc W f))[j]? = some L := h2
        obtain ⟨hj, e1⟩ := range_get _ h1
        obtain ⟨_, rfl⟩ := range_get _ h2
        unfold blk at e1
        by_cases h0 : (f j).len = 0
        · rw [if_pos h0] at e1; cases e1
        · rw [if_neg h0] at e1
          cases e1
          obtain ⟨_, _, _, hI⟩ := hcell' j hj
          rcases hI with ⟨_, e2, _, _⟩ | ⟨y, e2, k1, k2, k3, k4, k5⟩
          · exact absurd e2 h0
          · unfold loc
            simp only [e2]
            rw [if_neg h0]
            refine (hb_of (fun e => ?_) fun i v hv => ints_cells k1 k3 k4 k5 _ i v hv).2.2
            have := congrArg List.length e
            simp only [List.length_map, List.length_take, List.length_nil] at this
            omega
    have hROK : ROK (mkO (blks f len)) (rows f len) := fun r hr => by
      obtain ⟨i, hgi⟩ := List.getElem?_of_mem hr
      obtain ⟨hi, rfl⟩ := rows_get hgi
      refine ⟨?_, fun z hz => ?_, cz_lt _⟩
      · obtain ⟨_, _, _, hI⟩ := hcell' i hi
        have hg := get_row i hi
        show Row _ (rwV f i) (((f i).zs.take (f i).len).map cz)
        unfold rwV
        rcases hI with ⟨e1, e2, e3, e4⟩ | ⟨y, e1, k1, k2, k3, k4, k5⟩
        · rw [e1, e4]; show List.map cz (List.take _ []) = []; simp
        · rw [e1]
          refine ⟨by rw [List.length_map, List.length_take]; omega, _, hg, [], ?_⟩
          unfold blk
          by_cases h0 : (f i).len = 0
          · rw [if_pos h0, h0]; rfl
          · rw [if_neg h0, List.append_nil]; rfl
      · obtain ⟨y, _, rfl⟩ := List.mem_map.1 hz
        exact cz_lt _
    have hLR : LRow (mkO (blks f len)) (.sl (posN 0) 0 len cap) (rows f len) := by
      refine ⟨hlen.symm, _, get_0, [], ?_⟩
      by_cases h0 : len = 0
      · rw [if_pos h0]; subst h0; rfl
      · rw [if_neg h0, List.append_nil]; rfl
    have hsm : ∀ r ∈ rows f len, r.l.length ≤ 9223372036854775807 := fun r hr => by
      obtain ⟨i, hgi⟩ := List.getElem?_of_mem hr
      obtain ⟨hi, rfl⟩ := rows_get hgi
      show (((f i).zs.take (f i).len).map cz).length ≤ _
      obtain ⟨_, _, _, hI⟩ := hcell' i hi
      rw [List.length_map, List.length_take]
      rcases hI with ⟨e1, e2, e3, e4⟩ | ⟨y, e1, k1, k2, k3, k4, k5⟩ <;> omega
    obtain ⟨S', z⟩ := law1006 (p := cz p) (uu := cz uu) ok (cz_lt _) (cz_lt _) hLR hROK hsm (by rw [hlen]; omega)
    refine top_callsO Tryz.func6 (by kernel_rfl) (by kernel_rfl) K1006x [nn (cz p), .ag [nn (cz uu), .sl (posN 0) 0 len cap]] _ W (blks f len) (locs W f x len) (by simp [blks, locs]) hro hHB ?_ (S := S') (by rw [un2p, z])
    refine .cons _ _ _ _ (vr_wf wp) (.cons _ _ _ _ (.ag _ _ (fun v hv => by rcases List.mem_cons.1 hv with rfl | hv; rfl; rcases List.mem_cons.1 hv with rfl | hv; rfl; simp at hv) (.cons _ _ _ _ (vr_wf wu) (.cons _ _ _ _ (.sl _ _ _ _ x _ rho_0 ?_ hlc fun hp => ?_) .nil))) .nil)
    · show x.off ≤ if len = 0 then x.off else csz W x.block
      split
      · exact Nat.le_refl _
      · rename_i hne
        have := (hcell' 0 (by omega)).1
        rw [Nat.zero_mul, add_zero] at this
        obtain ⟨_, c, e, fr, m1, m2, m3⟩ := cell_spot this
        have := (Array.getElem?_eq_some_iff.1 m2).1
        rw [m3]; omega
    · have := (hcell 0 hp).1
      rw [Nat.zero_mul, add_zero] at this
      exact (cell_spot this).1
end
end Go.AM
