/- Lists of small integers packed into two numbers: sums and products by digits. -/
import Derived.Test.YtohmfjmgeecfkaaGreatVLM
namespace Go.AM.Q
set_option linter.unusedVariables false
set_option linter.unusedSimpArgs false
abbrev BB : Nat := 18446744073709551616
def pk : List Nat → Nat
  | [] => 0
  | x :: l => x + BB * pk l
theorem pk_dig : ∀ (l : List Nat) (k : Nat), (∀ x ∈ l, x < BB) → pk l / BB ^ k % BB = l.getD k 0
  | [], k, h => by simp [pk]
  | x :: l, 0, h => by
    have := h x (List.mem_cons_self ..)
    simp only [pk, Nat.pow_zero, Nat.div_one, List.getD_cons_zero]
    rw [Nat.add_mul_mod_self_left, Nat.mod_eq_of_lt this]
  | x :: l, k + 1, h => by
    have h0 := h x (List.mem_cons_self ..)
    have : pk (x :: l) / BB ^ (k + 1) = pk l / BB ^ k := by
      rw [Nat.pow_succ, Nat.mul_comm (BB ^ k), ← Nat.div_div_eq_div_mul]
      congr 1
      simp only [pk]
      rw [Nat.add_mul_div_left _ _ (by decide), Nat.div_eq_of_lt h0, Nat.zero_add]
    rw [this, pk_dig l k (fun y hy => h y (List.mem_cons_of_mem _ hy))]; rfl
theorem lt_of_getD {l : List Nat} {b : Nat} (h : ∀ i, l.getD i 0 < b) : ∀ x ∈ l, x < b := fun x hx => by
  obtain ⟨i, hi, rfl⟩ := List.getElem_of_mem hx
  have := h i
  rwa [List.getD_eq_getElem?_getD, List.getElem?_eq_getElem hi] at this
def addN : List Nat → List Nat → List Nat
  | [], b => b
  | a, [] => a
  | x :: a, y :: b => (x + y) :: addN a b
theorem pk_add : ∀ a b, pk (addN a b) = pk a + pk b
  | [], b => by simp [addN, pk]
  | x :: a, [] => by simp [addN, pk]
  | x :: a, y :: b => by simp only [addN, pk, pk_add a b, Nat.mul_add]; omega
theorem add_getD : ∀ (a b : List Nat) (k : Nat), (addN a b).getD k 0 = a.getD k 0 + b.getD k 0
  | [], b, k => by simp [addN]
  | x :: a, [], k => by simp [addN]
  | x :: a, y :: b, 0 => by simp [addN]
  | x :: a, y :: b, k + 1 => by simpa [addN] using add_getD a b k
def mulN : List Nat → List Nat → List Nat
  | [], g => []
  | x :: f, g => addN (g.map (x * ·)) (0 :: mulN f g)
theorem pk_map (x : Nat) : ∀ g : List Nat, pk (g.map (x * ·)) = x * pk g
  | [] => by simp [pk]
  | y :: g => by simp only [List.map_cons, pk, pk_map x g, Nat.mul_add]; rw [Nat.mul_left_comm]
theorem pk_mul : ∀ f g, pk (mulN f g) = pk f * pk g
  | [], g => by simp [mulN, pk]
  | x :: f, g => by
    simp only [mulN, pk_add, pk_map, pk, pk_mul f g, Nat.zero_add, Nat.add_mul]
    rw [Nat.mul_assoc]
def cv : List Nat → List Nat → Nat → Nat
  | [], g, k => 0
  | x :: f, g, 0 => x * g.getD 0 0
  | x :: f, g, k + 1 => x * g.getD (k + 1) 0 + cv f g k
theorem map_getD (x : Nat) (g : List Nat) (k : Nat) : (g.map (x * ·)).getD k 0 = x * g.getD k 0 := by
  rw [List.getD_eq_getElem?_getD, List.getD_eq_getElem?_getD, List.getElem?_map]
  cases g[k]? <;> simp
theorem mul_getD : ∀ (f g : List Nat) (k : Nat), (mulN f g).getD k 0 = cv f g k
  | [], g, k => by simp [mulN, cv]
  | x :: f, g, 0 => by simp only [mulN, add_getD, map_getD, cv, List.getD_cons_zero, Nat.add_zero]
  | x :: f, g, k + 1 => by simp only [mulN, add_getD, map_getD, cv, List.getD_cons_succ, mul_getD f g k]
theorem cv_le {a b : Nat} {g : List Nat} (hg : ∀ i, g.getD i 0 ≤ b) : ∀ (f : List Nat) (k : Nat), (∀ i, f.getD i 0 ≤ a) → cv f g k ≤ f.length * (a * b)
  | [], k, h => by simp [cv]
  | x :: f, 0, h => by
    have h0 : x ≤ a := by simpa using h 0
    have := Nat.mul_le_mul h0 (hg 0)
    simp only [cv, List.length_cons, Nat.add_mul]; omega
  | x :: f, k + 1, h => by
    have h0 : x ≤ a := by simpa using h 0
    have h1 := Nat.mul_le_mul h0 (hg (k + 1))
    have h2 := cv_le hg f k fun i => by simpa using h (i + 1)
    simp only [cv, List.length_cons, Nat.add_mul]; omega
/- integers -/
def gz (l : List Int) (i : Nat) : Int := l.getD i 0
def ps (l : List Int) : List Nat := l.map Int.toNat
def ns (l : List Int) : List Nat := l.map fun z => (-z).toNat
theorem ps_getD (l : List Int) (k : Nat) : (ps l).getD k 0 = (gz l k).toNat := by
  unfold ps gz
  rw [List.getD_eq_getElem?_getD, List.getD_eq_getElem?_getD, List.getElem?_map]
  cases l[k]? <;> simp
theorem ns_getD (l : List Int) (k : Nat) : (ns l).getD k 0 = (-(gz l k)).toNat := by
  unfold ns gz
  rw [List.getD_eq_getElem?_getD, List.getD_eq_getElem?_getD, List.getElem?_map]
  cases l[k]? <;> simp
def cz : List Int → List Int → Nat → Int
  | [], g, k => 0
  | x :: f, g, 0 => x * gz g 0
  | x :: f, g, k + 1 => x * gz g (k + 1) + cz f g k
/-- the sum of the absolute values of the products -/
def ca : List Int → List Int → Nat → Nat
  | [], g, k => 0
  | x :: f, g, 0 => x.natAbs * (gz g 0).natAbs
  | x :: f, g, k + 1 => x.natAbs * (gz g (k + 1)).natAbs + ca f g k
theorem one (x y : Int) : ((x.toNat * y.toNat + (-x).toNat * (-y).toNat : Nat) : Int) - ((x.toNat * (-y).toNat + (-x).toNat * y.toNat : Nat) : Int) = x * y ∧ x.toNat * y.toNat + (-x).toNat * (-y).toNat + (x.toNat * (-y).toNat + (-x).toNat * y.toNat) = x.natAbs * y.natAbs := by
  have hx : (x.toNat : Int) - ((-x).toNat : Int) = x := by omega
  have hy : (y.toNat : Int) - ((-y).toNat : Int) = y := by omega
  have ax : x.natAbs = x.toNat + (-x).toNat := by omega
  have ay : y.natAbs = y.toNat + (-y).toNat := by omega
  refine ⟨?_, ?_⟩
  · generalize (x.toNat) = a at *
    generalize ((-x).toNat) = b at *
    generalize (y.toNat) = c at *
    generalize ((-y).toNat) = d at *
    rw [← hx, ← hy]
    simp only [Int.natCast_add, Int.natCast_mul, Int.sub_mul, Int.mul_sub]
    omega
  · rw [ax, ay]; simp only [Nat.add_mul, Nat.mul_add]; omega
theorem cz_ok : ∀ (f g : List Int) (k : Nat), ((cv (ps f) (ps g) k + cv (ns f) (ns g) k : Nat) : Int) - ((cv (ps f) (ns g) k + cv (ns f) (ps g) k : Nat) : Int) = cz f g k ∧ cv (ps f) (ps g) k + cv (ns f) (ns g) k + (cv (ps f) (ns g) k + cv (ns f) (ps g) k) = ca f g k
  | [], g, k => by simp [ps, ns, cv, cz, ca]
  | x :: f, g, 0 => by
    have h := one x (gz g 0)
    show (((x.toNat * (ps g).getD 0 0 + (-x).toNat * (ns g).getD 0 0 : Nat) : Int) - ((x.toNat * (ns g).getD 0 0 + (-x).toNat * (ps g).getD 0 0 : Nat) : Int) = x * gz g 0) ∧ (x.toNat * (ps g).getD 0 0 + (-x).toNat * (ns g).getD 0 0 + (x.toNat * (ns g).getD 0 0 + (-x).toNat * (ps g).getD 0 0) = x.natAbs * (gz g 0).natAbs)
    rw [ps_getD, ns_getD]; exact h
  | x :: f, g, k + 1 => by
    have h := one x (gz g (k + 1))
    have h2 := cz_ok f g k
    show (((x.toNat * (ps g).getD (k + 1) 0 + cv (ps f) (ps g) k + ((-x).toNat * (ns g).getD (k + 1) 0 + cv (ns f) (ns g) k) : Nat) : Int) - ((x.toNat * (ns g).getD (k + 1) 0 + cv (ps f) (ns g) k + ((-x).toNat * (ps g).getD (k + 1) 0 + cv (ns f) (ps g) k) : Nat) : Int) = x * gz g (k + 1) + cz f g k) ∧ (x.toNat * (ps g).getD (k + 1) 0 + cv (ps f) (ps g) k + ((-x).toNat * (ns g).getD (k + 1) 0 + cv (ns f) (ns g) k) + (x.toNat * (ns g).getD (k + 1) 0 + cv (ps f) (ns g) k + ((-x).toNat * (ps g).getD (k + 1) 0 + cv (ns f) (ps g) k)) = x.natAbs * (gz g (k + 1)).natAbs + ca f g k)
    rw [ps_getD, ns_getD]
    omega
def pz (l : List Int) : Nat := pk (ps l)
def nz (l : List Int) : Nat := pk (ns l)
theorem dig {l : List Nat} (h : ∀ i, l.getD i 0 < BB) (k : Nat) : pk l / BB ^ k % BB = l.getD k 0 := pk_dig l k (lt_of_getD h)
theorem gz_bd {l : List Int} {m : Nat} (h : ∀ z ∈ l, z.natAbs ≤ m) (i : Nat) : (gz l i).natAbs ≤ m := by
  unfold gz
  rw [List.getD_eq_getElem?_getD]
  cases hi : l[i]? with
  | none => simp
  | some z => exact h z (List.mem_of_getElem? hi)
theorem ps_len (l : List Int) : (ps l).length = l.length := by simp [ps]
theorem ns_len (l : List Int) : (ns l).length = l.length := by simp [ns]
/-- the digits of the product -/
theorem mul_dig {f g : List Int} {m m' : Nat} (hf : ∀ z ∈ f, z.natAbs ≤ m) (hg : ∀ z ∈ g, z.natAbs ≤ m') (hm : m < 64) (hm' : m' < 64) (lf : f.length ≤ 100000) (k : Nat) :
    ((((pz f * pz g + nz f * nz g) / BB ^ k % BB : Nat) : Int) - (((pz f * nz g + nz f * pz g) / BB ^ k % BB : Nat) : Int) = cz f g k) ∧ (pz f * pz g + nz f * nz g) / BB ^ k % BB + (pz f * nz g + nz f * pz g) / BB ^ k % BB = ca f g k := by
  have bp : ∀ i, (ps f).getD i 0 ≤ 64 := fun i => by rw [ps_getD]; have := gz_bd hf i; omega
  have bn : ∀ i, (ns f).getD i 0 ≤ 64 := fun i => by rw [ns_getD]; have := gz_bd hf i; omega
  have cp : ∀ i, (ps g).getD i 0 ≤ 64 := fun i => by rw [ps_getD]; have := gz_bd hg i; omega
  have cn : ∀ i, (ns g).getD i 0 ≤ 64 := fun i => by rw [ns_getD]; have := gz_bd hg i; omega
  have e1 : pz f * pz g + nz f * nz g = pk (addN (mulN (ps f) (ps g)) (mulN (ns f) (ns g))) := by rw [pk_add, pk_mul, pk_mul]; rfl
  have e2 : pz f * nz g + nz f * pz g = pk (addN (mulN (ps f) (ns g)) (mulN (ns f) (ps g))) := by rw [pk_add, pk_mul, pk_mul]; rfl
  rw [e1, e2, dig, dig, add_getD, add_getD, mul_getD, mul_getD, mul_getD, mul_getD]
  · exact cz_ok f g k
  · intro i
    rw [add_getD, mul_getD, mul_getD]
    have h1 := cv_le cn (ps f) i bp
    have h2 := cv_le cp (ns f) i bn
    rw [ps_len] at h1; rw [ns_len] at h2; have : BB = 18446744073709551616 := rfl; omega
  · intro i
    rw [add_getD, mul_getD, mul_getD]
    have h1 := cv_le cp (ps f) i bp
    have h2 := cv_le cn (ns f) i bn
    rw [ps_len] at h1; rw [ns_len] at h2; have : BB = 18446744073709551616 := rfl; omega
/-- the digits of the sum -/
theorem add_dig {f g : List Int} {m m' : Nat} (hf : ∀ z ∈ f, z.natAbs ≤ m) (hg : ∀ z ∈ g, z.natAbs ≤ m') (hm : m < 64) (hm' : m' < 64) (k : Nat) :
    ((((pz f + pz g) / BB ^ k % BB : Nat) : Int) - (((nz f + nz g) / BB ^ k % BB : Nat) : Int) = gz f k + gz g k) := by
  have e1 : pz f + pz g = pk (addN (ps f) (ps g)) := by rw [pk_add]; rfl
  have e2 : nz f + nz g = pk (addN (ns f) (ns g)) := by rw [pk_add]; rfl
  rw [e1, e2, dig, dig, add_getD, add_getD, ps_getD, ps_getD, ns_getD, ns_getD]
  · omega
  · intro i
    rw [add_getD, ns_getD, ns_getD]
    have h1 := gz_bd hf i
    have h2 := gz_bd hg i
    have : BB = 18446744073709551616 := rfl
    omega
  · intro i
    rw [add_getD, ps_getD, ps_getD]
    have h1 := gz_bd hf i
    have h2 := gz_bd hg i
    have : BB = 18446744073709551616 := rfl
    omega
/-- the digits of a multiple -/
theorem scale_dig {f : List Int} {m : Nat} (c : Int) (hf : ∀ z ∈ f, z.natAbs ≤ m) (hm : m < 64) (hc : c.natAbs < 64) (k : Nat) :
    ((((pz f * c.toNat + nz f * (-c).toNat) / BB ^ k % BB : Nat) : Int) - (((pz f * (-c).toNat + nz f * c.toNat) / BB ^ k % BB : Nat) : Int) = gz f k * c) := by
  have e1 : pz f * c.toNat + nz f * (-c).toNat = pk (addN ((ps f).map (c.toNat * ·)) ((ns f).map ((-c).toNat * ·))) := by rw [pk_add, pk_map, pk_map, Nat.mul_comm (pz f), Nat.mul_comm (nz f)]; rfl
  have e2 : pz f * (-c).toNat + nz f * c.toNat = pk (addN ((ps f).map ((-c).toNat * ·)) ((ns f).map (c.toNat * ·))) := by rw [pk_add, pk_map, pk_map, Nat.mul_comm (pz f), Nat.mul_comm (nz f)]; rfl
  have h0 : ∀ i (a b : Nat), a ≤ 64 → b ≤ 64 → a * (gz f i).toNat + b * (-(gz f i)).toNat < BB := fun i a b ha hb => by
    have h1 := gz_bd hf i
    have h2 := Nat.mul_le_mul ha (show (gz f i).toNat ≤ 64 by omega)
    have h3 := Nat.mul_le_mul hb (show (-(gz f i)).toNat ≤ 64 by omega)
    have : BB = 18446744073709551616 := rfl
    omega
  rw [e1, e2, dig, dig, add_getD, add_getD, map_getD, map_getD, map_getD, map_getD, ps_getD, ns_getD]
  · have := (one c (gz f k)).1
    rw [Int.mul_comm c] at this
    omega
  · intro i
    rw [add_getD, map_getD, map_getD, ps_getD, ns_getD]
    exact h0 i _ _ (by omega) (by omega)
  · intro i
    rw [add_getD, map_getD, map_getD, ps_getD, ns_getD]
    exact h0 i _ _ (by omega) (by omega)
theorem id_dig {f : List Int} {m : Nat} (hf : ∀ z ∈ f, z.natAbs ≤ m) (hm : m < 64) (k : Nat) :
    (((pz f / BB ^ k % BB : Nat) : Int) - ((nz f / BB ^ k % BB : Nat) : Int) = gz f k) := by
  rw [pz, nz, dig, dig, ps_getD, ns_getD]
  · omega
  · intro i; rw [ns_getD]; have := gz_bd hf i; have : BB = 18446744073709551616 := rfl; omega
  · intro i; rw [ps_getD]; have := gz_bd hf i; have : BB = 18446744073709551616 := rfl; omega
/- the sum in the order of the program -/
def psum (f g : List Int) (k : Nat) : Nat → Int
  | 0 => 0
  | i + 1 => psum f g k i + if i ≤ k ∧ k - i < g.length then gz f i * gz g (k - i) else 0
def pabs (f g : List Int) (k : Nat) : Nat → Nat
  | 0 => 0
  | i + 1 => pabs f g k i + if i ≤ k ∧ k - i < g.length then (gz f i).natAbs * (gz g (k - i)).natAbs else 0
theorem psum_abs (f g : List Int) (k : Nat) : ∀ i, (psum f g k i).natAbs ≤ pabs f g k i
  | 0 => by simp [psum, pabs]
  | i + 1 => by
    have := psum_abs f g k i
    simp only [psum, pabs]
    split
    · have := Int.natAbs_add_le (psum f g k i) (gz f i * gz g (k - i))
      rw [Int.natAbs_mul] at this; omega
    · simpa using this
theorem pabs_mono (f g : List Int) (k : Nat) : ∀ {j i : Nat}, i ≤ j → pabs f g k i ≤ pabs f g k j
  | 0, i, h => by have : i = 0 := by omega
                  subst this; omega
  | j + 1, i, h => by
    by_cases e : i = j + 1
    · subst e; omega
    · have := pabs_mono f g k (show i ≤ j by omega)
      have : pabs f g k (j + 1) ≥ pabs f g k j := Nat.le_add_right _ _
      omega
theorem gz_far {g : List Int} {i : Nat} (h : g.length ≤ i) : gz g i = 0 := by unfold gz; rw [List.getD_eq_getElem?_getD, List.getElem?_eq_none h]; rfl
theorem psum_shift (x : Int) (f g : List Int) (k : Nat) : ∀ i, psum (x :: f) g (k + 1) (i + 1) = x * gz g (k + 1) + psum f g k i ∧ pabs (x :: f) g (k + 1) (i + 1) = x.natAbs * (gz g (k + 1)).natAbs + pabs f g k i
  | 0 => by
    simp only [psum, pabs]
    by_cases h : k + 1 < g.length
    · rw [if_pos ⟨by omega, by omega⟩, if_pos ⟨by omega, by omega⟩]
      show 0 + x * gz g (k + 1) = _ ∧ 0 + x.natAbs * (gz g (k + 1)).natAbs = _
      omega
    · rw [if_neg (by omega), if_neg (by omega), gz_far (by omega)]; simp
  | i + 1 => by
    obtain ⟨h1, h2⟩ := psum_shift x f g k i
    have e1 : psum (x :: f) g (k + 1) (i + 1 + 1) = psum (x :: f) g (k + 1) (i + 1) + if i ≤ k ∧ k - i < g.length then gz f i * gz g (k - i) else 0 := by
      show _ + (if i + 1 ≤ k + 1 ∧ k + 1 - (i + 1) < g.length then gz f i * gz g (k + 1 - (i + 1)) else 0) = _
      rw [show k + 1 - (i + 1) = k - i by omega]
      by_cases h : i ≤ k
      · simp only [h, show i + 1 ≤ k + 1 by omega]
      · simp only [h, show ¬ (i + 1 ≤ k + 1) by omega, false_and, if_false]
    have e2 : pabs (x :: f) g (k + 1) (i + 1 + 1) = pabs (x :: f) g (k + 1) (i + 1) + if i ≤ k ∧ k - i < g.length then (gz f i).natAbs * (gz g (k - i)).natAbs else 0 := by
      show _ + (if i + 1 ≤ k + 1 ∧ k + 1 - (i + 1) < g.length then (gz f i).natAbs * (gz g (k + 1 - (i + 1))).natAbs else 0) = _
      rw [show k + 1 - (i + 1) = k - i by omega]
      by_cases h : i ≤ k
      · simp only [h, show i + 1 ≤ k + 1 by omega]
      · simp only [h, show ¬ (i + 1 ≤ k + 1) by omega, false_and, if_false]
    rw [e1, e2, h1, h2]
    simp only [psum, pabs]
    omega
theorem psum_zero (x : Int) (f g : List Int) : ∀ i, psum (x :: f) g 0 (i + 1) = x * gz g 0 ∧ pabs (x :: f) g 0 (i + 1) = x.natAbs * (gz g 0).natAbs
  | 0 => by
    simp only [psum, pabs]
    by_cases h : 0 < g.length
    · rw [if_pos ⟨by omega, by omega⟩, if_pos ⟨by omega, by omega⟩]
      show 0 + x * gz g 0 = _ ∧ 0 + x.natAbs * (gz g 0).natAbs = _
      omega
    · rw [if_neg (by omega), if_neg (by omega), gz_far (by omega)]; simp
  | i + 1 => by
    obtain ⟨h1, h2⟩ := psum_zero x f g i
    have e1 : psum (x :: f) g 0 (i + 1 + 1) = psum (x :: f) g 0 (i + 1) := by
      show _ + (if i + 1 ≤ 0 ∧ _ then _ else 0) = _
      rw [if_neg (by omega), Int.add_zero]
    have e2 : pabs (x :: f) g 0 (i + 1 + 1) = pabs (x :: f) g 0 (i + 1) := by
      show _ + (if i + 1 ≤ 0 ∧ _ then _ else 0) = _
      rw [if_neg (by omega), Nat.add_zero]
    rw [e1, e2]; exact ⟨h1, h2⟩
theorem psum_all : ∀ (f g : List Int) (k : Nat), psum f g k f.length = cz f g k ∧ pabs f g k f.length = ca f g k
  | [], g, k => by simp [psum, pabs, cz, ca]
  | x :: f, g, 0 => psum_zero x f g f.length
  | x :: f, g, k + 1 => by
    obtain ⟨h1, h2⟩ := psum_shift x f g k f.length
    obtain ⟨h3, h4⟩ := psum_all f g k
    refine ⟨?_, ?_⟩
    · show psum (x :: f) g (k + 1) (f.length + 1) = _
      rw [h1, h3]; rfl
    · show pabs (x :: f) g (k + 1) (f.length + 1) = _
      rw [h2, h4]; rfl
theorem psum_bd {f g : List Int} {k B i : Nat} (h : ca f g k < B) (hi : i ≤ f.length) : (psum f g k i).natAbs < B := by
  have h1 := psum_abs f g k i
  have h2 := pabs_mono f g k hi
  rw [(psum_all f g k).2] at h2
  omega
/- the ends -/
def tn (l : List Int) : Nat → Nat
  | 0 => 0
  | n + 1 => if gz l n = 0 then tn l n else n + 1
theorem tn_le (l : List Int) : ∀ n, tn l n ≤ n
  | 0 => Nat.le_refl _
  | n + 1 => by
    have := tn_le l n
    unfold tn; split <;> omega
def tz (l : List Int) : List Int := l.take (tn l l.length)
theorem gz_of {l : List Int} {i : Nat} (h : i < l.length) : l[i]? = some (gz l i) := by
  unfold gz; rw [List.getD_eq_getElem?_getD, List.getElem?_eq_getElem h]; rfl
end Go.AM.Q
