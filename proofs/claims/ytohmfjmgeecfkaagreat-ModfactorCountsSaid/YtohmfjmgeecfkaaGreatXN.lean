/- Lists of small integers packed into two numbers: sums and products by digits. -/
import Derived.Test.YtohmfjmgeecfkaaGreatXM
import Derived.Test.YtohmfjmgeecfkaaGreatXF
namespace Go.AM.Q
set_option linter.unusedVariables false
set_option linter.unusedSimpArgs false
abbrev BB : Nat := 18446744073709551616
def pk : List Nat → Nat
  | [] => 0
  | x :: l => x + BB * pk l
theorem pk_dig : ∀ (l : List Nat) (k : Nat), (∀ x ∈ l, x < BB) → pk l / BB ^ k % BB = l.getD k 0
  | [], k, h => by simp [pk]
  | x :: l, 0, h => by
    have := h x (List.mem_cons_self ..)
    simp only [pk, Nat.pow_zero, Nat.div_one, List.getD_cons_zero]
    rw [Nat.add_mul_mod_self_left, Nat.mod_eq_of_lt this]
  | x :: l, k + 1, h => by
    have h0 := h x (List.mem_cons_self ..)
    have : pk (x :: l) / BB ^ (k + 1) = pk l / BB ^ k := by
      rw [Nat.pow_succ, Nat.mul_comm (BB ^ k), ← Nat.div_div_eq_div_mul]
      congr 1
      simp only [pk]
      rw [Nat.add_mul_div_left _ _ (by decide), Nat.div_eq_of_lt h0, Nat.zero_add]
    rw [this, pk_dig l k (fun y hy => h y (List.mem_cons_of_mem _ hy))]; rfl
theorem lt_of_getD {l : List Nat} {b : Nat} (h : ∀ i, l.getD i 0 < b) : ∀ x ∈ l, x < b := fun x hx => by
  obtain ⟨i, hi, rfl⟩ := List.getElem_of_mem hx
  have := h i
  rwa [List.getD_eq_getElem?_getD, List.getElem?_eq_getElem hi] at this
def addN : List Nat → List Nat → List Nat
  | [], b => b
  | a, [] => a
  | x :: a, y :: b => (x + y) :: addN a b
theorem pk_add : ∀ a b, pk (addN a b) = pk a + pk b
  | [], b => by simp [addN, pk]
  | x :: a, [] => by simp [addN, pk]
  | x :: a, y :: b => by simp only [addN, pk, pk_add a b, Nat.mul_add]; omega
theorem add_getD : ∀ (a b : List Nat) (k : Nat), (addN a b).getD k 0 = a.getD k 0 + b.getD k 0
  | [], b, k => by simp [addN]
  | x :: a, [], k => by simp [addN]
  | x :: a, y :: b, 0 => by simp [addN]
  | x :: a, y :: b, k + 1 => by simpa [addN] using add_getD a b k
def mulN : List Nat → List Nat → List Nat
  | [], g => []
  | x :: f, g => addN (g.map (x * ·)) (0 :: mulN f g)
theorem pk_map (x : Nat) : ∀ g : List Nat, pk (g.map (x * ·)) = x * pk g
  | [] => by simp [pk]
  | y :: g => by simp only [List.map_cons, pk, pk_map x g, Nat.mul_add]; rw [Nat.mul_left_comm]
theorem pk_mul : ∀ f g, pk (mulN f g) = pk f * pk g
  | [], g => by simp [mulN, pk]
  | x :: f, g => by
    simp only [mulN, pk_add, pk_map, pk, pk_mul f g, Nat.zero_add, Nat.add_mul]
    rw [Nat.mul_assoc]
def cv : List Nat → List Nat → Nat → Nat
  | [], g, k => 0
  | x :: f, g, 0 => x * g.getD 0 0
  | x :: f, g, k + 1 => x * g.getD (k + 1) 0 + cv f g k
theorem map_getD (x : Nat) (g : List Nat) (k : Nat) : (g.map (x * ·)).getD k 0 = x * g.getD k 0 := by
  rw [List.getD_eq_getElem?_getD, List.getD_eq_getElem?_getD, List.getElem?_map]
  cases g[k]? <;> simp
theorem mul_getD : ∀ (f g : List Nat) (k : Nat), (mulN f g).getD k 0 = cv f g k
  | [], g, k => by simp [mulN, cv]
  | x :: f, g, 0 => by simp only [mulN, add_getD, map_getD, cv, List.getD_cons_zero, Nat.add_zero]
  | x :: f, g, k + 1 => by simp only [mulN, add_getD, map_getD, cv, List.getD_cons_succ, mul_getD f g k]
theorem cv_le {a b : Nat} {g : List Nat} (hg : ∀ i, g.getD i 0 ≤ b) : ∀ (f : List Nat) (k : Nat), (∀ i, f.getD i 0 ≤ a) → cv f g k ≤ f.length * (a * b)
  | [], k, h => by simp [cv]
  | x :: f, 0, h => by
    have h0 : x ≤ a := by simpa using h 0
    have := Nat.mul_le_mul h0 (hg 0)
    simp only [cv, List.length_cons, Nat.add_mul]; omega
  | x :: f, k + 1, h => by
    have h0 : x ≤ a := by simpa using h 0
    have h1 := Nat.mul_le_mul h0 (hg (k + 1))
    have h2 := cv_le hg f k fun i => by simpa using h (i + 1)
    simp only [cv, List.length_cons, Nat.add_mul]; omega
/- integers -/
def gz (l : List Int) (i : Nat) : Int := l.getD i 0
def ps (l : List Int) : List Nat := l.map Int.toNat
def ns (l : List Int) : List Nat := l.map fun z => (-z).toNat
theorem ps_getD (l : List Int) (k : Nat) : (ps l).getD k 0 = (gz l k).toNat := by
  unfold ps gz
  rw [List.getD_eq_getElem?_getD, List.getD_eq_getElem?_getD, List.getElem?_map]
  cases l[k]? <;> simp
theorem ns_getD (l : List Int) (k : Nat) : (ns l).getD k 0 = (-(gz l k)).toNat := by
  unfold ns gz
  rw [List.getD_eq_getElem?_getD, List.getD_eq_getElem?_getD, List.getElem?_map]
  cases l[k]? <;> simp
def cz : List Int → List Int → Nat → Int
  | [], g, k => 0
  | x :: f, g, 0 => x * gz g 0
  | x :: f, g, k + 1 => x * gz g (k + 1) + cz f g k
/-- the sum of the absolute values of the products -/
def ca : List Int → List Int → Nat → Nat
  | [], g, k => 0
  | x :: f, g, 0 => x.natAbs * (gz g 0).natAbs
  | x :: f, g, k + 1 => x.natAbs * (gz g (k + 1)).natAbs + ca f g k
theorem one (x y : Int) : ((x.toNat * y.toNat + (-x).toNat * (-y).toNat : Nat) : Int) - ((x.toNat * (-y).toNat + (-x).toNat * y.toNat : Nat) : Int) = x * y ∧ x.toNat * y.toNat + (-x).toNat * (-y).toNat + (x.toNat * (-y).toNat + (-x).toNat * y.toNat) = x.natAbs * y.natAbs := by
  have hx : (x.toNat : Int) - ((-x).toNat : Int) = x := by omega
  have hy : (y.toNat : Int) - ((-y).toNat : Int) = y := by omega
  have ax : x.natAbs = x.toNat + (-x).toNat := by omega
  have ay : y.natAbs = y.toNat + (-y).toNat := by omega
  refine ⟨?_, ?_⟩
  · generalize (x.toNat) = a at *
    generalize ((-x).toNat) = b at *
    generalize (y.toNat) = c at *
    generalize ((-y).toNat) = d at *
    rw [← hx, ← hy]
    simp only [Int.natCast_add, Int.natCast_mul, Int.sub_mul, Int.mul_sub]
    omega
  · rw [ax, ay]; simp only [Nat.add_mul, Nat.mul_add]; omega
theorem cz_ok : ∀ (f g : List Int) (k : Nat), ((cv (ps f) (ps g) k + cv (ns f) (ns g) k : Nat) : Int) - ((cv (ps f) (ns g) k + cv (ns f) (ps g) k : Nat) : Int) = cz f g k ∧ cv (ps f) (ps g) k + cv (ns f) (ns g) k + (cv (ps f) (ns g) k + cv (ns f) (ps g) k) = ca f g k
  | [], g, k => by simp [ps, ns, cv, cz, ca]
  | x :: f, g, 0 => by
    have h := one x (gz g 0)
    show (((x.toNat * (ps g).getD 0 0 + (-x).toNat * (ns g).getD 0 0 : Nat) : Int) - ((x.toNat * (ns g).getD 0 0 + (-x).toNat * (ps g).getD 0 0 : Nat) : Int) = x * gz g 0) ∧ (x.toNat * (ps g).getD 0 0 + (-x).toNat * (ns g).getD 0 0 + (x.toNat * (ns g).getD 0 0 + (-x).toNat * (ps g).getD 0 0) = x.natAbs * (gz g 0).natAbs)
    rw [ps_getD, ns_getD]; exact h
  | x :: f, g, k + 1 => by
    have h := one x (gz g (k + 1))
    have h2 := cz_ok f g k
    show (((x.toNat * (ps g).getD (k + 1) 0 + cv (ps f) (ps g) k + ((-x).toNat * (ns g).getD (k + 1) 0 + cv (ns f) (ns g) k) : Nat) : Int) - ((x.toNat * (ns g).getD (k + 1) 0 + cv (ps f) (ns g) k + ((-x).toNat * (ps g).getD (k + 1) 0 + cv (ns f) (ps g) k) : Nat) : Int) = x * gz g (k + 1) + cz f g k) ∧ (x.toNat * (ps g).getD (k + 1) 0 + cv (ps f) (ps g) k + ((-x).toNat * (ns g).getD (k + 1) 0 + cv (ns f) (ns g) k) + (x.toNat * (ns g).getD (k + 1) 0 + cv (ps f) (ns g) k + ((-x).toNat * (ps g).getD (k + 1) 0 + cv (ns f) (ps g) k)) = x.natAbs * (gz g (k + 1)).natAbs + ca f g k)
    rw [ps_getD, ns_getD]
    omega
def pz (l : List Int) : Nat := pk (ps l)
def nz (l : List Int) : Nat := pk (ns l)
theorem dig {l : List Nat} (h : ∀ i, l.getD i 0 < BB) (k : Nat) : pk l / BB ^ k % BB = l.getD k 0 := pk_dig l k (lt_of_getD h)
theorem gz_bd {l : List Int} {m : Nat} (h : ∀ z ∈ l, z.natAbs ≤ m) (i : Nat) : (gz l i).natAbs ≤ m := by
  unfold gz
  rw [List.getD_eq_getElem?_getD]
  cases hi : l[i]? with
  | none => simp
  | some z => exact h z (List.mem_of_getElem? hi)
theorem ps_len (l : List Int) : (ps l).length = l.length := by simp [ps]
theorem ns_len (l : List Int) : (ns l).length = l.length := by simp [ns]
/-- the digits of the product -/
theorem mul_dig {f g : List Int} {m m' : Nat} (hf : ∀ z ∈ f, z.natAbs ≤ m) (hg : ∀ z ∈ g, z.natAbs ≤ m') (hm : m < 64) (hm' : m' < 64) (lf : f.length ≤ 100000) (k : Nat) :
    ((((pz f * pz g + nz f * nz g) / BB ^ k % BB : Nat) : Int) - (((pz f * nz g + nz f * pz g) / BB ^ k % BB : Nat) : Int) = cz f g k) ∧ (pz f * pz g + nz f * nz g) / BB ^ k % BB + (pz f * nz g + nz f * pz g) / BB ^ k % BB = ca f g k := by
  have bp : ∀ i, (ps f).getD i 0 ≤ 64 := fun i => by rw [ps_getD]; have := gz_bd hf i; omega
  have bn : ∀ i, (ns f).getD i 0 ≤ 64 := fun i => by rw [ns_getD]; have := gz_bd hf i; omega
  have cp : ∀ i, (ps g).getD i 0 ≤ 64 := fun i => by rw [ps_getD]; have := gz_bd hg i; omega
  have cn : ∀ i, (ns g).getD i 0 ≤ 64 := fun i => by rw [ns_getD]; have := gz_bd hg i; omega
  have e1 : pz f * pz g + nz f * nz g = pk (addN (mulN (ps f) (ps g)) (mulN (ns f) (ns g))) := by rw [pk_add, pk_mul, pk_mul]; rfl
  have e2 : pz f * nz g + nz f * pz g = pk (addN (mulN (ps f) (ns g)) (mulN (ns f) (ps g))) := by rw [pk_add, pk_mul, pk_mul]; rfl
  rw [e1, e2, dig, dig, add_getD, add_getD, mul_getD, mul_getD, mul_getD, mul_getD]
  · exact cz_ok f g k
  · intro i
    rw [add_getD, mul_getD, mul_getD]
    have h1 := cv_le cn (ps f) i bp
    have h2 := cv_le cp (ns f) i bn
    rw [ps_len] at h1; rw [ns_len] at h2; have : BB = 18446744073709551616 := rfl; omega
  · intro i
    rw [add_getD, mul_getD, mul_getD]
    have h1 := cv_le cp (ps f) i bp
    have h2 := cv_le cn (ns f) i bn
    rw [ps_len] at h1; rw [ns_len] at h2; have : BB = 18446744073709551616 := rfl; omega
/-- the digits of the sum -/
theorem add_dig {f g : List Int} {m m' : Nat} (hf : ∀ z ∈ f, z.natAbs ≤ m) (hg : ∀ z ∈ g, z.natAbs ≤ m') (hm : m < 64) (hm' : m' < 64) (k : Nat) :
    ((((pz f + pz g) / BB ^ k % BB : Nat) : Int) - (((nz f + nz g) / BB ^ k % BB : Nat) : Int) = gz f k + gz g k) := by
  have e1 : pz f + pz g = pk (addN (ps f) (ps g)) := by rw [pk_add]; rfl
  have e2 : nz f + nz g = pk (addN (ns f) (ns g)) := by rw [pk_add]; rfl
  rw [e1, e2, dig, dig, add_getD, add_getD, ps_getD, ps_getD, ns_getD, ns_getD]
  · omega
  · intro i
    rw [add_getD, ns_getD, ns_getD]
    have h1 := gz_bd hf i
    have h2 := gz_bd hg i
    have : BB = 18446744073709551616 := rfl
    omega
  · intro i
    rw [add_getD, ps_getD, ps_getD]
    have h1 := gz_bd hf i
    have h2 := gz_bd hg i
    have : BB = 18446744073709551616 := rfl
    omega
/-- the digits of a multiple -/
theorem scale_dig {f : List Int} {m : Nat} (c : Int) (hf : ∀ z ∈ f, z.natAbs ≤ m) (hm : m < 64) (hc : c.natAbs < 64) (k : Nat) :
    ((((pz f * c.toNat + nz f * (-c).toNat) / BB ^ k % BB : Nat) : Int) - (((pz f * (-c).toNat + nz f * c.toNat) / BB ^ k % BB : Nat) : Int) = gz f k * c) := by
  have e1 : pz f * c.toNat + nz f * (-c).toNat = pk (addN ((ps f).map (c.toNat * ·)) ((ns f).map ((-c).toNat * ·))) := by rw [pk_add, pk_map, pk_map, Nat.mul_comm (pz f), Nat.mul_comm (nz f)]; rfl
  have e2 : pz f * (-c).toNat + nz f * c.toNat = pk (addN ((ps f).map ((-c).toNat * ·)) ((ns f).map (c.toNat * ·))) := by rw [pk_add, pk_map, pk_map, Nat.mul_comm (pz f), Nat.mul_comm (nz f)]; rfl
  have h0 : ∀ i (a b : Nat), a ≤ 64 → b ≤ 64 → a * (gz f i).toNat + b * (-(gz f i)).toNat < BB := fun i a b ha hb => by
    have h1 := gz_bd hf i
    have h2 := Nat.mul_le_mul ha (show (gz f i).toNat ≤ 64 by omega)
    have h3 := Nat.mul_le_mul hb (show (-(gz f i)).toNat ≤ 64 by omega)
    have : BB = 18446744073709551616 := rfl
    omega
  rw [e1, e2, dig, dig, add_getD, add_getD, map_getD, map_getD, map_getD, map_getD, ps_getD, ns_getD]
  · have := (one c (gz f k)).1
    rw [Int.mul_comm c] at this
    omega
  · intro i
    rw [add_getD, map_getD, map_getD, ps_getD, ns_getD]
    exact h0 i _ _ (by omega) (by omega)
  · intro i
    rw [add_getD, map_getD, map_getD, ps_getD, ns_getD]
    exact h0 i _ _ (by omega) (by omega)
theorem id_dig {f : List Int} {m : Nat} (hf : ∀ z ∈ f, z.natAbs ≤ m) (hm : m < 64) (k : Nat) :
    (((pz f / BB ^ k % BB : Nat) : Int) - ((nz f / BB ^ k % BB : Nat) : Int) = gz f k) := by
  rw [pz, nz, dig, dig, ps_getD, ns_getD]
  · omega
  · intro i; rw [ns_getD]; have := gz_bd hf i; have : BB = 18446744073709551616 := rfl; omega
  · intro i; rw [ps_getD]; have := gz_bd hf i; have : BB = 18446744073709551616 := rfl; omega
/- the sum in the order of the program -/
def psum (f g : List Int) (k : Nat) : Nat → Int
  | 0 => 0
  | i + 1 => psum f g k i + if i ≤ k ∧ k - i < g.length then gz f i * gz g (k - i) else 0
def pabs (f g : List Int) (k : Nat) : Nat → Nat
  | 0 => 0
  | i + 1 => pabs f g k i + if i ≤ k ∧ k - i < g.length then (gz f i).natAbs * (gz g (k - i)).natAbs else 0
theorem psum_abs (f g : List Int) (k : Nat) : ∀ i, (psum f g k i).natAbs ≤ pabs f g k i
  | 0 => by simp [psum, pabs]
  | i + 1 => by
    have := psum_abs f g k i
    simp only [psum, pabs]
    split
    · have := Int.natAbs_add_le (psum f g k i) (gz f i * gz g (k - i))
      rw [Int.natAbs_mul] at this; omega
    · simpa using this
theorem pabs_mono (f g : List Int) (k : Nat) : ∀ {j i : Nat}, i ≤ j → pabs f g k i ≤ pabs f g k j
  | 0, i, h => by have : i = 0 := by omega
                  subst this; omega
  | j + 1, i, h => by
    by_cases e : i = j + 1
    · subst e; omega
    · have := pabs_mono f g k (show i ≤ j by omega)
      have : pabs f g k (j + 1) ≥ pabs f g k j := Nat.le_add_right _ _
      omega
theorem gz_far {g : List Int} {i : Nat} (h : g.length ≤ i) : gz g i = 0 := by unfold gz; rw [List.getD_eq_getElem?_getD, List.getElem?_eq_none h]; rfl
theorem psum_shift (x : Int) (f g : List Int) (k : Nat) : ∀ i, psum (x :: f) g (k + 1) (i + 1) = x * gz g (k + 1) + psum f g k i ∧ pabs (x :: f) g (k + 1) (i + 1) = x.natAbs * (gz g (k + 1)).natAbs + pabs f g k i
  | 0 => by
    simp only [psum, pabs]
    by_cases h : k + 1 < g.length
    · rw [if_pos ⟨by omega, by omega⟩, if_pos ⟨by omega, by omega⟩]
      show 0 + x * gz g (k + 1) = _ ∧ 0 + x.natAbs * (gz g (k + 1)).natAbs = _
      omega
    · rw [if_neg (by omega), if_neg (by omega), gz_far (by omega)]; simp
  | i + 1 => by
    obtain ⟨h1, h2⟩ := psum_shift x f g k i
    have e1 : psum (x :: f) g (k + 1) (i + 1 + 1) = psum (x :: f) g (k + 1) (i + 1) + if i ≤ k ∧ k - i < g.length then gz f i * gz g (k - i) else 0 := by
      show _ + (if i + 1 ≤ k + 1 ∧ k + 1 - (i + 1) < g.length then gz f i * gz g (k + 1 - (i + 1)) else 0) = _
      rw [show k + 1 - (i + 1) = k - i by omega]
      by_cases h : i ≤ k
      · simp only [h, show i + 1 ≤ k + 1 by omega]
      · simp only [h, show ¬ (i + 1 ≤ k + 1) by omega, false_and, if_false]
    have e2 : pabs (x :: f) g (k + 1) (i + 1 + 1) = pabs (x :: f) g (k + 1) (i + 1) + if i ≤ k ∧ k - i < g.length then (gz f i).natAbs * (gz g (k - i)).natAbs else 0 := by
      show _ + (if i + 1 ≤ k + 1 ∧ k + 1 - (i + 1) < g.length then (gz f i).natAbs * (gz g (k + 1 - (i + 1))).natAbs else 0) = _
      rw [show k + 1 - (i + 1) = k - i by omega]
      by_cases h : i ≤ k
      · simp only [h, show i + 1 ≤ k + 1 by omega]
      · simp only [h, show ¬ (i + 1 ≤ k + 1) by omega, false_and, if_false]
    rw [e1, e2, h1, h2]
    simp only [psum, pabs]
    omega
theorem psum_zero (x : Int) (f g : List Int) : ∀ i, psum (x :: f) g 0 (i + 1) = x * gz g 0 ∧ pabs (x :: f) g 0 (i + 1) = x.natAbs * (gz g 0).natAbs
  | 0 => by
    simp only [psum, pabs]
    by_cases h : 0 < g.length
    · rw [if_pos ⟨by omega, by omega⟩, if_pos ⟨by omega, by omega⟩]
      show 0 + x * gz g 0 = _ ∧ 0 + x.natAbs * (gz g 0).natAbs = _
      omega
    · rw [if_neg (by omega), if_neg (by omega), gz_far (by omega)]; simp
  | i + 1 => by
    obtain ⟨h1, h2⟩ := psum_zero x f g i
    have e1 : psum (x :: f) g 0 (i + 1 + 1) = psum (x :: f) g 0 (i + 1) := by
      show _ + (if i + 1 ≤ 0 ∧ _ then _ else 0) = _
      rw [if_neg (by omega), Int.add_zero]
    have e2 : pabs (x :: f) g 0 (i + 1 + 1) = pabs (x :: f) g 0 (i + 1) := by
      show _ + (if i + 1 ≤ 0 ∧ _ then _ else 0) = _
      rw [if_neg (by omega), Nat.add_zero]
    rw [e1, e2]; exact ⟨h1, h2⟩
theorem psum_all : ∀ (f g : List Int) (k : Nat), psum f g k f.length = cz f g k ∧ pabs f g k f.length = ca f g k
  | [], g, k => by simp [psum, pabs, cz, ca]
  | x :: f, g, 0 => psum_zero x f g f.length
  | x :: f, g, k + 1 => by
    obtain ⟨h1, h2⟩ := psum_shift x f g k f.length
    obtain ⟨h3, h4⟩ := psum_all f g k
    refine ⟨?_, ?_⟩
    · show psum (x :: f) g (k + 1) (f.length + 1) = _
      rw [h1, h3]; rfl
    · show pabs (x :: f) g (k + 1) (f.length + 1) = _
      rw [h2, h4]; rfl
theorem psum_bd {f g : List Int} {k B i : Nat} (h : ca f g k < B) (hi : i ≤ f.length) : (psum f g k i).natAbs < B := by
  have h1 := psum_abs f g k i
  have h2 := pabs_mono f g k hi
  rw [(psum_all f g k).2] at h2
  omega
/- the ends -/
def tn (l : List Int) : Nat → Nat
  | 0 => 0
  | n + 1 => if gz l n = 0 then tn l n else n + 1
theorem tn_le (l : List Int) : ∀ n, tn l n ≤ n
  | 0 => Nat.le_refl _
  | n + 1 => by
    have := tn_le l n
    unfold tn; split <;> omega
def tz (l : List Int) : List Int := l.take (tn l l.length)
theorem gz_of {l : List Int} {i : Nat} (h : i < l.length) : l[i]? = some (gz l i) := by
  unfold gz; rw [List.getD_eq_getElem?_getD, List.getElem?_eq_getElem h]; rfl
end Go.AM.Q

/- Rows of small whole fractions in memory. -/
namespace Go.AM.Q
set_option linter.unusedVariables false
set_option linter.unusedSimpArgs false
variable {S S0 S1 : St} {v : V} {l : List Int} {id : Pos}
def zs : Nat → List Nat
  | 0 => []
  | n + 1 => [n + 1]
/-- the cells of a whole fraction -/
def zc (z : Int) : List V := [.b (decide (z < 0)), .s (zs z.natAbs), .s [1]]
abbrev zv (z : Int) : V := .ag (zc z)
def cells : List Int → List V
  | [] => []
  | z :: l => zc z ++ cells l
theorem cells_len : ∀ l, (cells l).length = l.length * 3
  | [] => rfl
  | z :: l => by simp only [cells, List.length_append, cells_len l, List.length_cons]; simp [zc]; omega
theorem cells_app : ∀ (l m : List Int), cells (l ++ m) = cells l ++ cells m
  | [], m => rfl
  | z :: l, m => by simp only [List.cons_append, cells, cells_app l m, List.append_assoc]
theorem cells_drop : ∀ (l : List Int) (t : List V) (i : Nat), i ≤ l.length → (cells l ++ t).drop (i * 3) = cells (l.drop i) ++ t
  | l, t, 0, h => by simp
  | [], t, i + 1, h => by simp at h
  | z :: l, t, i + 1, h => by
    rw [show (i + 1) * 3 = 3 + i * 3 by omega]
    show (zc z ++ cells l ++ t).drop (3 + i * 3) = _
    rw [← List.drop_drop]
    exact cells_drop l t i (by simpa using h)
theorem cells_take : ∀ (l : List Int) (t : List V) (i : Nat), i ≤ l.length → (cells l ++ t).take (i * 3) = cells (l.take i)
  | l, t, 0, h => by simp [cells]
  | [], t, i + 1, h => by simp at h
  | z :: l, t, i + 1, h => by
    rw [show (i + 1) * 3 = i * 3 + 3 by omega]
    show (.b (decide (z < 0)) :: .s (zs z.natAbs) :: .s [1] :: (cells l ++ t)).take (i * 3 + 3) = _
    simp only [List.take_succ_cons]
    rw [cells_take l t i (by simpa using h)]; rfl
def QRow (S : St) (v : V) (l : List Int) : Prop := match v with
  | .sl id off len cap => len = l.length ∧ len ≤ cap ∧ cap ≤ 1073741824 ∧ ∃ b : Blk, S.h.get id = some b ∧ ∃ t, b.cs.drop off = cells l ++ t
  | .so id off len cap sz => sz = 3 ∧ len = l.length ∧ len ≤ cap ∧ cap ≤ 1073741824 ∧ ∃ b : Blk, S.h.get id = some b ∧ ∃ t, b.cs.drop off = cells l ++ t
  | .sn => l = []
  | _ => False
theorem ldn_eq {b : Blk} {o : Nat} {z : Int} {t : List V} (h : S.h.get id = some b) (hd : b.cs.drop o = zc z ++ t) (c : V → R) : pLdn 3 (.p id o) S c = c (zv z) := by
  have ho : o ≤ b.cs.length := by
    rcases Nat.lt_or_ge b.cs.length o with h1 | h1
    · rw [List.drop_eq_nil_of_le (by omega)] at hd; cases hd
    · exact h1
  show cellsAt id S (fun cs => dropK cs o (fun l => takeK l 3 (fun l => c (.ag l)))) = _
  rw [cellsAt_eq h, dropK_eq _ _ _ ho, hd, takeK_eq _ _ _ (by simp [zc])]; rfl
theorem QRow.len (h : QRow S v l) (c : V → R) : pLen v c = c (nn l.length) ∧ l.length ≤ 1073741824 := by
  unfold QRow at h
  split at h
  · obtain ⟨rfl, h1, h2, _⟩ := h
    refine ⟨?_, by omega⟩
    show gu (Nat.ble l.length 1073741824) (retI c .i64 l.length) = _
    rw [Nat.ble_eq_true_of_le (by omega), gu_true, retI_eq]
  · obtain ⟨_, rfl, h1, h2, _⟩ := h
    refine ⟨?_, by omega⟩
    show gu (Nat.ble l.length 1073741824) (retI c .i64 l.length) = _
    rw [Nat.ble_eq_true_of_le (by omega), gu_true, retI_eq]
  · subst h; exact ⟨rfl, by simp⟩
  · exact h.elim
theorem drop_at {cs t : List V} {off i : Nat} {l : List Int} (h : cs.drop off = cells l ++ t) (hi : i < l.length) : cs.drop (off + i * 3) = zc (gz l i) ++ (cells (l.drop (i + 1)) ++ t) := by
  rw [← List.drop_drop, h, cells_drop _ _ _ (by omega), List.drop_eq_getElem_cons hi]
  have : l[i] = gz l i := by have := gz_of hi; rw [List.getElem?_eq_getElem hi] at this; exact Option.some.inj this
  rw [this]
  show zc (gz l i) ++ cells (l.drop (i + 1)) ++ t = _
  rw [List.append_assoc]
theorem QRow.get (h : QRow S v l) {i : Nat} (hi : i < l.length) : ∃ q, (∀ c, pIdx 3 v (nn i) c = c q) ∧ ∀ c, pLdn 3 q S c = c (zv (gz l i)) := by
  have hb := (h.len (fun _ => none)).2
  unfold QRow at h
  split at h
  · rename_i id off len cap
    obtain ⟨rfl, _, _, b, h2, t, h3⟩ := h
    refine ⟨.p id (off + i * 3), fun c => ?_, fun c => ldn_eq h2 (drop_at h3 hi) c⟩
    show gu (Bool.not (neg .i64 i)) (gu (Nat.blt i l.length) (fN (Nat.add off (Nat.mul i 3)) (fun o => c (.p id o)))) = _
    rw [neg_n (by omega), blt_eq, decide_eq_true hi, fN_eq]; rfl
  · rename_i id off len cap sz
    obtain ⟨rfl, rfl, _, _, b, h2, t, h3⟩ := h
    refine ⟨.p id (off + i * 3), fun c => ?_, fun c => ldn_eq h2 (drop_at h3 hi) c⟩
    show gu (Bool.not (neg .i64 i)) (gu (Nat.blt i l.length) (fN (Nat.add off (Nat.mul i 3)) (fun o => c (.p id o)))) = _
    rw [neg_n (by omega), blt_eq, decide_eq_true hi, fN_eq]; rfl
  · subst h; simp at hi
  · exact h.elim
/-- a memory in a run that began in the locked memory S0 -/
structure Run (S0 S : St) : Prop where
  ok : SOK S
  fl : S.fl = S0.cnt
  cnt : S0.cnt ≤ S.cnt
  pos : 1 ≤ S0.cnt
  old : ∀ id : Pos, id.num < S0.cnt → S.h.get id = S0.h.get id
theorem Run.start {S : St} (ok : SOK S) : Run S.lock S.lock :=
  ⟨ok.lock, rfl, Nat.le_refl _, Nat.le_trans ok.fl ok.le, fun _ _ => rfl⟩
theorem QRow.run (ok : SOK S0) (h : QRow S0 v l) (r : Run S0 S) : QRow S v l := by
  unfold QRow at h ⊢
  split at h
  · obtain ⟨h1, g1, g2, b, h2, h3⟩ := h
    exact ⟨h1, g1, g2, b, by rw [r.old _ (ok.blk _ _ h2).1]; exact h2, h3⟩
  · obtain ⟨h0, h1, g1, g2, b, h2, h3⟩ := h
    exact ⟨h0, h1, g1, g2, b, by rw [r.old _ (ok.blk _ _ h2).1]; exact h2, h3⟩
  · exact h
  · exact h.elim
/-- a block of one's own -/
def Own (S0 S : St) (id : Pos) (cs : List V) : Prop := S0.cnt ≤ id.num ∧ ∃ n, S.h.get id = some ⟨n, cs⟩ ∧ S0.cnt ≤ n
theorem Run.new (r : Run S0 S) (cs : List V) : Run S0 (S.new cs) :=
  ⟨r.ok.new cs, r.fl, Nat.le_succ_of_le r.cnt, r.pos, fun q hq => by
    rw [St.new_get_ne _ (fun e => by have := r.cnt; rw [e, r.ok.nx] at hq; omega)]; exact r.old q hq⟩
theorem Own.new (r : Run S0 S) (cs : List V) : Own S0 (S.new cs) S.nx cs :=
  ⟨by rw [r.ok.nx]; exact r.cnt, S.cnt, St.new_get _ _, r.cnt⟩
theorem Own.keep {cs : List V} (h : Own S0 S id cs) (r : Run S0 S) (ds : List V) : Own S0 (S.new ds) id cs ∧ id ≠ S.nx := by
  obtain ⟨h0, n, h1, h2⟩ := h
  exact ⟨⟨h0, n, by rw [St.new_get_ne _ (r.ok.ne_nx h1)]; exact h1, h2⟩, r.ok.ne_nx h1⟩
theorem Own.upd {cs ds : List V} {q : Pos} {b : Blk} (h : Own S0 S id cs) (hq : id ≠ q) : Own S0 (S.upd q b) id cs := by
  obtain ⟨h0, n, h1, h2⟩ := h
  exact ⟨h0, n, by rw [St.upd_get_ne _ hq]; exact h1, h2⟩
theorem Run.kill {cs : List V} (r : Run S0 S) (h : Own S0 S id cs) : Run S0 (S.upd id ⟨0, []⟩) := by
  obtain ⟨h0, n, h1, h2⟩ := h
  exact ⟨r.ok.upd h1 (.inr ⟨rfl, rfl⟩), r.fl, r.cnt, r.pos, fun q hq => by
    rw [St.upd_get_ne _ (fun e => by rw [e] at hq; omega)]; exact r.old q hq⟩
/-- a fraction is written into a block of one's own -/
theorem Own.st {cs : List V} (h : Own S0 S id cs) (r : Run S0 S) (hl : cs.length = 3) (z : Int) :
    ∃ S', Run S0 S' ∧ Own S0 S' id (zc z) ∧ (∀ q ds, q ≠ id → Own S0 S q ds → Own S0 S' q ds) ∧ ∀ c : St → R, pSt 3 (.p id 0) (zv z) S c = c S' := by
  obtain ⟨h0, n, h1, h2⟩ := h
  have hp := r.pos
  refine ⟨S.upd id ⟨n, zc z⟩, ⟨r.ok.upd h1 (.inl ⟨rfl, show n ≠ 0 by omega⟩), r.fl, r.cnt, r.pos, fun q hq => ?_⟩, ⟨h0, n, St.upd_get _ _, h2⟩, fun q ds hq ho => ho.upd (ds := []) hq, fun c => ?_⟩
  · rw [St.upd_get_ne _ (fun e => by rw [e] at hq; omega)]; exact r.old q hq
  · match cs, hl, h1 with
    | [a, b, d], _, h1 =>
      show updK id S 0 (zc z) c = _
      show getBK id S.h _ = _
      rw [getBK_eq _ _ _ _ h1]
      show gu (Nat.ble S.fl n) _ = _
      rw [Nat.ble_eq_true_of_le (by rw [r.fl]; exact h2), gu_true]
      show setBK id (.mk n (zc z)) S.h _ = _
      rw [setBK_eq]; rfl
theorem Own.ld {z : Int} (h : Own S0 S id (zc z)) (c : V → R) : pLdn 3 (.p id 0) S c = c (zv z) := by
  obtain ⟨h0, n, h1, h2⟩ := h
  exact ldn_eq (t := []) h1 (by simp) c
/-- a row that grows -/
def Grow (S0 S : St) (v : V) (l : List Int) : Prop := v = .sn ∧ l = [] ∨ ∃ id, v = .so id 0 l.length l.length 3 ∧ Own S0 S id (cells l)
theorem Grow.row (h : Grow S0 S v l) (hl : l.length ≤ 1073741824) : QRow S v l := by
  rcases h with ⟨rfl, rfl⟩ | ⟨id, rfl, h0, n, h1, h2⟩
  · rfl
  · exact ⟨rfl, rfl, Nat.le_refl _, hl, _, h1, [], by simp⟩
theorem bsl_eq (z : Int) (S : St) (c : Cont) : pBsl [(.b false), (.s []), (.s [])] 1 [(0, 3, zv z)] S c = c (.sl S.nx 0 1 1) (S.new (zc z)) := by
  show newK (zc z) S (fun nx S' => c (.sl nx 0 1 1) S') = _
  rw [newK_eq]
theorem app_nil {id2 : Pos} {b2 : Nat} {z : Int} (h2 : S.h.get id2 = some ⟨b2, zc z⟩) (c : Cont) : pApp 3 .sn (.sl id2 0 1 1) S c = c (.so S.nx 0 1 1 3) (S.new (zc z)) := by
  show elems 3 id2 0 1 S (fun new => app1 3 1 new .sn S c) = _
  rw [elems_eq h2 (by simp [zc])]
  show newK (zc z) S (fun nx S' => c (.so nx 0 1 1 3) S') = _
  rw [newK_eq]
theorem app_so {id2 : Pos} {b b2 n : Nat} {cs : List V} {z : Int} (h2 : S.h.get id2 = some ⟨b2, zc z⟩) (h : S.h.get id = some ⟨b, cs⟩) (hb : S.fl ≤ b) (hc : cs.length = n * 3) (hl : n < 1073741824) (c : Cont) :
    pApp 3 (.so id 0 n n 3) (.sl id2 0 1 1) S c = c (.so S.nx 0 (n + 1) (n + 1) 3) ((S.upd id ⟨0, []⟩).new (cs ++ zc z)) := by
  show elems 3 id2 0 1 S (fun new => app1 3 1 new (.so id 0 n n 3) S c) = _
  rw [elems_eq h2 (by simp [zc])]
  show Bool.rec (motive := fun _ => Unit → R) _ _ (Nat.ble (n + 1) n) () = _
  have e : Nat.ble (n + 1) n = false := by rw [ble_eq]; exact decide_eq_false (by omega)
  rw [e]
  show elems 3 id 0 n S (fun old => appK old (zc z) (fun cs => killK id S (fun S => newK cs S (fun nx S' => fN (Nat.add n 1) (fun l => gu (Nat.ble l 1073741824) (c (.so nx 0 l l 3) S')))))) = _
  rw [elems_eq h (by show 0 + n * 3 ≤ cs.length; omega), appK_eq]
  show killK id S _ = _
  show getBK id S.h _ = _
  rw [getBK_eq _ _ _ _ h]
  show gu (Nat.ble S.fl b) _ = _
  rw [Nat.ble_eq_true_of_le hb, gu_true]
  show setBK id (.mk 0 []) S.h _ = _
  rw [setBK_eq]
  show newK _ (St.upd S id ⟨0, []⟩) _ = _
  rw [newK_eq, fN_eq]
  show gu (Nat.ble (n + 1) 1073741824) _ = _
  rw [Nat.ble_eq_true_of_le (show n + 1 ≤ 1073741824 by omega), gu_true]
  have e2 : (cs.drop 0).take (n * 3) = cs := by rw [List.drop_zero, ← hc, List.take_length]
  show c _ (St.new (St.upd S id ⟨0, []⟩) ((cs.drop 0).take (n * 3) ++ zc z)) = _
  rw [e2]; rfl
def Apart (v : V) (q : Pos) : Prop := ∀ a b c d, v ≠ .so q a b c d
theorem Grow.app (h : Grow S0 S v l) (r : Run S0 S) (hl : l.length < 1000000) (z : Int) :
    ∃ S' v', Run S0 S' ∧ Grow S0 S' v' (l ++ [z]) ∧ (∀ q ds, Own S0 S q ds → Apart v q → Own S0 S' q ds ∧ Apart v' q) ∧ ∀ c : Cont, pBsl [(.b false), (.s []), (.s [])] 1 [(0, 3, zv z)] S (fun a S => pApp 3 v a S c) = c v' S' := by
  have r1 := r.new (zc z)
  obtain ⟨_, n2, g1, g2⟩ := Own.new r (zc z)
  rcases h with ⟨rfl, rfl⟩ | ⟨id, rfl, ho⟩
  · refine ⟨_, .so (S.new (zc z)).nx 0 1 1 3, r1.new (zc z), .inr ⟨_, rfl, ?_⟩, fun q ds hq _ => ?_, fun c => by rw [bsl_eq, app_nil g1]⟩
    · have := Own.new r1 (zc z)
      simpa [cells] using this
    · obtain ⟨h1, _⟩ := hq.keep r (zc z)
      obtain ⟨h2, h3⟩ := h1.keep r1 (zc z)
      exact ⟨h2, fun a b c d e => by cases e; exact h3 rfl⟩
  · obtain ⟨ho1, hne⟩ := ho.keep r (zc z)
    have ho2 := ho1
    obtain ⟨h0, n, h1, h2⟩ := ho2
    have r2 := r1.kill ho1
    have e : cells l ++ zc z = cells (l ++ [z]) := by rw [cells_app]; simp [cells]
    refine ⟨_, .so (S.new (zc z)).nx 0 (l.length + 1) (l.length + 1) 3, r2.new (cells l ++ zc z), .inr ⟨_, by rw [List.length_append]; rfl, ?_⟩, fun q ds hq ha => ?_, fun c => by rw [bsl_eq, app_so g1 h1 (by rw [r1.fl]; exact h2) (cells_len l) (by omega)]⟩
    · have := Own.new r2 (cells l ++ zc z)
      rwa [e] at this ⊢
    · obtain ⟨k1, _⟩ := hq.keep r (zc z)
      have hqi : q ≠ id := fun e => ha _ _ _ _ (by rw [e])
      obtain ⟨k3, k4⟩ := (k1.upd (ds := []) (b := ⟨0, []⟩) hqi).keep r2 (cells l ++ zc z)
      exact ⟨k3, fun a b c d e => by cases e; exact k4 rfl⟩
/-- what a function on rows hands back -/
def Res (S0 S : St) (v : V) (l : List Int) : Prop := l = [] ∧ (∃ id, v = .sl id 0 0 0 ∧ Own S0 S id []) ∨ l ≠ [] ∧ ∃ id, v = .so id 0 l.length l.length 3 ∧ Own S0 S id (cells l)
theorem slc_eq (h : QRow S v l) {n : Nat} (hn : n ≤ l.length) : ∃ a, (∀ c, pSlc 3 v none (some (nn n)) none c = c a) ∧ QRow S a (l.take n) := by
  have hb := (h.len (fun _ => none)).2
  unfold QRow at h
  split at h
  · rename_i id off len cap
    obtain ⟨rfl, g1, g2, b, h2, t, h3⟩ := h
    refine ⟨.sl id off n cap, fun c => ?_, ?_⟩
    · show gu (Nat.ble cap cap) (gu (Bool.not (neg .i64 n)) (gu (Nat.ble n cap) (gu (Nat.ble 0 n) (fN (cut 3 off 0 cap) (fun o => fN (Nat.sub n 0) (fun n' => fN (Nat.sub cap 0) (fun q => c (.sl id o n' q)))))))) = _
      rw [neg_n (by omega), Nat.ble_eq_true_of_le (Nat.le_refl cap), Nat.ble_eq_true_of_le (show n ≤ cap by omega), Nat.ble_eq_true_of_le (Nat.zero_le n)]
      simp only [fN_eq]
      show c (.sl id (cut 3 off 0 cap) (n - 0) (cap - 0)) = _
      rw [show cut 3 off 0 cap = off by unfold cut; cases Nat.beq cap 0 <;> simp, Nat.sub_zero, Nat.sub_zero]
    · refine ⟨by rw [List.length_take]; omega, by omega, g2, b, h2, cells (l.drop n) ++ t, ?_⟩
      rw [h3, ← List.append_assoc, ← cells_app, List.take_append_drop]
  · rename_i id off len cap sz
    obtain ⟨rfl, rfl, g1, g2, b, h2, t, h3⟩ := h
    refine ⟨.so id off n cap 3, fun c => ?_, ?_⟩
    · show gu (Bool.not (neg .i64 n)) (gu (Nat.ble n cap) (gu (Nat.ble 0 n) (fN (Nat.add off (Nat.mul 0 3)) (fun o => fN (Nat.sub n 0) (fun n' => fN (Nat.sub cap 0) (fun q => c (.so id o n' q 3))))))) = _
      rw [neg_n (by omega), Nat.ble_eq_true_of_le (show n ≤ cap by omega), Nat.ble_eq_true_of_le (Nat.zero_le n)]
      simp only [fN_eq]
      show c (.so id (off + 0 * 3) (n - 0) (cap - 0) 3) = _
      rw [Nat.zero_mul, Nat.add_zero, Nat.sub_zero, Nat.sub_zero]
    · refine ⟨rfl, by rw [List.length_take]; omega, by omega, g2, b, h2, cells (l.drop n) ++ t, ?_⟩
      rw [h3, ← List.append_assoc, ← cells_app, List.take_append_drop]
  · subst h
    have : n = 0 := by simpa using hn
    subst this
    exact ⟨.sn, fun c => rfl, rfl⟩
  · exact h.elim
theorem copy_eq (r : Run S0 S) (h : QRow S v l) : ∃ S' v', Run S0 S' ∧ Res S0 S' v' l ∧ ∀ c : Cont, pApp 3 (.sl S.nx 0 0 0) v (S.new []) c = c v' S' := by
  have r1 := r.new []
  have h1 : QRow (S.new []) v l := by
    unfold QRow at h ⊢
    split at h
    · obtain ⟨h1, g1, g2, b, h2, h3⟩ := h
      exact ⟨h1, g1, g2, b, by rw [St.new_get_ne _ (r.ok.ne_nx h2)]; exact h2, h3⟩
    · obtain ⟨h0, h1, g1, g2, b, h2, h3⟩ := h
      exact ⟨h0, h1, g1, g2, b, by rw [St.new_get_ne _ (r.ok.ne_nx h2)]; exact h2, h3⟩
    · exact h
    · exact h.elim
  have hb := (h.len (fun _ => none)).2
  have sl : ∀ (id2 : Pos) (off : Nat) (b : Blk) (t : List V), (S.new []).h.get id2 = some b → b.cs.drop off = cells l ++ t → ∃ S' v', Run S0 S' ∧ Res S0 S' v' l ∧ ∀ c : Cont, gu (Nat.ble l.length 1073741824) (Nat.rec (motive := fun _ => Unit → R) (fun _ => c (.sl S.nx 0 0 0) (S.new [])) (fun _ _ _ => elems 3 id2 off l.length (S.new []) (fun new => app1 3 l.length new (.sl S.nx 0 0 0) (S.new []) c)) l.length ()) = c v' S' := fun id2 off b t h2 h3 => by
    rw [Nat.ble_eq_true_of_le hb]
    cases hl : l with
    | nil => exact ⟨S.new [], .sl S.nx 0 0 0, r1, .inl ⟨rfl, _, rfl, Own.new r []⟩, fun c => rfl⟩
    | cons z l' =>
      rw [← hl]
      refine ⟨(S.new []).new (cells l), .so (S.new []).nx 0 l.length l.length 3, r1.new _, .inr ⟨by rw [hl]; simp, _, rfl, Own.new r1 _⟩, fun c => ?_⟩
      have ho : off ≤ b.cs.length := by
        rcases Nat.lt_or_ge b.cs.length off with h5 | h5
        · rw [List.drop_eq_nil_of_le (by omega), hl] at h3; cases h3
        · exact h5
      have hlen : b.cs.length - off = l.length * 3 + t.length := by rw [← List.length_drop, h3, List.length_append, cells_len]
      have e : ∀ X Y : Unit → R, Nat.rec (motive := fun _ => Unit → R) X (fun _ _ => Y) l.length () = Y () := fun X Y => by rw [hl]; rfl
      rw [gu_true]
      show Nat.rec (motive := fun _ => Unit → R) _ (fun _ _ => fun _ => elems 3 id2 off l.length (S.new []) (fun new => app1 3 l.length new (.sl S.nx 0 0 0) (S.new []) c)) l.length () = _
      rw [e, elems_eq h2 (by omega)]
      rw [h3, cells_take _ _ _ (Nat.le_refl _), List.take_length]
      show Bool.rec (motive := fun _ => Unit → R) _ _ (Nat.ble (0 + l.length) 0) () = _
      have e2 : Nat.ble (0 + l.length) 0 = false := by rw [ble_eq]; exact decide_eq_false (by rw [hl]; simp)
      rw [e2]
      show elems 3 S.nx 0 0 (S.new []) (fun old => appK old (cells l) (fun cs => newK cs (S.new []) (fun nx S' => fN (Nat.add 0 l.length) (fun l => gu (Nat.ble l 1073741824) (c (.so nx 0 l l 3) S'))))) = _
      rw [elems_eq (St.new_get _ _) (by simp), appK_eq, newK_eq, fN_eq]
      show gu (Nat.ble (0 + l.length) 1073741824) (c (.so (S.new []).nx 0 (0 + l.length) (0 + l.length) 3) ((S.new []).new (cells l))) = _
      rw [Nat.zero_add, Nat.ble_eq_true_of_le hb]; rfl
  unfold QRow at h1
  split at h1
  · rename_i id2 off len cap
    obtain ⟨rfl, _, _, b, h2, t, h3⟩ := h1
    exact sl id2 off b t h2 h3
  · rename_i id2 off len cap sz
    obtain ⟨rfl, rfl, _, _, b, h2, t, h3⟩ := h1
    exact sl id2 off b t h2 h3
  · subst h1
    exact ⟨S.new [], .sl S.nx 0 0 0, r1, .inl ⟨rfl, _, rfl, Own.new r []⟩, fun c => rfl⟩
  · exact h1.elim
theorem bsl0_eq (S : St) (c : Cont) : pBsl [] 0 [] S c = c (.sl S.nx 0 0 0) (S.new []) := by
  show newK [] S (fun nx S' => c (.sl nx 0 0 0) S') = _
  rw [newK_eq]
theorem Res.row (h : Res S0 S v l) (hl : l.length ≤ 1073741824) : QRow S v l := by
  rcases h with ⟨rfl, id, rfl, h0, n, h1, h2⟩ | ⟨_, id, rfl, h0, n, h1, h2⟩
  · exact ⟨rfl, Nat.le_refl _, by omega, _, h1, [], by simp [cells]⟩
  · exact ⟨rfl, rfl, Nat.le_refl _, hl, _, h1, [], by simp⟩
end Go.AM.Q

/- Rows read into packed numbers, and written. -/
namespace Go.AM.Q
set_option linter.unusedVariables false
set_option linter.unusedSimpArgs false
noncomputable section
variable {P : Program} {out : V × St}
theorem no {α : Prop} {v : V × St} (h : (none : R) = some v) : α := by cases h
theorem zs_nat (n : Nat) : zs n = if n = 0 then [] else [n] := by cases n <;> rfl
def zdK (b a d : V) (k : Bool → Nat → R) : R := vB b (fun s => vS a (fun la => vS d (fun ld => gu (eqB ld [1]) (List.rec (motive := fun _ => R) (gu (Bool.not s) (k false 0)) (fun x t _ => gu (List.rec (motive := fun _ => Bool) true (fun _ _ _ => false) t) (Nat.rec (motive := fun _ => R) none (fun m _ => k s (Nat.succ m)) x)) la))))
theorem zdK_some {b a d : V} {k : Bool → Nat → R} (h : zdK b a d k = some out) : ∃ z : Int, [b, a, d] = zc z ∧ k (decide (z < 0)) z.natAbs = some out := by
  obtain ⟨s, rfl, h1⟩ := vB_some (show vB b _ = some out from h)
  obtain ⟨la, rfl, h2⟩ := vS_some h1
  obtain ⟨ld, rfl, h3⟩ := vS_some h2
  obtain ⟨h4, h5⟩ := gu_some h3
  have hd : ld = [1] := eq_of_beq ((eqB_eq ld [1]).symm.trans h4)
  subst hd
  match la, h5 with
  | [], h5 =>
    obtain ⟨h6, h7⟩ := gu_some (show gu (Bool.not s) (k false 0) = some out from h5)
    cases s with
    | true => cases h6
    | false => exact ⟨0, rfl, h7⟩
  | [0], h5 => exact no h5
  | [n + 1], h5 =>
    have h6 : k s (n + 1) = some out := h5
    cases s with
    | true =>
      refine ⟨-((n : Int) + 1), ?_, ?_⟩
      · have e : (-((n : Int) + 1)).natAbs = n + 1 := by omega
        unfold zc; rw [e, decide_eq_true (by omega)]; rfl
      · have e : (-((n : Int) + 1)).natAbs = n + 1 := by omega
        rw [e, decide_eq_true (by omega)]; exact h6
    | false =>
      refine ⟨(n : Int) + 1, ?_, ?_⟩
      · have e : ((n : Int) + 1).natAbs = n + 1 := by omega
        unfold zc; rw [e, decide_eq_false (by omega)]; rfl
      · have e : ((n : Int) + 1).natAbs = n + 1 := by omega
        rw [e, decide_eq_false (by omega)]; exact h6
  | _ :: _ :: _, h5 => exact no h5
def mxN (m x : Nat) : Nat := Bool.rec x m (Nat.ble x m)
theorem mxN_le (m x : Nat) : m ≤ mxN m x ∧ x ≤ mxN m x := by
  unfold mxN
  cases h : Nat.ble x m with
  | true => exact ⟨Nat.le_refl _, Nat.le_of_ble_eq_true h⟩
  | false =>
    refine ⟨?_, Nat.le_refl _⟩
    rw [ble_eq] at h
    have := of_decide_eq_false h
    show m ≤ x
    omega
def pqK (n : Nat) : List V → Nat → Nat → Nat → Nat → (Nat → Nat → Nat → R) → R :=
  Nat.rec (motive := fun _ => List V → Nat → Nat → Nat → Nat → (Nat → Nat → Nat → R) → R) (fun cs w P N m k => gu (flatL cs) (k P N m))
   (fun n ih cs w P N m k => List.rec (motive := fun _ => R) none (fun b c1 _ => List.rec (motive := fun _ => R) none (fun a c2 _ => List.rec (motive := fun _ => R) none (fun d c3 _ => zdK b a d (fun s x => fN (Nat.mul w BB) (fun w' => fN (mxN m x) (fun m' => Bool.rec (motive := fun _ => R) (fN (Nat.add P (Nat.mul w x)) (fun P' => ih c3 w' P' N m' k)) (fN (Nat.add N (Nat.mul w x)) (fun N' => ih c3 w' P N' m' k)) s)))) c2) c1) cs) n
theorem pqK_some : ∀ (n : Nat) (cs : List V) (w P N m : Nat) (k : Nat → Nat → Nat → R), pqK n cs w P N m k = some out → ∃ l t m', cs = cells l ++ t ∧ l.length = n ∧ flatL cs = true ∧ m ≤ m' ∧ (∀ z ∈ l, z.natAbs ≤ m') ∧ k (P + w * pz l) (N + w * nz l) m' = some out
  | 0, cs, w, P, N, m, k, h => by
    obtain ⟨h1, h2⟩ := gu_some (show gu (flatL cs) (k P N m) = some out from h)
    exact ⟨[], cs, m, rfl, rfl, h1, Nat.le_refl _, (fun x hx => by cases hx), by simpa [pz, nz, ps, ns, pk] using h2⟩
  | n + 1, [], w, P, N, m, k, h => no h
  | n + 1, [_], w, P, N, m, k, h => no h
  | n + 1, [_, _], w, P, N, m, k, h => no h
  | n + 1, b :: a :: d :: c3, w, P, N, m, k, h => by
    have h : zdK b a d (fun s x => fN (Nat.mul w BB) (fun w' => fN (mxN m x) (fun m' => @Bool.rec (fun _ => R) (fN (Nat.add P (Nat.mul w x)) (fun P' => pqK n c3 w' P' N m' k)) (fN (Nat.add N (Nat.mul w x)) (fun N' => pqK n c3 w' P N' m' k)) s))) = some out := h
    obtain ⟨z, h1, h2⟩ := zdK_some h
    rw [fN_eq, fN_eq] at h2
    obtain ⟨m1, m2⟩ := mxN_le m z.natAbs
    have hc : b :: a :: d :: c3 = zc z ++ c3 := by rw [← h1]; rfl
    have hf : flatL (zc z ++ c3) = flatL c3 := rfl
    by_cases hz : z < 0
    · rw [decide_eq_true hz] at h2
      have h2 : fN (Nat.add N (Nat.mul w z.natAbs)) (fun N' => pqK n c3 (Nat.mul w BB) P N' (mxN m z.natAbs) k) = some out := h2
      rw [fN_eq] at h2
      obtain ⟨l, t, m', e1, e2, e3, e4, e5, e6⟩ := pqK_some n c3 _ _ _ _ k h2
      refine ⟨z :: l, t, m', by rw [hc, e1]; rfl, by rw [List.length_cons, e2], by rw [hc, hf]; exact e3, by omega, fun y hy => ?_, ?_⟩
      · rcases List.mem_cons.1 hy with rfl | hy
        · omega
        · exact e5 y hy
      · rw [← e6]; congr 1
        · show P + w * (z.toNat + BB * pz l) = P + w * BB * pz l
          rw [show z.toNat = 0 by omega, Nat.zero_add, Nat.mul_assoc]
        · show N + w * ((-z).toNat + BB * nz l) = N + w * z.natAbs + w * BB * nz l
          rw [show (-z).toNat = z.natAbs by omega, Nat.mul_add, ← Nat.mul_assoc, Nat.add_assoc]
    · rw [decide_eq_false hz] at h2
      have h2 : fN (Nat.add P (Nat.mul w z.natAbs)) (fun P' => pqK n c3 (Nat.mul w BB) P' N (mxN m z.natAbs) k) = some out := h2
      rw [fN_eq] at h2
      obtain ⟨l, t, m', e1, e2, e3, e4, e5, e6⟩ := pqK_some n c3 _ _ _ _ k h2
      refine ⟨z :: l, t, m', by rw [hc, e1]; rfl, by rw [List.length_cons, e2], by rw [hc, hf]; exact e3, by omega, fun y hy => ?_, ?_⟩
      · rcases List.mem_cons.1 hy with rfl | hy
        · omega
        · exact e5 y hy
      · rw [← e6]; congr 1
        · show P + w * (z.toNat + BB * pz l) = P + w * z.natAbs + w * BB * pz l
          rw [show z.toNat = z.natAbs by omega, Nat.mul_add, ← Nat.mul_assoc, Nat.add_assoc]
        · show N + w * ((-z).toNat + BB * nz l) = N + w * BB * nz l
          rw [show (-z).toNat = 0 by omega, Nat.zero_add, Nat.mul_assoc]
/-- a slice of fractions: how many, and packed -/
def rdQ (v : V) (S : St) (k : Nat → Nat → Nat → Nat → R) : R := vS4 v (k 0 0 0 0)
  (fun id off len cap => gu (Bool.and (Nat.beq off 0) (Bool.and (Nat.ble len cap) (Nat.ble cap 1073741824))) (cellsAt id S (fun cs => pqK len cs 1 0 0 0 (fun P N m => k len P N m))))
  (fun id off len cap sz => gu (Bool.and (Bool.and (Nat.beq off 0) (Nat.beq sz 3)) (Bool.and (Nat.ble len cap) (Nat.ble cap 1073741824))) (cellsAt id S (fun cs => pqK len cs 1 0 0 0 (fun P N m => k len P N m))))
/-- the blocks that hold nothing but flat values -/
def pfq (S : St) (q : Pos) : Bool := match S.h.get q with
  | some b => flatL b.cs
  | none => false
theorem pfq_lt {S : St} (ok : SOK S) {q : Pos} (h : pfq S q = true) : q.num < S.cnt := by
  unfold pfq at h
  cases hg : S.h.get q with
  | none => rw [hg] at h; cases h
  | some b => exact (ok.blk _ _ hg).1
theorem pfq_ok {S : St} {q : Pos} {b : Blk} (h : pfq S q = true) (hb : S.h.get q = some b) : okL (pfq S) b.cs = true := by
  unfold pfq at h; rw [hb] at h; exact flatL_ok _ h
theorem rdQ_some {v : V} {S : St} {k : Nat → Nat → Nat → Nat → R} (h : rdQ v S k = some out) : ∃ l m, QRow S v l ∧ okV (pfq S) v = true ∧ (∀ z ∈ l, z.natAbs ≤ m) ∧ k l.length (pz l) (nz l) m = some out := by
  have sl : ∀ (id : Pos) (len : Nat), cellsAt id S (fun cs => pqK len cs 1 0 0 0 (fun P N m => k len P N m)) = some out → ∃ l m b t, S.h.get id = some b ∧ b.cs = cells l ++ t ∧ l.length = len ∧ pfq S id = true ∧ (∀ z ∈ l, z.natAbs ≤ m) ∧ k l.length (pz l) (nz l) m = some out := fun id len h => by
    obtain ⟨b, h1, h2⟩ := cellsAt_some h
    obtain ⟨l, t, m, e1, e2, e3, _, e4, e5⟩ := pqK_some _ _ _ _ _ _ _ h2
    rw [Nat.zero_add, Nat.zero_add, Nat.one_mul, Nat.one_mul] at e5
    refine ⟨l, m, b, t, h1, e1, e2, ?_, e4, by rw [e2]; exact e5⟩
    unfold pfq; rw [h1]; exact e3
  cases v <;> try (exact no (show (none : R) = some out from h))
  · rename_i id off len cap
    obtain ⟨h1, h2⟩ := gu_some (show gu (Bool.and (Nat.beq off 0) (Bool.and (Nat.ble len cap) (Nat.ble cap 1073741824))) (cellsAt id S (fun cs => pqK len cs 1 0 0 0 (fun P N m => k len P N m))) = some out from h)
    simp only [Bool.and_eq_true] at h1
    have := Nat.eq_of_beq_eq_true h1.1
    subst this
    obtain ⟨l, m, b, t, e1, e2, e3, e4, e5, e6⟩ := sl id len h2
    exact ⟨l, m, ⟨e3.symm, Nat.le_of_ble_eq_true h1.2.1, Nat.le_of_ble_eq_true h1.2.2, b, e1, t, by rw [List.drop_zero, e2]⟩, e4, e5, e6⟩
  · rename_i id off len cap sz
    obtain ⟨h1, h2⟩ := gu_some (show gu (Bool.and (Bool.and (Nat.beq off 0) (Nat.beq sz 3)) (Bool.and (Nat.ble len cap) (Nat.ble cap 1073741824))) (cellsAt id S (fun cs => pqK len cs 1 0 0 0 (fun P N m => k len P N m))) = some out from h)
    simp only [Bool.and_eq_true] at h1
    have := Nat.eq_of_beq_eq_true h1.1.1
    subst this
    obtain ⟨l, m, b, t, e1, e2, e3, e4, e5, e6⟩ := sl id len h2
    exact ⟨l, m, ⟨Nat.eq_of_beq_eq_true h1.1.2, e3.symm, Nat.le_of_ble_eq_true h1.2.1, Nat.le_of_ble_eq_true h1.2.2, b, e1, t, by rw [List.drop_zero, e2]⟩, e4, e5, e6⟩
  · exact ⟨[], 0, rfl, rfl, (fun x hx => by cases hx), h⟩
/-- the digits written, without the zeros at the end -/
def wrQ (A B n : Nat) : List V → Nat → (List V → Nat → R) → R :=
  Nat.rec (motive := fun _ => List V → Nat → (List V → Nat → R) → R) (fun acc l k => k acc l)
  (fun n ih acc l k => fN (Nat.mod (Nat.div A (Nat.pow BB n)) BB) (fun a => fN (Nat.mod (Nat.div B (Nat.pow BB n)) BB) (fun b => gu (Nat.blt (Nat.add a b) 64) (
     Bool.rec (motive := fun _ => R)
       (fN (Nat.sub a b) (fun x => Nat.rec (motive := fun _ => R) (Nat.rec (motive := fun _ => R) (ih acc l k) (fun _ _ => ih (.b false :: .s [] :: .s [1] :: acc) (Nat.succ l) k) l) (fun m _ => ih (.b false :: .s [Nat.succ m] :: .s [1] :: acc) (Nat.succ l) k) x))
       (fN (Nat.sub b a) (fun x => ih (.b true :: .s [x] :: .s [1] :: acc) (Nat.succ l) k))
       (Nat.blt a b))))) n
theorem zc_pos {z : Int} {m : Nat} (h : z = ((m + 1 : Nat) : Int)) : zc z = [.b false, .s [m + 1], .s [1]] := by
  unfold zc; rw [show z.natAbs = m + 1 by omega, decide_eq_false (by omega)]; rfl
theorem zc_neg {z : Int} {m : Nat} (h : -z = ((m + 1 : Nat) : Int)) : zc z = [.b true, .s [m + 1], .s [1]] := by
  unfold zc; rw [show z.natAbs = m + 1 by omega, decide_eq_true (by omega)]; rfl
theorem wrQ_some {A B : Nat} {D : List Int} (hD : ∀ i, i < D.length → ((A / BB ^ i % BB : Nat) : Int) - ((B / BB ^ i % BB : Nat) : Int) = gz D i) (k : List V → Nat → R) :
    ∀ (n : Nat) (E : List Int), n ≤ D.length → wrQ A B n (cells E) E.length k = some out → (∀ i, i < n → A / BB ^ i % BB + B / BB ^ i % BB < 64) ∧ (fun F => k (cells F) F.length) (if E = [] then D.take (tn D n) else D.take n ++ E) = some out
  | 0, E, h, hk => by
    refine ⟨fun i hi => by omega, ?_⟩
    have hk : k (cells E) E.length = some out := hk
    split
    · rename_i h; subst h; exact hk
    · simpa using hk
  | n + 1, E, h, hk => by
    have tk : D.take (n + 1) = D.take n ++ [gz D n] := by rw [List.take_add_one, gz_of (by omega)]; rfl
    have d := hD n (by omega)
    have hk : fN (A / BB ^ n % BB) (fun a => fN (B / BB ^ n % BB) (fun b => gu (Nat.blt (Nat.add a b) 64) (
     @Bool.rec (fun _ => R)
       (fN (Nat.sub a b) (fun x => @Nat.rec (fun _ => R) (@Nat.rec (fun _ => R) (wrQ A B n (cells E) E.length k) (fun _ _ => wrQ A B n (.b false :: .s [] :: .s [1] :: cells E) (Nat.succ E.length) k) E.length) (fun m _ => wrQ A B n (.b false :: .s [Nat.succ m] :: .s [1] :: cells E) (Nat.succ E.length) k) x))
       (fN (Nat.sub b a) (fun x => wrQ A B n (.b true :: .s [x] :: .s [1] :: cells E) (Nat.succ E.length) k))
       (Nat.blt a b)))) = some out := hk
    rw [fN_eq, fN_eq] at hk
    obtain ⟨h1, hk⟩ := gu_some hk
    rw [blt_eq] at h1
    have h1 := of_decide_eq_true h1
    generalize ha : A / BB ^ n % BB = a at *
    generalize hb : B / BB ^ n % BB = b at *
    have h1 : a + b < 64 := h1
    have fin : ∀ z : Int, z = gz D n → z ≠ 0 ∨ E ≠ [] → wrQ A B n (cells (z :: E)) (z :: E).length k = some out → (∀ i, i < n + 1 → A / BB ^ i % BB + B / BB ^ i % BB < 64) ∧ (fun F => k (cells F) F.length) (if E = [] then D.take (tn D (n + 1)) else D.take (n + 1) ++ E) = some out := fun z hz ho hw => by
      obtain ⟨g1, g2⟩ := wrQ_some hD k n (z :: E) (by omega) hw
      refine ⟨fun i hi => ?_, ?_⟩
      · by_cases e : i = n
        · subst e; rw [ha, hb]; exact h1
        · exact g1 i (by omega)
      · rw [if_neg (by simp)] at g2
        by_cases hE : E = []
        · have hz0 : gz D n ≠ 0 := by
            rcases ho with ho | ho
            · rw [← hz]; exact ho
            · exact absurd hE ho
          rw [if_pos hE, show tn D (n + 1) = n + 1 by unfold tn; rw [if_neg hz0], tk, ← hz]
          subst hE; exact g2
        · rw [if_neg hE, tk, ← hz, List.append_assoc]; exact g2
    cases hlt : Nat.blt a b with
    | true =>
      rw [hlt] at hk
      have hk : fN (b - a) (fun x => wrQ A B n (.b true :: .s [x] :: .s [1] :: cells E) (Nat.succ E.length) k) = some out := hk
      rw [fN_eq] at hk
      rw [blt_eq] at hlt
      have hlt := of_decide_eq_true hlt
      obtain ⟨m, hm⟩ : ∃ m, b - a = m + 1 := ⟨b - a - 1, by omega⟩
      refine fin (gz D n) rfl (.inl (by omega)) ?_
      show wrQ A B n (zc (gz D n) ++ cells E) _ k = some out
      rw [zc_neg (m := m) (by omega)]
      rw [hm] at hk; exact hk
    | false =>
      rw [hlt] at hk
      rw [blt_eq] at hlt
      have hlt := of_decide_eq_false hlt
      have hk : fN (a - b) (fun x => @Nat.rec (fun _ => R) (@Nat.rec (fun _ => R) (wrQ A B n (cells E) E.length k) (fun _ _ => wrQ A B n (.b false :: .s [] :: .s [1] :: cells E) (Nat.succ E.length) k) E.length) (fun m _ => wrQ A B n (.b false :: .s [Nat.succ m] :: .s [1] :: cells E) (Nat.succ E.length) k) x) = some out := hk
      rw [fN_eq] at hk
      cases hx : a - b with
      | succ m =>
        rw [hx] at hk
        refine fin (gz D n) rfl (.inl (by omega)) ?_
        show wrQ A B n (zc (gz D n) ++ cells E) _ k = some out
        rw [zc_pos (m := m) (by omega)]
        exact hk
      | zero =>
        rw [hx] at hk
        have h0 : gz D n = 0 := by omega
        cases E with
        | nil =>
          have hk : wrQ A B n (cells []) ([] : List Int).length k = some out := hk
          obtain ⟨g1, g2⟩ := wrQ_some hD k n [] (by omega) hk
          refine ⟨fun i hi => ?_, ?_⟩
          · by_cases e : i = n
            · subst e; rw [ha, hb]; exact h1
            · exact g1 i (by omega)
          · rw [if_pos rfl] at g2 ⊢
            rw [show tn D (n + 1) = tn D n by conv => lhs; unfold tn; rw [if_pos h0]]
            exact g2
        | cons y E' =>
          refine fin 0 h0.symm (.inr (by simp)) ?_
          exact hk
def resK (l : List Int) (S : St) (k : Cont) : R := match l with
  | [] => k (.sl S.nx 0 0 0) (S.new [])
  | z :: t => k (.so S.nx 0 (z :: t).length (z :: t).length 3) (S.new (cells (z :: t)))
def outQ (A B n : Nat) (S : St) (k : Cont) : R := wrQ A B n [] 0 (fun cs l => Nat.rec (motive := fun _ => R) (newK [] S (fun nx S' => k (.sl nx 0 0 0) S')) (fun m _ => newK cs S (fun nx S' => k (.so nx 0 (Nat.succ m) (Nat.succ m) 3) S')) l)
theorem outQ_some {A B n : Nat} {S : St} {k : Cont} {D : List Int} (hn : n = D.length) (hD : ∀ i, i < D.length → ((A / BB ^ i % BB : Nat) : Int) - ((B / BB ^ i % BB : Nat) : Int) = gz D i) (h : outQ A B n S k = some out) : (∀ i, i < D.length → A / BB ^ i % BB + B / BB ^ i % BB < 64) ∧ resK (tz D) S k = some out := by
  subst hn
  obtain ⟨h1, h2⟩ := wrQ_some hD _ D.length [] (Nat.le_refl _) h
  refine ⟨h1, ?_⟩
  rw [if_pos rfl] at h2
  have h2 : @Nat.rec (fun _ => R) (newK [] S (fun nx S' => k (.sl nx 0 0 0) S')) (fun m _ => newK (cells (tz D)) S (fun nx S' => k (.so nx 0 (Nat.succ m) (Nat.succ m) 3) S')) (tz D).length = some out := h2
  cases ht : tz D with
  | nil =>
    rw [ht] at h2
    have h2 : newK [] S (fun nx S' => k (.sl nx 0 0 0) S') = some out := h2
    rw [newK_eq] at h2; exact h2
  | cons z t =>
    rw [ht] at h2
    have h2 : newK (cells (z :: t)) S (fun nx S' => k (.so nx 0 (t.length + 1) (t.length + 1) 3) S') = some out := h2
    rw [newK_eq] at h2; exact h2
theorem flat_cells : ∀ l, flatL (cells l) = true
  | [] => rfl
  | z :: l => flat_cells l
/-- a run whose result is a row -/
theorem finish {f : FuncId} {F : Fun} (hF : FOK P f F) {vs : List V} {S S2 : St} {v1 : V} {l : List Int} {k : Cont} (ok : SOK S) (hr : Run S.lock S2) (hres : Res S.lock S2 v1 l) (hrun : ∀ k : Cont, F vs S.lock k = k v1 S2)
    (hvs : okL (pfq S) vs = true) (h : resK l S k = some out) : ∃ v' S', k v' S' = some out ∧ CallOK P f vs S v' S' := by
  obtain ⟨v', S', e1, e2⟩ := hF vs S.lock (fun v S => some (v, S)) _ ok.lock (hrun _)
  cases e1
  have key : ∀ (id : Pos) (cs : List V), Own S.lock S2 id cs → flatL cs = true → (okV (fun q => Nat.beq q.num id.num) v1 = true) → CallOK P f vs S (renV (fun _ => S.nx) v1) (S.new cs) := fun id cs ⟨h0, n, h1, h2⟩ hfl hv => by
    have hpos := hr.pos
    have := forget (p := pfq S) (outs := [(id, cs)]) (π2 := fun _ => S.nx) (p2 := fun q => Nat.beq q.num id.num) e2 ok hvs (fun id hq => pfq_lt ok hq) (fun id b hq hb => pfq_ok hq hb)
      (fun i j x y hi hj he => by
        have := (List.getElem?_eq_some_iff.1 hi).1
        have := (List.getElem?_eq_some_iff.1 hj).1
        simp at *; omega)
      (fun x hx => by
        rcases List.mem_singleton.1 hx with rfl
        exact ⟨h0, _, [], h1, by simp, (by show n ≠ 0; omega), hfl⟩)
      (fun id' hid => .inr ⟨0, _, rfl, (Pos.num_inj _ _ (Nat.eq_of_beq_eq_true hid)).symm, by rw [ok.nx]; rfl⟩) hv
      (fun x hx => by
        rcases List.mem_singleton.1 hx with rfl
        exact flatL_ok _ hfl)
    simp only [List.map_cons, List.map_nil, layS, flat_renL _ hfl] at this
    exact this
  rcases hres with ⟨rfl, id, rfl, ho⟩ | ⟨hne, id, rfl, ho⟩
  · exact ⟨_, _, h, key id [] ho rfl (by show Nat.beq id.num id.num = true; exact Nat.beq_refl _)⟩
  · cases l with
    | nil => exact absurd rfl hne
    | cons z t => exact ⟨_, _, h, key id _ ho (flat_cells _) (by show Nat.beq id.num id.num = true; exact Nat.beq_refl _)⟩
theorem QRow.lock {S : St} {v : V} {l : List Int} (h : QRow S v l) : QRow S.lock v l := h
end
end Go.AM.Q

/- Tables of functions of small whole fractions. -/
set_option linter.unusedVariables false
set_option linter.unusedSimpArgs false
set_option maxRecDepth 100000
namespace Go.AM.Q
noncomputable section
variable {out : V × St} {P : Program}
/-- a run at values that name no place, told by its result -/
theorem pure_at {f : FuncId} {F : Fun} (hF : FOK P f F) {vs : List V} {v : V} (h1 : ∀ p, okL p vs = true) (h2 : ∀ π, renL π vs = vs) (h3 : eqL vs vs = true) (h4 : ∀ p, okV p v = true) (h5 : ∀ π, renV π v = v) (h6 : eqV v v = true) (h7 : ∀ e : PE, mtL vs vs e = e)
    (hr : ∃ S2, F vs (mkS []) (fun v S => some (v, S)) = some (v, S2)) {S : St} {k : Cont} (ok : SOK S) (h : k v S = some out) : ∃ v' S', k v' S' = some out ∧ CallOK P f vs S v' S' := by
  obtain ⟨S2, hr⟩ := hr
  have hs : stat [] vs v [] = true := by simp only [stat, h1, h4, List.all_nil, nd, Bool.and_self]
  have hq : runOk (F vs (mkS []) fun v S => some (v, S)) v [] = true := by rw [hr]; simp only [runOk, h6, List.all_nil, Bool.and_self]
  refine memo_ok hF hs hq vs S k out ok ?_
  have ha : ∀ e, argsOk [] vs vs S e = true := fun e => by simp only [argsOk, h2, h3, blksOk, List.length_nil, injOk, Bool.and_self]
  simp only [memoF, ha, cond_true, layK_eq, forceT_eq, h5, List.map_nil, layS]
  exact h
/-- a small whole fraction: a sign, and a number -/
def rv (s : Bool) : Nat → V
  | 0 => .ag [.b false, .s [], .s [1]]
  | n + 1 => .ag [.b s, .s [n + 1], .s [1]]
theorem rv_ok (p : Pos → Bool) (s : Bool) : ∀ n, okV p (rv s n) = true
  | 0 => rfl
  | n + 1 => rfl
theorem rv_ren (π : Pos → Pos) (s : Bool) : ∀ n, renV π (rv s n) = rv s n
  | 0 => rfl
  | n + 1 => rfl
theorem rv_eq (s : Bool) : ∀ n, eqV (rv s n) (rv s n) = true
  | 0 => by cases s <;> rfl
  | n + 1 => by
    show (s == s && (eqN [n + 1] [n + 1] && (eqN [1] [1] && true))) = true
    have : eqN [n + 1] [n + 1] = true := by show (Nat.beq (n + 1) (n + 1) && true) = true; rw [Nat.beq_refl]; rfl
    rw [this]; cases s <;> rfl
def encK (s : Bool) (n : Nat) (k : V → R) : R := Nat.rec (k (.ag [.b false, .s [], .s [1]])) (fun m _ => Bool.rec (k (.ag [.b false, .s [Nat.succ m], .s [1]])) (k (.ag [.b true, .s [Nat.succ m], .s [1]])) s) n
theorem encK_eq (s : Bool) (k : V → R) : ∀ n, encK s n k = k (rv s n)
  | 0 => rfl
  | n + 1 => by cases s <;> rfl
def decK (v : V) (z : R) (k : Bool → Nat → R) : R := vA v (fun l => lenL l 0 (fun c => gu (Nat.beq c 3) (nthK l 0 (fun b => nthK l 1 (fun a => nthK l 2 (fun d => vB b (fun s => vS a (fun la => vS d (fun ld => Bool.rec z
  (List.rec (Bool.rec (k false 0) z s) (fun x t _ => List.rec (Nat.rec z (fun m _ => k s (Nat.succ m)) x) (fun _ _ _ => z) t) la) (eqB ld [1]))))))))))
theorem decK_some {v : V} {z : R} {k : Bool → Nat → R} (h : decK v z k = some out) : z = some out ∨ ∃ s n, v = rv s n ∧ k s n = some out := by
  obtain ⟨l, rfl, h1⟩ := vA_some h
  rw [lenL_zero] at h1
  obtain ⟨h2, h3⟩ := gu_some h1
  have hl := Nat.eq_of_beq_eq_true h2
  match l, hl with
  | [b, a, d], _ =>
    have h4 : vB b (fun s => vS a (fun la => vS d (fun ld => @Bool.rec (fun _ => R) z (@List.rec Nat (fun _ => R) (@Bool.rec (fun _ => R) (k false 0) z s) (fun x t _ => @List.rec Nat (fun _ => R) (@Nat.rec (fun _ => R) z (fun m _ => k s (Nat.succ m)) x) (fun _ _ _ => z) t) la) (eqB ld [1])))) = some out := h3
    obtain ⟨s, rfl, h5⟩ := vB_some h4
    obtain ⟨la, rfl, h6⟩ := vS_some h5
    obtain ⟨ld, rfl, h7⟩ := vS_some h6
    cases he : eqB ld [1] with
    | false => rw [he] at h7; exact .inl h7
    | true =>
      rw [he] at h7
      have hd : ld = [1] := eq_of_beq ((eqB_eq ld [1]).symm.trans he)
      subst hd
      match la, h7 with
      | [], h7 =>
        cases s with
        | true => exact .inl h7
        | false => exact .inr ⟨false, 0, rfl, h7⟩
      | [0], h7 => exact .inl h7
      | [n + 1], h7 => exact .inr ⟨s, n + 1, rfl, h7⟩
      | _ :: _ :: _, h7 => exact .inl h7
def sumK (s : Bool) (x : Nat) (t : Bool) (y : Nat) (k : Bool → Nat → R) : R := Bool.rec (Bool.rec (fN (Nat.sub y x) (k t)) (fN (Nat.sub x y) (k s)) (Nat.ble y x)) (fN (Nat.add x y) (k s)) (Bool.rec (Bool.rec true false t) t s)
def sumP (s : Bool) (x : Nat) (t : Bool) (y : Nat) : Bool × Nat := bif (s == t) then (s, x + y) else bif Nat.ble y x then (s, x - y) else (t, y - x)
theorem sumK_eq (s : Bool) (x : Nat) (t : Bool) (y : Nat) (k : Bool → Nat → R) : sumK s x t y k = k (sumP s x t y).1 (sumP s x t y).2 := by
  unfold sumK sumP
  cases s <;> cases t <;> simp only [fN_eq] <;> first | rfl | (cases Nat.ble y x <;> simp only [fN_eq] <;> rfl)
def mulP (s : Bool) (x : Nat) (t : Bool) (y : Nat) : Bool × Nat := (Bool.rec (Bool.rec false true t) (Bool.rec true false t) s, x * y)
def tab (F : Gn 2) (bx byy : Nat) (op : Bool → Nat → Bool → Nat → (Bool → Nat → R) → R) : Gn 2 := fun a b S k => decK a (F a b S k) (fun s x => decK b (F a b S k) (fun t y => Bool.rec (F a b S k) (op s x t y (fun r n => encK r n (fun v => k v S))) (Bool.and (Nat.blt x bx) (Nat.blt y byy))))
def upto0 (f : Nat → Bool) : Nat → Bool := Nat.rec true (fun n ih => Bool.rec (motive := fun _ => Bool) false ih (f n))
theorem upto0_ok {f : Nat → Bool} : ∀ {n : Nat}, upto0 f n = true → ∀ a, a < n → f a = true
  | 0, _, a, h => by omega
  | n + 1, h, a, h1 => by
    have h : Bool.rec (motive := fun _ => Bool) false (upto0 f n) (f n) = true := h
    cases hb : f n with
    | false => rw [hb] at h; cases h
    | true =>
      rw [hb] at h
      rcases Nat.lt_or_ge a n with h3 | h3
      · exact upto0_ok h a h3
      · have : a = n := by omega
        subst this; exact hb
def okR (r : R) (x : V) : Bool := match r with
  | some r => eqV r.1 x
  | none => false
theorem okR_some {r : R} {x : V} (h : okR r x = true) : ∃ S, r = some (x, S) := by
  cases r with
  | none => cases h
  | some r => obtain ⟨v, S⟩ := r; exact ⟨S, by rw [eqV_eq _ _ (show eqV v x = true from h)]⟩
/-- the run at two fractions is what the table says -/
def at2 (F : Gn 2) (T : Bool → Nat → Bool → Nat → Bool × Nat) (x y : Nat) (s t : Bool) : Bool := okR (F (rv s x) (rv t y) (mkS []) fun v S => some (v, S)) (rv (T s x t y).1 (T s x t y).2)
def chk (F : Gn 2) (T : Bool → Nat → Bool → Nat → Bool × Nat) (bx byy : Nat) : Bool := upto0 (fun x => upto0 (fun y => at2 F T x y false false && (at2 F T x y false true && (at2 F T x y true false && at2 F T x y true true))) byy) bx
theorem tab_ok {f : FuncId} {F : Gn 2} (hF : FOK P f (un 2 F)) {bx byy : Nat} {op : Bool → Nat → Bool → Nat → (Bool → Nat → R) → R} {T : Bool → Nat → Bool → Nat → Bool × Nat} (hop : ∀ s x t y k, op s x t y k = k (T s x t y).1 (T s x t y).2) (hc : chk F T bx byy = true) : FOK P f (un 2 (tab F bx byy op)) := by
  intro vs S k out ok h
  match vs, h with
  | [], h => exact no h
  | [_], h => exact no h
  | _ :: _ :: _ :: _, h => exact no h
  | [a, b], h =>
    have slow : F a b S k = some out → _ := fun h => hF [a, b] S k out ok h
    have h : decK a (F a b S k) (fun s x => decK b (F a b S k) (fun t y => @Bool.rec (fun _ => R) (F a b S k) (op s x t y (fun r n => encK r n (fun v => k v S))) (Bool.and (Nat.blt x bx) (Nat.blt y byy)))) = some out := h
    rcases decK_some h with h | ⟨s, x, rfl, h⟩
    · exact slow h
    rcases decK_some h with h | ⟨t, y, rfl, h⟩
    · exact slow h
    cases hb : Bool.and (Nat.blt x bx) (Nat.blt y byy) with
    | false => rw [hb] at h; exact slow h
    | true =>
      rw [hb] at h
      simp only [Bool.and_eq_true] at hb
      have hx : x < bx := by have := hb.1; rw [blt_eq] at this; exact of_decide_eq_true this
      have hy : y < byy := by have := hb.2; rw [blt_eq] at this; exact of_decide_eq_true this
      have h : op s x t y (fun r n => encK r n (fun v => k v S)) = some out := h
      rw [hop, encK_eq] at h
      have h1 := upto0_ok (upto0_ok hc x hx) y hy
      simp only [Bool.and_eq_true] at h1
      have h2 : at2 F T x y s t = true := by cases s <;> cases t <;> first | exact h1.1 | exact h1.2.1 | exact h1.2.2.1 | exact h1.2.2.2
      refine pure_at (vs := [rv s x, rv t y]) hF (fun p => ?_) (fun π => ?_) ?_ (fun p => rv_ok p _ _) (fun π => rv_ren π _ _) (rv_eq _ _) (fun e => ?_) (okR_some h2) ok h
      · simp only [okL, rv_ok, Bool.and_self]
      · simp only [renL, rv_ren]
      · simp only [eqL, rv_eq, Bool.and_self]
      · cases x <;> cases y <;> rfl
def mulK (s : Bool) (x : Nat) (t : Bool) (y : Nat) (k : Bool → Nat → R) : R := fN (Nat.mul x y) (fun n => Bool.rec (Bool.rec (k false n) (k true n) t) (Bool.rec (k true n) (k false n) t) s)
theorem mulK_eq (s : Bool) (x : Nat) (t : Bool) (y : Nat) (k : Bool → Nat → R) : mulK s x t y k = k (mulP s x t y).1 (mulP s x t y).2 := by
  unfold mulK; rw [fN_eq]; cases s <;> cases t <;> rfl
def subK (s : Bool) (x : Nat) (t : Bool) (y : Nat) (k : Bool → Nat → R) : R := sumK s x (Bool.not t) y k
def subP (s : Bool) (x : Nat) (t : Bool) (y : Nat) : Bool × Nat := sumP s x (Bool.not t) y
theorem subK_eq (s : Bool) (x : Nat) (t : Bool) (y : Nat) (k : Bool → Nat → R) : subK s x t y k = k (subP s x t y).1 (subP s x t y).2 := sumK_eq ..
theorem rv_zv (z : Int) : rv (decide (z < 0)) z.natAbs = zv z := by
  cases h : z.natAbs with
  | zero => rw [show z = 0 by omega]; rfl
  | succ n => show V.ag [.b (decide (z < 0)), .s [n + 1], .s [1]] = .ag [.b (decide (z < 0)), .s (zs z.natAbs), .s [1]]; rw [h]; rfl
theorem rv_of {s : Bool} {n : Nat} {z : Int} (h : z = if s then -(n : Int) else n) : rv s n = zv z := by
  rw [← rv_zv]
  cases s with
  | false =>
    have h : z = n := h
    rw [show z.natAbs = n by omega, decide_eq_false (by omega)]
  | true =>
    have h : z = -(n : Int) := h
    cases n with
    | zero => rw [h]; rfl
    | succ n => rw [show z.natAbs = n + 1 by omega, decide_eq_true (by omega)]
theorem sum_zv (a b : Int) : rv (sumP (decide (a < 0)) a.natAbs (decide (b < 0)) b.natAbs).1 (sumP (decide (a < 0)) a.natAbs (decide (b < 0)) b.natAbs).2 = zv (a + b) := by
  apply rv_of
  unfold sumP
  by_cases ha : a < 0 <;> by_cases hb : b < 0
  · simp only [ha, hb, decide_true, beq_self_eq_true, cond_true, if_true]; omega
  · simp only [ha, hb, decide_true, decide_false, show (true == false) = false from rfl, cond_false]
    cases hc : Nat.ble b.natAbs a.natAbs with
    | true => have := Nat.le_of_ble_eq_true hc; simp only [cond_true, if_true]; omega
    | false => rw [ble_eq] at hc; have := of_decide_eq_false hc; simp only [cond_false, Bool.false_eq_true, if_false]; omega
  · simp only [ha, hb, decide_true, decide_false, show (false == true) = false from rfl, cond_false]
    cases hc : Nat.ble b.natAbs a.natAbs with
    | true => have := Nat.le_of_ble_eq_true hc; simp only [cond_true, Bool.false_eq_true, if_false]; omega
    | false => rw [ble_eq] at hc; have := of_decide_eq_false hc; simp only [cond_false, if_true]; omega
  · simp only [ha, hb, decide_false, beq_self_eq_true, cond_true, Bool.false_eq_true, if_false]; omega
theorem mul_zv (a b : Int) : rv (mulP (decide (a < 0)) a.natAbs (decide (b < 0)) b.natAbs).1 (mulP (decide (a < 0)) a.natAbs (decide (b < 0)) b.natAbs).2 = zv (a * b) := by
  apply rv_of
  unfold mulP
  have e : ((a.natAbs * b.natAbs : Nat) : Int) = a.natAbs * b.natAbs := Int.natCast_mul _ _
  by_cases ha : a < 0 <;> by_cases hb : b < 0
  · simp only [ha, hb, decide_true]
    show a * b = ((a.natAbs * b.natAbs : Nat) : Int)
    rw [e, show (a.natAbs : Int) = -a by omega, show (b.natAbs : Int) = -b by omega, Int.neg_mul_neg]
  · simp only [ha, hb, decide_true, decide_false]
    show a * b = -((a.natAbs * b.natAbs : Nat) : Int)
    rw [e, show (a.natAbs : Int) = -a by omega, show (b.natAbs : Int) = b by omega, Int.neg_mul, Int.neg_neg]
  · simp only [ha, hb, decide_true, decide_false]
    show a * b = -((a.natAbs * b.natAbs : Nat) : Int)
    rw [e, show (a.natAbs : Int) = a by omega, show (b.natAbs : Int) = -b by omega, Int.mul_neg, Int.neg_neg]
  · simp only [ha, hb, decide_false]
    show a * b = ((a.natAbs * b.natAbs : Nat) : Int)
    rw [e, show (a.natAbs : Int) = a by omega, show (b.natAbs : Int) = b by omega]
theorem decK_zv (z : Int) (zz : R) (k : Bool → Nat → R) : decK (zv z) zz k = k (decide (z < 0)) z.natAbs := by
  cases h : z.natAbs with
  | zero => rw [show z = 0 by omega]; rfl
  | succ n =>
    have e : zv z = .ag [.b (decide (z < 0)), .s [n + 1], .s [1]] := by unfold zv zc; rw [h]; rfl
    rw [e]; rfl
theorem tab_zv {F : Gn 2} {bx byy : Nat} {op : Bool → Nat → Bool → Nat → (Bool → Nat → R) → R} {T : Bool → Nat → Bool → Nat → Bool × Nat} (hop : ∀ s x t y k, op s x t y k = k (T s x t y).1 (T s x t y).2) {a b : Int} (ha : a.natAbs < bx) (hb : b.natAbs < byy) (S : St) (k : Cont) :
    tab F bx byy op (zv a) (zv b) S k = k (rv (T (decide (a < 0)) a.natAbs (decide (b < 0)) b.natAbs).1 (T (decide (a < 0)) a.natAbs (decide (b < 0)) b.natAbs).2) S := by
  unfold tab
  rw [decK_zv, decK_zv, blt_eq, blt_eq, decide_eq_true ha, decide_eq_true hb]
  show op _ _ _ _ _ = _
  rw [hop, encK_eq]
/-- a function of one fraction, as a table -/
def tab1 (F : Gn 1) (bx : Nat) (op : Bool → Nat → V) : Gn 1 := fun a S k => decK a (F a S k) (fun s x => Bool.rec (F a S k) (k (op s x) S) (Nat.blt x bx))
def chk1 (F : Gn 1) (op : Bool → Nat → V) (bx : Nat) : Bool := upto0 (fun x => okR (F (rv false x) (mkS []) fun v S => some (v, S)) (op false x) && okR (F (rv true x) (mkS []) fun v S => some (v, S)) (op true x)) bx
theorem tab1_ok {f : FuncId} {F : Gn 1} (hF : FOK P f (un 1 F)) {bx : Nat} {op : Bool → Nat → V} (hop : ∀ s x, flatV (op s x) = true) (hc : chk1 F op bx = true) : FOK P f (un 1 (tab1 F bx op)) := by
  intro vs S k out ok h
  match vs, h with
  | [], h => exact no h
  | _ :: _ :: _, h => exact no h
  | [a], h =>
    have slow : F a S k = some out → _ := fun h => hF [a] S k out ok h
    have h : decK a (F a S k) (fun s x => @Bool.rec (fun _ => R) (F a S k) (k (op s x) S) (Nat.blt x bx)) = some out := h
    rcases decK_some h with h | ⟨s, x, rfl, h⟩
    · exact slow h
    cases hb : Nat.blt x bx with
    | false => rw [hb] at h; exact slow h
    | true =>
      rw [hb] at h
      have h : k (op s x) S = some out := h
      rw [blt_eq] at hb
      have h1 := upto0_ok hc x (of_decide_eq_true hb)
      simp only [Bool.and_eq_true] at h1
      have h2 : okR (F (rv s x) (mkS []) fun v S => some (v, S)) (op s x) = true := by cases s <;> first | exact h1.1 | exact h1.2
      have ho := hop s x
      refine pure_at (vs := [rv s x]) hF (fun p => ?_) (fun π => ?_) ?_ (fun p => ?_) (fun π => flat_renV π ho) ?_ (fun e => ?_) (okR_some h2) ok h
      · simp only [okL, rv_ok, Bool.and_self]
      · simp only [renL, rv_ren]
      · simp only [eqL, rv_eq, Bool.and_self]
      · generalize op s x = v at ho; cases v <;> first | rfl | cases ho
      · obtain ⟨S2, e⟩ := okR_some h2
        have : eqV (op s x) (op s x) = true := by
          unfold okR at h2; rw [e] at h2; exact h2
        exact this
      · cases x <;> rfl
theorem tab1_zv {F : Gn 1} {bx : Nat} {op : Bool → Nat → V} {a : Int} (ha : a.natAbs < bx) (S : St) (k : Cont) : tab1 F bx op (zv a) S k = k (op (decide (a < 0)) a.natAbs) S := by
  unfold tab1
  rw [decK_zv, blt_eq, decide_eq_true ha]
def signV (s : Bool) (x : Nat) : V := Nat.rec (nn 0) (fun _ _ => Bool.rec (nn 1) (nn 18446744073709551615) s) x
theorem signV_flat (s : Bool) (x : Nat) : flatV (signV s x) = true := by cases x <;> cases s <;> rfl
/-- small machine integers as fractions -/
def tabI (F : Gn 1) : Gn 1 := fun a S k => vI a (fun kd n => Bool.rec (F a S k) (Bool.rec (Bool.rec (Bool.rec (Bool.rec (F a S k) (k (rv true 3) S) (Nat.beq n 18446744073709551613)) (k (rv true 2) S) (Nat.beq n 18446744073709551614)) (k (rv true 1) S) (Nat.beq n 18446744073709551615)) (encK false n (fun v => k v S)) (Nat.blt n 4)) (Nat.beq (kNo kd) 3))
def chkI (F : Gn 1) : Bool := upto0 (fun x => okR (F (nn x) (mkS []) fun v S => some (v, S)) (rv false x)) 4 && (okR (F (nn 18446744073709551615) (mkS []) fun v S => some (v, S)) (rv true 1) && (okR (F (nn 18446744073709551614) (mkS []) fun v S => some (v, S)) (rv true 2) && okR (F (nn 18446744073709551613) (mkS []) fun v S => some (v, S)) (rv true 3)))
theorem eqV_nn (n : Nat) : eqV (nn n) (nn n) = true := by
  show (true && Nat.beq n n) = true
  rw [Nat.beq_refl]; rfl
theorem tabI_at {f : FuncId} {F : Gn 1} (hF : FOK P f (un 1 F)) {n x : Nat} {s : Bool} (h2 : okR (F (nn n) (mkS []) fun v S => some (v, S)) (rv s x) = true) {S : St} {k : Cont} (ok : SOK S) (h : k (rv s x) S = some out) (he : eqL [nn n] [nn n] = true) : ∃ v' S', k v' S' = some out ∧ CallOK P f [nn n] S v' S' :=
  pure_at (vs := [nn n]) hF (fun p => rfl) (fun π => rfl) he (fun p => rv_ok p _ _) (fun π => rv_ren π _ _) (rv_eq _ _) (fun e => rfl) (okR_some h2) ok h
theorem kNo_i64 {kd : IntKind} (h : Nat.beq (kNo kd) 3 = true) : kd = .i64 := by cases kd <;> first | rfl | exact absurd h (by decide)
theorem tabI_ok {f : FuncId} {F : Gn 1} (hF : FOK P f (un 1 F)) (hc : chkI F = true) : FOK P f (un 1 (tabI F)) := by
  intro vs S k out ok h
  match vs, h with
  | [], h => exact no h
  | _ :: _ :: _, h => exact no h
  | [a], h =>
    have slow : F a S k = some out → _ := fun h => hF [a] S k out ok h
    obtain ⟨kd, n, rfl, h⟩ := vI_some (show tabI F a S k = some out from h)
    simp only [chkI, Bool.and_eq_true] at hc
    cases hk : Nat.beq (kNo kd) 3 with
    | false => rw [hk] at h; exact slow h
    | true =>
      rw [hk] at h
      have := kNo_i64 hk
      subst this
      have he : eqL [nn n] [nn n] = true := by
        show (eqV (nn n) (nn n) && true) = true
        rw [eqV_nn]; rfl
      cases h4 : Nat.blt n 4 with
      | true =>
        rw [h4] at h
        have h : encK false n (fun v => k v S) = some out := h
        rw [encK_eq] at h
        rw [blt_eq] at h4
        exact tabI_at hF (upto0_ok hc.1 n (of_decide_eq_true h4)) ok h he
      | false =>
        rw [h4] at h
        cases h5 : Nat.beq n 18446744073709551615 with
        | true =>
          rw [h5] at h
          have := Nat.eq_of_beq_eq_true h5
          subst this
          exact tabI_at hF hc.2.1 ok h he
        | false =>
          rw [h5] at h
          cases h6 : Nat.beq n 18446744073709551614 with
          | true =>
            rw [h6] at h
            have := Nat.eq_of_beq_eq_true h6
            subst this
            exact tabI_at hF hc.2.2.1 ok h he
          | false =>
            rw [h6] at h
            cases h7 : Nat.beq n 18446744073709551613 with
            | true =>
              rw [h7] at h
              have := Nat.eq_of_beq_eq_true h7
              subst this
              exact tabI_at hF hc.2.2.2 ok h he
            | false => rw [h7] at h; exact slow h
theorem tabI_zv (F : Gn 1) {n : Nat} (hn : n < 4) (S : St) (k : Cont) : tabI F (nn n) S k = k (zv n) S := by
  have e : tabI F (nn n) S k = encK false n (fun v => k v S) := by
    show @Bool.rec (fun _ => R) _ (encK false n (fun v => k v S)) (Nat.blt n 4) = _
    rw [blt_eq, decide_eq_true hn]
  rw [e, encK_eq, rv_of (z := (n : Int)) (by simp)]
end
end Go.AM.Q

/- Rows of machine integers of a kind in memory. -/
namespace Go.AM.U
open Go.AM.Q
set_option linter.unusedVariables false
set_option linter.unusedSimpArgs false
variable {S S0 S1 : St} {v : V} {l : List Nat} {id : Pos} {kd : IntKind}
abbrev kk (kd : IntKind) (n : Nat) : V := .i kd n
def KRow (kd : IntKind) (S : St) (v : V) (l : List Nat) : Prop := match v with
  | .sl id off len cap => len = l.length ∧ len ≤ cap ∧ cap ≤ 1073741824 ∧ ∃ b : Blk, S.h.get id = some b ∧ ∃ t, b.cs.drop off = l.map (kk kd) ++ t
  | .so id off len cap sz => sz = 1 ∧ len = l.length ∧ len ≤ cap ∧ cap ≤ 1073741824 ∧ ∃ b : Blk, S.h.get id = some b ∧ ∃ t, b.cs.drop off = l.map (kk kd) ++ t
  | .sn => l = []
  | _ => False
theorem KRow.len (h : KRow kd S v l) : (∀ c : V → R, pLen v c = c (nn l.length)) ∧ l.length ≤ 1073741824 := by
  unfold KRow at h
  split at h
  · obtain ⟨rfl, h1, h2, _⟩ := h
    refine ⟨fun c => ?_, by omega⟩
    show gu (Nat.ble l.length 1073741824) (retI c .i64 l.length) = _
    rw [Nat.ble_eq_true_of_le (by omega), gu_true, retI_eq]
  · obtain ⟨_, rfl, h1, h2, _⟩ := h
    refine ⟨fun c => ?_, by omega⟩
    show gu (Nat.ble l.length 1073741824) (retI c .i64 l.length) = _
    rw [Nat.ble_eq_true_of_le (by omega), gu_true, retI_eq]
  · subst h; exact ⟨fun c => rfl, by simp⟩
  · exact h.elim
theorem kdrop_get {cs t : List V} {off i x : Nat} (h : cs.drop off = l.map (kk kd) ++ t) (hi : l[i]? = some x) : cs[off + i]? = some (kk kd x) := by
  have h1 := (List.getElem?_eq_some_iff.1 hi).1
  have : (cs.drop off)[i]? = some (kk kd x) := by rw [h, List.getElem?_append_left (by simpa using h1), List.getElem?_map, hi]; rfl
  rwa [List.getElem?_drop] at this
theorem KRow.get (h : KRow kd S v l) {i : Nat} (hi : i < l.length) : ∃ q, (∀ c, pIdx 1 v (nn i) c = c q) ∧ ∀ c, pLd q S c = c (kk kd (l.getD i 0)) := by
  have hb := h.len.2
  have hg := getD_of hi
  unfold KRow at h
  split at h
  · rename_i id off len cap
    obtain ⟨rfl, _, _, b, h2, t, h3⟩ := h
    refine ⟨.p id (off + i * 1), fun c => ?_, fun c => pLd_eq h2 (by rw [Nat.mul_one]; exact kdrop_get h3 hg) c⟩
    show gu (Bool.not (neg .i64 i)) (gu (Nat.blt i l.length) (fN (Nat.add off (Nat.mul i 1)) (fun o => c (.p id o)))) = _
    rw [neg_n (by omega), blt_eq, decide_eq_true hi, fN_eq]; rfl
  · rename_i id off len cap sz
    obtain ⟨rfl, rfl, _, _, b, h2, t, h3⟩ := h
    refine ⟨.p id (off + i * 1), fun c => ?_, fun c => pLd_eq h2 (by rw [Nat.mul_one]; exact kdrop_get h3 hg) c⟩
    show gu (Bool.not (neg .i64 i)) (gu (Nat.blt i l.length) (fN (Nat.add off (Nat.mul i 1)) (fun o => c (.p id o)))) = _
    rw [neg_n (by omega), blt_eq, decide_eq_true hi, fN_eq]; rfl
  · subst h; simp at hi
  · exact h.elim
/-- the beginning of a row -/
theorem KRow.slc (h : KRow kd S v l) {n : Nat} (hn : n ≤ l.length) : ∃ a, (∀ c, pSlc 1 v none (some (nn n)) none c = c a) ∧ KRow kd S a (l.take n) ∧ (∀ id m cap, v = .so id 0 m cap 1 → a = .so id 0 n cap 1) ∧ (∀ id m cap, v = .sl id 0 m cap → a = .sl id 0 n cap) ∧ (v = .sn → a = .sn) := by
  have hb := h.len.2
  unfold KRow at h
  split at h
  · rename_i id off len cap
    obtain ⟨rfl, g1, g2, b, h2, t, h3⟩ := h
    refine ⟨.sl id off n cap, fun c => ?_, ?_, (fun _ _ _ e => by cases e), (fun _ _ _ e => by cases e; rfl), (fun e => by cases e)⟩
    · show gu (Nat.ble cap cap) (gu (Bool.not (neg .i64 n)) (gu (Nat.ble n cap) (gu (Nat.ble 0 n) (fN (cut 1 off 0 cap) (fun o => fN (Nat.sub n 0) (fun n' => fN (Nat.sub cap 0) (fun q => c (.sl id o n' q)))))))) = _
      rw [neg_n (by omega), Nat.ble_eq_true_of_le (Nat.le_refl cap), Nat.ble_eq_true_of_le (show n ≤ cap by omega), Nat.ble_eq_true_of_le (Nat.zero_le n)]
      simp only [fN_eq]
      show c (.sl id (cut 1 off 0 cap) (n - 0) (cap - 0)) = _
      rw [show cut 1 off 0 cap = off by unfold cut; cases Nat.beq cap 0 <;> simp, Nat.sub_zero, Nat.sub_zero]
    · refine ⟨by rw [List.length_take]; omega, by omega, g2, b, h2, (l.drop n).map (kk kd) ++ t, ?_⟩
      rw [h3, ← List.append_assoc, ← List.map_append, List.take_append_drop]
  · rename_i id off len cap sz
    obtain ⟨rfl, rfl, g1, g2, b, h2, t, h3⟩ := h
    refine ⟨.so id off n cap 1, fun c => ?_, ?_, (fun _ _ _ e => by cases e; rfl), (fun _ _ _ e => by cases e), (fun e => by cases e)⟩
    · show gu (Bool.not (neg .i64 n)) (gu (Nat.ble n cap) (gu (Nat.ble 0 n) (fN (Nat.add off (Nat.mul 0 1)) (fun o => fN (Nat.sub n 0) (fun n' => fN (Nat.sub cap 0) (fun q => c (.so id o n' q 1))))))) = _
      rw [neg_n (by omega), Nat.ble_eq_true_of_le (show n ≤ cap by omega), Nat.ble_eq_true_of_le (Nat.zero_le n)]
      simp only [fN_eq]
      show c (.so id (off + 0 * 1) (n - 0) (cap - 0) 1) = _
      rw [Nat.zero_mul, Nat.add_zero, Nat.sub_zero, Nat.sub_zero]
    · refine ⟨rfl, by rw [List.length_take]; omega, by omega, g2, b, h2, (l.drop n).map (kk kd) ++ t, ?_⟩
      rw [h3, ← List.append_assoc, ← List.map_append, List.take_append_drop]
  · subst h
    have : n = 0 := by simpa using hn
    subst this
    exact ⟨.sn, fun c => rfl, rfl, (fun _ _ _ e => by cases e), (fun _ _ _ e => by cases e), fun _ => rfl⟩
  · exact h.elim
/-- a row that grows -/
def GrowK (kd : IntKind) (S0 S : St) (v : V) (l : List Nat) : Prop := v = .sn ∧ l = [] ∨ ∃ id, v = .so id 0 l.length l.length 1 ∧ Own S0 S id (l.map (kk kd))
theorem GrowK.row (h : GrowK kd S0 S v l) (hl : l.length ≤ 1073741824) : KRow kd S v l := by
  rcases h with ⟨rfl, rfl⟩ | ⟨id, rfl, h0, n, h1, h2⟩
  · rfl
  · exact ⟨rfl, rfl, Nat.le_refl _, hl, _, h1, [], by simp⟩
theorem kbsl_eq (x y : Nat) (S : St) (c : Cont) : pBsl [.i kd x] 1 [(0, 1, kk kd y)] S c = c (.sl S.nx 0 1 1) (S.new [kk kd y]) := by
  show newK [kk kd y] S (fun nx S' => c (.sl nx 0 1 1) S') = _
  rw [newK_eq]
theorem kapp_nil {id2 : Pos} {b2 : Nat} {x : V} (h2 : S.h.get id2 = some ⟨b2, [x]⟩) (c : Cont) : pApp 1 .sn (.sl id2 0 1 1) S c = c (.so S.nx 0 1 1 1) (S.new [x]) := by
  show elems 1 id2 0 1 S (fun new => app1 1 1 new .sn S c) = _
  rw [elems_eq h2 (by simp)]
  show newK [x] S (fun nx S' => c (.so nx 0 1 1 1) S') = _
  rw [newK_eq]
theorem kapp_so {id2 : Pos} {b b2 n : Nat} {cs : List V} {x : V} (h2 : S.h.get id2 = some ⟨b2, [x]⟩) (h : S.h.get id = some ⟨b, cs⟩) (hb : S.fl ≤ b) (hc : cs.length = n) (hl : n < 1073741824) (c : Cont) :
    pApp 1 (.so id 0 n n 1) (.sl id2 0 1 1) S c = c (.so S.nx 0 (n + 1) (n + 1) 1) ((S.upd id ⟨0, []⟩).new (cs ++ [x])) := by
  show elems 1 id2 0 1 S (fun new => app1 1 1 new (.so id 0 n n 1) S c) = _
  rw [elems_eq h2 (by simp)]
  show Bool.rec (motive := fun _ => Unit → R) _ _ (Nat.ble (n + 1) n) () = _
  have e : Nat.ble (n + 1) n = false := by rw [ble_eq]; exact decide_eq_false (by omega)
  rw [e]
  show elems 1 id 0 n S (fun old => appK old [x] (fun cs => killK id S (fun S => newK cs S (fun nx S' => fN (Nat.add n 1) (fun l => gu (Nat.ble l 1073741824) (c (.so nx 0 l l 1) S')))))) = _
  rw [elems_eq h (by show 0 + n * 1 ≤ cs.length; omega), appK_eq]
  show killK id S _ = _
  show getBK id S.h _ = _
  rw [getBK_eq _ _ _ _ h]
  show gu (Nat.ble S.fl b) _ = _
  rw [Nat.ble_eq_true_of_le hb, gu_true]
  show setBK id (.mk 0 []) S.h _ = _
  rw [setBK_eq]
  show newK _ (St.upd S id ⟨0, []⟩) _ = _
  rw [newK_eq, fN_eq]
  show gu (Nat.ble (n + 1) 1073741824) _ = _
  rw [Nat.ble_eq_true_of_le (show n + 1 ≤ 1073741824 by omega), gu_true]
  have e2 : (cs.drop 0).take (n * 1) = cs := by rw [List.drop_zero, Nat.mul_one, ← hc, List.take_length]
  show c _ (St.new (St.upd S id ⟨0, []⟩) ((cs.drop 0).take (n * 1) ++ [x])) = _
  rw [e2]; rfl
theorem GrowK.app (h : GrowK kd S0 S v l) (r : Run S0 S) (hl : l.length < 1000000) (y x : Nat) :
    ∃ S' v', Run S0 S' ∧ GrowK kd S0 S' v' (l ++ [x]) ∧ (∀ q ds, Own S0 S q ds → Apart v q → Own S0 S' q ds ∧ Apart v' q) ∧ ∀ c : Cont, pBsl [.i kd y] 1 [(0, 1, kk kd x)] S (fun a S => pApp 1 v a S c) = c v' S' := by
  have r1 := r.new [kk kd x]
  obtain ⟨_, n2, g1, g2⟩ := Own.new r [kk kd x]
  rcases h with ⟨rfl, rfl⟩ | ⟨id, rfl, ho⟩
  · refine ⟨_, .so (S.new [kk kd x]).nx 0 1 1 1, r1.new [kk kd x], .inr ⟨_, rfl, ?_⟩, fun q ds hq _ => ?_, fun c => by rw [kbsl_eq, kapp_nil g1]⟩
    · exact Own.new r1 [kk kd x]
    · obtain ⟨h1, _⟩ := hq.keep r [kk kd x]
      obtain ⟨h2, h3⟩ := h1.keep r1 [kk kd x]
      exact ⟨h2, fun a b c d e => by cases e; exact h3 rfl⟩
  · obtain ⟨ho1, hne⟩ := ho.keep r [kk kd x]
    have ho2 := ho1
    obtain ⟨h0, n, h1, h2⟩ := ho2
    have r2 := r1.kill ho1
    have e : l.map (kk kd) ++ [kk kd x] = (l ++ [x]).map (kk kd) := by rw [List.map_append]; rfl
    refine ⟨_, .so (S.new [kk kd x]).nx 0 (l.length + 1) (l.length + 1) 1, r2.new (l.map (kk kd) ++ [kk kd x]), .inr ⟨_, by rw [List.length_append]; rfl, ?_⟩, fun q ds hq ha => ?_, fun c => by rw [kbsl_eq, kapp_so g1 h1 (by rw [r1.fl]; exact h2) (by rw [List.length_map]) (by omega)]⟩
    · have := Own.new r2 (l.map (kk kd) ++ [kk kd x])
      rwa [e] at this ⊢
    · obtain ⟨k1, _⟩ := hq.keep r [kk kd x]
      have hqi : q ≠ id := fun e => ha _ _ _ _ (by rw [e])
      obtain ⟨k3, k4⟩ := (k1.upd (ds := []) (b := ⟨0, []⟩) hqi).keep r2 (l.map (kk kd) ++ [kk kd x])
      exact ⟨k3, fun a b c d e => by cases e; exact k4 rfl⟩
end Go.AM.U

/- Digits, and numbers as strings of bytes. -/
namespace Go.AM.U
open Go.AM.Q
set_option linter.unusedVariables false
set_option linter.unusedSimpArgs false
/-- the number with these digits, the least one first -/
def ofL (B : Nat) : List Nat → Nat
  | [] => 0
  | x :: l => x + B * ofL B l
theorem ofL_app (B : Nat) : ∀ (l m : List Nat), ofL B (l ++ m) = ofL B l + B ^ l.length * ofL B m
  | [], m => by simp [ofL]
  | x :: l, m => by
    simp only [List.cons_append, ofL, ofL_app B l m, List.length_cons, Nat.pow_succ, Nat.mul_add]
    rw [Nat.mul_comm (B ^ l.length) B, Nat.mul_assoc]; omega
theorem ofL_lt {B : Nat} (hB : 0 < B) : ∀ {l : List Nat}, (∀ x ∈ l, x < B) → ofL B l < B ^ l.length
  | [], h => by simp [ofL]
  | x :: l, h => by
    have h1 := h x (List.mem_cons_self ..)
    have h2 := ofL_lt hB (l := l) (fun y hy => h y (List.mem_cons_of_mem _ hy))
    simp only [ofL, List.length_cons, Nat.pow_succ]
    have h3 : B * (ofL B l + 1) ≤ B * B ^ l.length := Nat.mul_le_mul_left _ h2
    rw [Nat.mul_add, Nat.mul_one] at h3
    rw [Nat.mul_comm (B ^ l.length) B]; omega
/-- the digits, the least one first, without zeros at the end -/
def dgF (B : Nat) : Nat → Nat → List Nat
  | 0, _ => []
  | f + 1, n => if n = 0 then [] else n % B :: dgF B f (n / B)
def dg (B n : Nat) : List Nat := dgF B n n
theorem dgF_eq {B : Nat} (hB : 2 ≤ B) : ∀ (f g n : Nat), n ≤ f → n ≤ g → dgF B f n = dgF B g n
  | 0, 0, n, h1, h2 => rfl
  | 0, g + 1, n, h1, h2 => by simp only [dgF]; rw [if_pos (by omega)]
  | f + 1, 0, n, h1, h2 => by simp only [dgF]; rw [if_pos (by omega)]
  | f + 1, g + 1, n, h1, h2 => by
    simp only [dgF]
    by_cases h : n = 0
    · rw [if_pos h, if_pos h]
    · have : n / B < n := Nat.div_lt_self (by omega) hB
      rw [if_neg h, if_neg h, dgF_eq hB f g (n / B) (by omega) (by omega)]
theorem dg_zero (B : Nat) : dg B 0 = [] := rfl
theorem dg_pos {B n : Nat} (hB : 2 ≤ B) (h : n ≠ 0) : dg B n = n % B :: dg B (n / B) := by
  obtain ⟨m, rfl⟩ : ∃ m, n = m + 1 := ⟨n - 1, by omega⟩
  have : (m + 1) / B < m + 1 := Nat.div_lt_self (by omega) hB
  show (if m + 1 = 0 then [] else (m + 1) % B :: dgF B m ((m + 1) / B)) = _
  rw [if_neg h, dgF_eq hB m ((m + 1) / B) ((m + 1) / B) (by omega) (by omega)]; rfl
theorem dg_add {B m x : Nat} (hB : 2 ≤ B) (hx : x < B) : dg B (m * B + x) = if m * B + x = 0 then [] else x :: dg B m := by
  by_cases h : m * B + x = 0
  · rw [if_pos h, h, dg_zero]
  · rw [if_neg h, dg_pos hB h, Nat.add_comm, Nat.add_mul_mod_self_right, Nat.mod_eq_of_lt hx, Nat.add_mul_div_right _ _ (by omega), Nat.div_eq_of_lt hx, Nat.zero_add]
theorem ofL_dg {B : Nat} (hB : 2 ≤ B) : ∀ n, ofL B (dg B n) = n := fun n => by
  induction n using Nat.strongRecOn with
  | _ n ih =>
    by_cases h : n = 0
    · subst h; rfl
    · have : n / B < n := Nat.div_lt_self (by omega) hB
      rw [dg_pos hB h, ofL, ih _ this]; exact Nat.mod_add_div n B
theorem dg_lt {B : Nat} (hB : 2 ≤ B) : ∀ n, ∀ x ∈ dg B n, x < B := fun n => by
  induction n using Nat.strongRecOn with
  | _ n ih =>
    intro x hx
    by_cases h : n = 0
    · subst h; cases hx
    · have : n / B < n := Nat.div_lt_self (by omega) hB
      rw [dg_pos hB h] at hx
      rcases List.mem_cons.1 hx with rfl | hx
      · exact Nat.mod_lt _ (by omega)
      · exact ih _ this x hx
/-- a row without the zeros at the end is the digits of its number -/
theorem trim_dg {B : Nat} (hB : 2 ≤ B) : ∀ (l : List Nat), (∀ x ∈ l, x < B) → l.take (trimN l l.length) = dg B (ofL B l) := fun l => by
  have key : ∀ (n : Nat) (l : List Nat), l.length = n → (∀ x ∈ l, x < B) → l.take (trimN l l.length) = dg B (ofL B l) := fun n => by
    induction n with
    | zero =>
      intro l hl _
      have : l = [] := List.length_eq_zero_iff.1 hl
      subst this; rfl
    | succ n ih =>
      intro l hl hlt
      match l, hl with
      | x :: t, hl =>
        have hx := hlt x (List.mem_cons_self ..)
        have ht : ∀ y ∈ t, y < B := fun y hy => hlt y (List.mem_cons_of_mem _ hy)
        have h1 := ih t (by simpa using hl) ht
        have tc : ∀ k, trimN (x :: t) (k + 1) = if trimN t k = 0 then (if x = 0 then 0 else 1) else trimN t k + 1 := fun k => by
          induction k with
          | zero =>
            simp only [trimN, List.getD_cons_zero, if_true]
            by_cases h : x = 0
            · subst h; rfl
            · rw [if_neg h]
              cases hb : Nat.beq x 0
              · rfl
              · exact absurd (Nat.eq_of_beq_eq_true hb) h
          | succ k ihk =>
            have e1 : trimN (x :: t) (k + 1 + 1) = bif Nat.beq (t.getD k 0) 0 then trimN (x :: t) (k + 1) else k + 1 + 1 := by rw [trimN, List.getD_cons_succ]
            have e2 : trimN t (k + 1) = bif Nat.beq (t.getD k 0) 0 then trimN t k else k + 1 := by rw [trimN]
            rw [e1, e2]
            cases hb : Nat.beq (t.getD k 0) 0
            · simp
            · simpa using ihk
        show (x :: t).take (trimN (x :: t) (t.length + 1)) = dg B (x + B * ofL B t)
        rw [tc, Nat.add_comm x, Nat.mul_comm B, dg_add hB hx]
        have hle := trimN_le t t.length
        by_cases h0 : trimN t t.length = 0
        · have h2 : dg B (ofL B t) = [] := by rw [← h1, h0]; rfl
          have h3 : ofL B t = 0 := by have := ofL_dg hB (ofL B t); rw [h2] at this; exact this.symm
          rw [if_pos h0, h3, Nat.zero_mul, Nat.zero_add]
          by_cases hx0 : x = 0
          · rw [if_pos hx0, if_pos hx0]; rfl
          · rw [if_neg hx0, if_neg hx0]; rfl
        · have h3 : ofL B t ≠ 0 := fun e => by
            rw [e, dg_zero] at h1
            have h5 := congrArg List.length h1
            rw [List.length_take] at h5
            have h5 : min (trimN t t.length) t.length = 0 := h5
            omega
          have h4 : ofL B t * B + x ≠ 0 := by
            have : 0 < ofL B t * B := Nat.mul_pos (by omega) (by omega)
            omega
          rw [if_neg h0, if_neg h4, List.take_succ_cons, h1]
  exact key l.length l rfl
/- strings -/
def strN (n : Nat) : List Nat := (dg 256 n).reverse
def pv (b : List Nat) : Nat → Nat
  | 0 => 0
  | e + 1 => pv b e * 256 + b.getD e 0
def val (b : List Nat) : Nat := pv b b.length
theorem strN_zero : strN 0 = [] := rfl
theorem strN_add {m x : Nat} (hx : x < 256) : strN (m * 256 + x) = if m * 256 + x = 0 then [] else strN m ++ [x] := by
  unfold strN
  rw [dg_add (by decide) hx]
  split
  · rfl
  · rw [List.reverse_cons]
theorem strN_lt (n : Nat) : ∀ x ∈ strN n, x < 256 := fun x hx => dg_lt (by decide) n x (List.mem_reverse.1 hx)
theorem pv_app (a : List Nat) (c : List Nat) : ∀ e, e ≤ a.length → pv (a ++ c) e = pv a e
  | 0, _ => rfl
  | e + 1, h => by
    simp only [pv]
    rw [pv_app a c e (by omega)]
    congr 1
    rw [List.getD_eq_getElem?_getD, List.getD_eq_getElem?_getD, List.getElem?_append_left (by omega)]
theorem val_snoc (a : List Nat) (x : Nat) : val (a ++ [x]) = val a * 256 + x := by
  unfold val
  rw [List.length_append]
  show pv (a ++ [x]) (a.length + 1) = _
  simp only [pv]
  rw [pv_app a [x] a.length (Nat.le_refl _)]
  congr 1
  rw [List.getD_eq_getElem?_getD, List.getElem?_append_right (Nat.le_refl _), Nat.sub_self]; rfl
theorem val_strN (n : Nat) : val (strN n) = n := by
  induction n using Nat.strongRecOn with
  | _ n ih =>
    by_cases h : n = 0
    · subst h; rfl
    · have h1 := Nat.div_add_mod n 256
      have h2 : n / 256 * 256 + n % 256 = n := by omega
      have h3 := strN_add (m := n / 256) (x := n % 256) (Nat.mod_lt _ (by decide))
      rw [h2, if_neg h] at h3
      rw [h3, val_snoc, ih _ (Nat.div_lt_self (by omega) (by decide)), h2]
theorem strN_len0 (n : Nat) : (strN n).length = 0 ↔ n = 0 := by
  constructor
  · intro h
    have h1 : strN n = [] := List.length_eq_zero_iff.1 h
    have := val_strN n
    rw [h1] at this; exact this.symm
  · intro h; subst h; rfl
theorem pv_lt {b : List Nat} (h : ∀ x ∈ b, x < 256) : ∀ e, pv b e < 256 ^ e
  | 0 => by simp [pv]
  | e + 1 => by
    have h1 := pv_lt h e
    have h2 : b.getD e 0 < 256 := by
      rw [List.getD_eq_getElem?_getD]
      cases hi : b[e]? with
      | none => simp
      | some x => exact h x (List.mem_of_getElem? hi)
    simp only [pv, Nat.pow_succ]
    have h3 : (pv b e + 1) * 256 ≤ 256 ^ e * 256 := Nat.mul_le_mul_right _ h1
    omega
end Go.AM.U

/- Pure texts on structs of flat values. -/
namespace Go.AM.U
open Go.AM.Q
set_option linter.unusedVariables false
set_option linter.unusedSimpArgs false
noncomputable section
variable {P : Program} {out : V × St}
/-- flat, or a struct of flat values -/
def plV : V → Bool
  | .ag l => flatL l
  | v => flatV v
def plL : List V → Bool
  | [] => true
  | v :: l => plV v && plL l
theorem flatV_ok (p : Pos → Bool) {v : V} (h : flatV v = true) : okV p v = true := by cases v <;> first | rfl | cases h
theorem pl_okV (p : Pos → Bool) {v : V} (h : plV v = true) : okV p v = true := by
  cases v <;> first
    | exact flatV_ok p h
    | (rename_i l; show okL p l = true; exact flatL_ok p h)
theorem pl_renV (π : Pos → Pos) {v : V} (h : plV v = true) : renV π v = v := by
  cases v <;> first
    | exact flat_renV π h
    | (rename_i l; show V.ag (renL π l) = .ag l; rw [flat_renL π h])
theorem flat_eqV {v : V} (h : flatV v = true) : eqV v v = true := by
  have : eqL [v] [v] = true := eqL_refl (l := [v]) (by simp only [flatL, h, Bool.and_self])
  simp only [eqL, Bool.and_true] at this
  exact this
theorem pl_eqV {v : V} (h : plV v = true) : eqV v v = true := by
  cases v <;> first
    | exact flat_eqV h
    | (rename_i l; show eqL l l = true; exact eqL_refl h)
theorem pl_mtV {v : V} (h : plV v = true) (e : PE) : mtV v v e = e := by
  cases v <;> first
    | rfl
    | cases h
    | (rename_i l; show mtL l l e = e; exact flat_mt l e h)
theorem pl_okL (p : Pos → Bool) : ∀ {l : List V}, plL l = true → okL p l = true
  | [], _ => rfl
  | v :: l, h => by
    simp only [plL, Bool.and_eq_true] at h
    simp only [okL, pl_okV p h.1, pl_okL p h.2, Bool.and_self]
theorem pl_renL (π : Pos → Pos) : ∀ {l : List V}, plL l = true → renL π l = l
  | [], _ => rfl
  | v :: l, h => by
    simp only [plL, Bool.and_eq_true] at h
    simp only [renL, pl_renV π h.1, pl_renL π h.2]
theorem pl_eqL : ∀ {l : List V}, plL l = true → eqL l l = true
  | [], _ => rfl
  | v :: l, h => by
    simp only [plL, Bool.and_eq_true] at h
    simp only [eqL, pl_eqV h.1, pl_eqL h.2, Bool.and_self]
theorem pl_mtL : ∀ {l : List V} (e : PE), plL l = true → mtL l l e = e
  | [], e, _ => rfl
  | v :: l, e, h => by
    simp only [plL, Bool.and_eq_true] at h
    show mtL l l (mtV v v e) = e
    rw [pl_mtV h.1, pl_mtL e h.2]
/-- plain, or a pair of plain values -/
def plT : V → Bool
  | .tu l => plL l
  | v => plV v
theorem plT_ok (p : Pos → Bool) {v : V} (h : plT v = true) : okV p v = true := by
  cases v <;> first
    | exact pl_okV p h
    | (rename_i l; show okL p l = true; exact pl_okL p h)
theorem plT_ren (π : Pos → Pos) {v : V} (h : plT v = true) : renV π v = v := by
  cases v <;> first
    | exact pl_renV π h
    | (rename_i l; show V.tu (renL π l) = .tu l; rw [pl_renL π h])
theorem plT_eq {v : V} (h : plT v = true) : eqV v v = true := by
  cases v <;> first
    | exact pl_eqV h
    | (rename_i l; show eqL l l = true; exact pl_eqL h)
theorem pureS_ok {f : FuncId} {F : Fun} (hF : FOK P f F) (D : List V → Option V)
    (hD : ∀ vs v, D vs = some v → plL vs = true ∧ plT v = true ∧ ∃ S2, F vs (mkS []) (fun v S => some (v, S)) = some (v, S2)) : FOK P f (pureF D) := by
  intro vs S k out ok h
  simp only [pureF] at h
  cases hd : D vs with
  | none => rw [hd] at h; cases h
  | some v =>
    rw [hd] at h
    obtain ⟨h1, h2, h3⟩ := hD vs v hd
    exact pure_at hF (fun p => pl_okL p h1) (fun π => pl_renL π h1) (pl_eqL h1) (fun p => plT_ok p h2) (fun π => plT_ren π h2) (plT_eq h2) (fun e => pl_mtL e h1) h3 ok h
end
end Go.AM.U
