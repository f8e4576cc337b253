/- Lists of machine numbers packed into one number: division by a polynomial. -/
import Derived.Test.YtndgeimkifdifaaGreatXN
import Derived.Test.YtndgeimkifdifaaGreatXO
namespace Go.AM.W
set_option linter.unusedVariables false
set_option linter.unusedSimpArgs false
/-- the base: 2 to the power 192 -/
abbrev WB : Nat := 6277101735386680763835789423207666416102355444464034512896
abbrev MM : Nat := 18446744073709551616
def pk : List Nat → Nat
  | [] => 0
  | x :: l => x + WB * pk l
theorem pk_dig : ∀ (l : List Nat) (k : Nat), (∀ x ∈ l, x < WB) → pk l / WB ^ k % WB = l.getD k 0
  | [], k, h => by simp [pk]
  | x :: l, 0, h => by
    have := h x (by simp)
    simp only [pk, Nat.pow_zero, Nat.div_one, List.getD_cons_zero, Nat.add_mul_mod_self_left]
    exact Nat.mod_eq_of_lt this
  | x :: l, k + 1, h => by
    have := h x (by simp)
    rw [Nat.pow_succ, Nat.mul_comm, ← Nat.div_div_eq_div_mul, List.getD_cons_succ, ← pk_dig l k (fun y hy => h y (by simp [hy]))]
    congr 2
    show (x + WB * pk l) / WB = pk l
    rw [Nat.add_mul_div_left _ _ (by decide), Nat.div_eq_of_lt this, Nat.zero_add]
theorem pk_set : ∀ (l : List Nat) (n a : Nat), n < l.length → pk (l.set n (l.getD n 0 + a)) = pk l + a * WB ^ n
  | [], n, a, h => by simp at h
  | x :: l, 0, a, h => by simp only [List.set_cons_zero, List.getD_cons_zero, pk, Nat.pow_zero]; omega
  | x :: l, n + 1, a, h => by
    simp only [List.set_cons_succ, List.getD_cons_succ, pk]
    rw [pk_set l n a (by simpa using h), Nat.pow_succ, Nat.mul_add]
    rw [show a * (WB ^ n * WB) = WB * (a * WB ^ n) by rw [← Nat.mul_assoc, Nat.mul_comm]]
    omega
theorem pk_rep : ∀ n, pk (List.replicate n 0) = 0
  | 0 => rfl
  | n + 1 => by rw [List.replicate_succ, pk, pk_rep n, Nat.mul_zero]
def rowU (x : Nat) : List Nat → Nat → List Nat → List Nat
  | [], _, o => o
  | y :: g, n, o => rowU x g (n + 1) (o.set n (o.getD n 0 + x * y))
theorem rowU_len (x : Nat) : ∀ (g : List Nat) (n : Nat) (o : List Nat), (rowU x g n o).length = o.length
  | [], _, o => rfl
  | y :: g, n, o => by simp only [rowU]; rw [rowU_len x g]; simp
theorem pk_row (x : Nat) : ∀ (g : List Nat) (n : Nat) (o : List Nat), n + g.length ≤ o.length → pk (rowU x g n o) = pk o + x * pk g * WB ^ n
  | [], n, o, h => by simp [rowU, pk]
  | y :: g, n, o, h => by
    simp only [List.length_cons] at h
    simp only [rowU]
    rw [pk_row x g (n + 1) _ (by simp; omega), pk_set o n _ (by omega), pk, Nat.pow_succ, Nat.add_assoc]
    congr 1
    rw [Nat.mul_add, Nat.add_mul]
    congr 1
    rw [Nat.mul_comm (WB ^ n) WB, ← Nat.mul_assoc, ← Nat.mul_assoc]
    congr 1
    rw [Nat.mul_assoc, Nat.mul_comm (pk g) WB, ← Nat.mul_assoc]
theorem getD_set (o : List Nat) (n i v : Nat) : (o.set n v).getD i 0 = if i = n ∧ n < o.length then v else o.getD i 0 := by
  rw [List.getD_eq_getElem?_getD, List.getElem?_set, List.getD_eq_getElem?_getD]
  by_cases h : n = i
  · subst h
    by_cases h2 : n < o.length
    · simp [h2]
    · simp [h2, List.getElem?_eq_none (Nat.le_of_not_lt h2)]
  · rw [if_neg h, if_neg (fun e => h e.1.symm)]
theorem row_low (x : Nat) : ∀ (g : List Nat) (n : Nat) (o : List Nat) (i : Nat), i < n → (rowU x g n o).getD i 0 = o.getD i 0
  | [], n, o, i, h => rfl
  | y :: g, n, o, i, h => by
    simp only [rowU]
    rw [row_low x g (n + 1) _ i (by omega), getD_set, if_neg (by omega)]
theorem row_bd (x C : Nat) : ∀ (g : List Nat) (n : Nat) (o : List Nat) (i : Nat), (∀ y ∈ g, x * y ≤ C) → (rowU x g n o).getD i 0 ≤ o.getD i 0 + C
  | [], n, o, i, h => Nat.le_add_right _ _
  | y :: g, n, o, i, h => by
    simp only [rowU]
    rcases Nat.lt_or_ge i (n + 1) with h1 | h1
    · rw [row_low x g (n + 1) _ i h1, getD_set]
      have := h y (by simp)
      split
      · rename_i h2; rw [h2.1]; omega
      · omega
    · have := row_bd x C g (n + 1) (o.set n (o.getD n 0 + x * y)) i (fun z hz => h z (by simp [hz]))
      rw [getD_set, if_neg (by omega)] at this
      exact this
theorem getD_map (p : Nat) (o : List Nat) (n : Nat) : (o.map (· % p)).getD n 0 = o.getD n 0 % p := by
  rw [List.getD_eq_getElem?_getD, List.getElem?_map, List.getD_eq_getElem?_getD]
  cases o[n]? with
  | none => simp
  | some v => rfl
theorem lt_of_getD {l : List Nat} {b : Nat} (h : ∀ i, l.getD i 0 < b) : ∀ x ∈ l, x < b := fun x hx => by
  obtain ⟨i, hi, rfl⟩ := List.getElem_of_mem hx
  have := h i
  rwa [List.getD_eq_getElem?_getD, List.getElem?_eq_getElem hi] at this
/-- all below p -/
def subM (p r m : Nat) : Nat := (r + (p - m % p)) % p
def subS (p c : Nat) : List Nat → Nat → List Nat → List Nat
  | [], _, o => o
  | x :: g, n, o => subS p c g (n + 1) (o.set n (subM p (o.getD n 0) (c * x)))
theorem subS_len (p c : Nat) : ∀ (g : List Nat) (n : Nat) (o : List Nat), (subS p c g n o).length = o.length
  | [], _, o => rfl
  | y :: g, n, o => by simp only [subS]; rw [subS_len p c g]; simp
theorem subM_row {p c x o : Nat} (h0 : 0 < p) (hc : c ≤ p) : subM p (o % p) (c * x) = (o + (p - c) * x) % p := by
  unfold subM
  rw [Nat.mod_add_mod]
  have h1 : c * x % p < p := Nat.mod_lt _ h0
  have h2 := Nat.div_add_mod (c * x) p
  have h3 : (p - c) * x + c * x = p * x := by rw [← Nat.add_mul]; congr 1; omega
  have key : (o + (p - c * x % p)) + p * x = (o + (p - c) * x) + p * (c * x / p + 1) := by
    rw [Nat.mul_add]; omega
  have := congrArg (· % p) key
  simpa only [Nat.add_mul_mod_self_left] using this
theorem sub_mod {p c : Nat} (h0 : 0 < p) (hc : c ≤ p) : ∀ (g : List Nat) (n : Nat) (o : List Nat), subS p c g n (o.map (· % p)) = (rowU (p - c) g n o).map (· % p)
  | [], n, o => rfl
  | y :: g, n, o => by
    simp only [subS, rowU]
    rw [← sub_mod h0 hc g (n + 1), List.map_set, getD_map, subM_row h0 hc]
theorem drop_cons {l : List Nat} {j : Nat} (h : j < l.length) : l.drop j = l.getD j 0 :: l.drop (j + 1) := by
  rw [List.drop_eq_getElem_cons h]; congr 1; rw [List.getD_eq_getElem?_getD, List.getElem?_eq_getElem h]; rfl
def Lt (l : List Nat) : Prop := ∀ x ∈ l, x < MM
theorem sq_le {x y : Nat} (hx : x ≤ MM) (hy : y ≤ MM) : x * y ≤ 340282366920938463463374607431768211456 := by
  calc x * y ≤ MM * y := Nat.mul_le_mul_right _ hx
    _ ≤ MM * MM := Nat.mul_le_mul_left _ hy
    _ ≤ _ := by decide
/-- the division by a polynomial, without an inverse: out is q -/
def divS (g : List Nat) : Nat → List Nat → List Nat → List Nat × List Nat
  | 0, r, q => (r, q)
  | j + 1, r, q => divS g j (subS MM (r.getD (j + g.length - 1) 0) g j r) (q.set j (r.getD (j + g.length - 1) 0))
theorem divS_len (g : List Nat) : ∀ (j : Nat) (r q : List Nat), (divS g j r q).1.length = r.length ∧ (divS g j r q).2.length = q.length
  | 0, r, q => ⟨rfl, rfl⟩
  | j + 1, r, q => by
    obtain ⟨h1, h2⟩ := divS_len g j (subS MM (r.getD (j + g.length - 1) 0) g j r) (q.set j (r.getD (j + g.length - 1) 0))
    exact ⟨by simp only [divS]; rw [h1, subS_len], by simp only [divS]; rw [h2]; simp⟩
/-- the packed quotient -/
def divP (n G : Nat) : Nat → Nat → List Nat → List Nat
  | 0, R, q => q
  | j + 1, R, q => divP n G j (R + (MM - R / WB ^ (j + n - 1) % WB % MM) * G * WB ^ j) (R / WB ^ (j + n - 1) % WB % MM :: q)
theorem div_pk {g : List Nat} (hg : Lt g) (ng : 0 < g.length) : ∀ (j : Nat) (o q : List Nat) (b : Nat), j + g.length ≤ o.length + 1 → j ≤ q.length → (∀ i, o.getD i 0 ≤ b) → b + j * 340282366920938463463374607431768211456 < WB →
    (divS g j (o.map (· % MM)) q).2 = divP g.length (pk g) j (pk o) (q.drop j)
  | 0, o, q, b, h1, h2, h3, h4 => rfl
  | j + 1, o, q, b, h1, h2, h3, h4 => by
    have eW : WB = 6277101735386680763835789423207666416102355444464034512896 := rfl
    have hob : ∀ x ∈ o, x < WB := lt_of_getD fun i => by have := h3 i; omega
    have hd := pk_dig o (j + g.length - 1) hob
    simp only [divS, divP]
    rw [getD_map, hd]
    have hc : o.getD (j + g.length - 1) 0 % MM < MM := Nat.mod_lt _ (by decide)
    rw [sub_mod (by decide) (Nat.le_of_lt hc)]
    have hb := row_bd (MM - o.getD (j + g.length - 1) 0 % MM) 340282366920938463463374607431768211456 g j o
    have hq : (q.set j (o.getD (j + g.length - 1) 0 % MM)).drop j = o.getD (j + g.length - 1) 0 % MM :: q.drop (j + 1) := by
      rw [drop_cons (by rw [List.length_set]; omega), getD_set, if_pos ⟨rfl, by omega⟩]
      congr 1
      rw [List.drop_set_of_lt (by omega)]
    rw [div_pk hg ng j (rowU (MM - o.getD (j + g.length - 1) 0 % MM) g j o) (q.set j (o.getD (j + g.length - 1) 0 % MM)) (b + 340282366920938463463374607431768211456) (by rw [rowU_len]; omega) (by rw [List.length_set]; omega) (fun i => by
        have := hb i (fun y hy => sq_le (Nat.sub_le _ _) (Nat.le_of_lt (hg y hy)))
        have := h3 i; omega) (by omega)]
    rw [pk_row _ _ _ _ (by omega), hq]
/-- the quotient -/
def quo (g f : List Nat) : List Nat := (divS g (f.length - (g.length - 1)) f (List.replicate (f.length - (g.length - 1)) 0)).2
theorem quo_len (g f : List Nat) : (quo g f).length = f.length - (g.length - 1) := by
  unfold quo; rw [(divS_len _ _ _ _).2, List.length_replicate]
theorem quo_pk {g f : List Nat} (hg : Lt g) (hf : Lt f) (ng : 0 < g.length) (hle : g.length ≤ f.length) (lf : f.length ≤ 100000) : quo g f = divP g.length (pk g) (f.length - (g.length - 1)) (pk f) [] := by
  have eW : WB = 6277101735386680763835789423207666416102355444464034512896 := rfl
  have fm : f.map (· % MM) = f := by
    conv => rhs; rw [← List.map_id f]
    exact List.map_congr_left fun x hx => Nat.mod_eq_of_lt (hf x hx)
  have := div_pk hg ng (f.length - (g.length - 1)) f (List.replicate (f.length - (g.length - 1)) 0) MM (by omega) (by simp) (fun i => by
    rw [List.getD_eq_getElem?_getD]
    cases hi : f[i]? with
    | none => exact Nat.zero_le _
    | some x => exact Nat.le_of_lt (hf x (List.mem_of_getElem? hi))) (by show MM + _ < WB; have : MM = 18446744073709551616 := rfl; omega)
  rw [fm, List.drop_of_length_le (by simp)] at this
  exact this
theorem Lt.get {l : List Nat} (h : Lt l) (i : Nat) : l.getD i 0 < MM := by
  rw [List.getD_eq_getElem?_getD]
  cases hi : l[i]? with
  | none => show 0 < MM; decide
  | some x => exact h x (List.mem_of_getElem? hi)
theorem Lt.set {l : List Nat} (h : Lt l) (i : Nat) {x : Nat} (hx : x < MM) : Lt (l.set i x) := fun y hy => by
  rcases List.mem_or_eq_of_mem_set hy with h1 | h1
  · exact h y h1
  · rw [h1]; exact hx
theorem subS_lt (c : Nat) : ∀ (g : List Nat) (n : Nat) (o : List Nat), Lt o → Lt (subS MM c g n o)
  | [], n, o, h => h
  | y :: g, n, o, h => subS_lt c g _ _ (h.set n (Nat.mod_lt _ (by decide)))
theorem divS_lt (g : List Nat) : ∀ (j : Nat) (r q : List Nat), Lt r → Lt q → Lt (divS g j r q).2
  | 0, r, q, h1, h2 => h2
  | j + 1, r, q, h1, h2 => divS_lt g j _ _ (subS_lt _ _ _ _ h1) (h2.set _ (h1.get _))
theorem quo_lt {g f : List Nat} (hf : Lt f) : Lt (quo g f) := divS_lt _ _ _ _ hf (fun x hx => by rw [(List.mem_replicate.1 hx).2]; decide)
end Go.AM.W

/- cyclotomic.divide: the machine's text over packed numbers. -/
namespace Go.AM
open Go.Proofs
open Go.AM.Q
open Go.AM.W (MM WB Lt subM subS divS divS_len quo quo_len quo_lt quo_pk divP)
set_option linter.unusedVariables false
set_option linter.unusedSimpArgs false
noncomputable section
variable {S0 S : St} {out : V × St}
def BI108 : CS 19 := (cSeq (cReg fun kn v0 v1 v2 v3 v4 v5 v6 v7 v8 v9 v10 v11 v12 v13 v14 v15 v16 v17 v18 S => pLss v12 v13 (fun a0 => kn v0 v1 v2 v3 v4 v5 v6 v7 v8 v9 v10 v11 v12 v13 a0 v15 v16 v17 v18 S)) (cSeq (cCond (fun x y v0 v1 v2 v3 v4 v5 v6 v7 v8 v9 v10 v11 v12 v13 v14 v15 v16 v17 v18 S => pIf v14 (x v0 v1 v2 v3 v4 v5 v6 v7 v8 v9 v10 v11 v12 v13 v14 v15 v16 v17 v18 S) (y v0 v1 v2 v3 v4 v5 v6 v7 v8 v9 v10 v11 v12 v13 v14 v15 v16 v17 v18 S)) cSkip (cExit 4)) (cSeq (cBlock 5 (cSeq (cReg fun kn v0 v1 v2 v3 v4 v5 v6 v7 v8 v9 v10 v11 v12 v13 v14 v15 v16 v17 v18 S => pIdx 1 v15 v12 (fun a0 => pLd a0 S (fun a1 => kn v0 v1 v2 v3 v4 v5 v6 v7 v8 v9 v10 v11 v12 v13 v14 v15 v12 a1 v18 S))) (cReg fun kn v0 v1 v2 v3 v4 v5 v6 v7 v8 v9 v10 v11 v12 v13 v14 v15 v16 v17 v18 S => pAdd v9 v16 (fun a0 => pIdx 1 v11 a0 (fun a1 => pLd a1 S (fun a2 => pIdx 1 v8 v9 (fun a3 => pLd a3 S (fun a4 => pMul a4 v17 (fun a5 => pSub a2 a5 (fun a6 => pIdx 1 v11 a0 (fun a7 => pSt 1 a7 a6 S (fun S => kn v0 v1 v2 v3 v4 v5 v6 v7 v8 v9 v10 v11 v12 v13 v14 v15 v16 v17 v18 S)))))))))))) (cReg fun kn v0 v1 v2 v3 v4 v5 v6 v7 v8 v9 v10 v11 v12 v13 v14 v15 v16 v17 v18 S => pAdd v12 (.i .i64 1) (fun a0 => kn v0 v1 v2 v3 v4 v5 v6 v7 v8 v9 v10 v11 a0 v13 v14 v15 v16 v17 v18 S)))))
def BM108 (Ip : CS 19) : CS 19 := (cSeq (cSeq (cReg fun kn v0 v1 v2 v3 v4 v5 v6 v7 v8 v9 v10 v11 v12 v13 v14 v15 v16 v17 v18 S => pGeq v9 (.i .i64 0) (fun a0 => kn v0 v1 v2 v3 v4 v5 v6 v7 v8 v9 a0 v11 v12 v13 v14 v15 v16 v17 v18 S)) (cCond (fun x y v0 v1 v2 v3 v4 v5 v6 v7 v8 v9 v10 v11 v12 v13 v14 v15 v16 v17 v18 S => pIf v10 (x v0 v1 v2 v3 v4 v5 v6 v7 v8 v9 v10 v11 v12 v13 v14 v15 v16 v17 v18 S) (y v0 v1 v2 v3 v4 v5 v6 v7 v8 v9 v10 v11 v12 v13 v14 v15 v16 v17 v18 S)) cSkip (cExit 2))) (cSeq (cBlock 3 (cSeq (cReg fun kn v0 v1 v2 v3 v4 v5 v6 v7 v8 v9 v10 v11 v12 v13 v14 v15 v16 v17 v18 S => pAdd v9 v7 (fun a0 => pIdx 1 v11 a0 (fun a1 => pLd a1 S (fun a2 => pIdx 1 v8 v9 (fun a3 => pSt 1 a3 a2 S (fun S => kn v0 v1 v2 v3 v4 v5 v6 v7 v8 v9 v10 v11 v12 v13 v14 v15 v16 v17 v18 S)))))) (cSeq (cReg fun kn v0 v1 v2 v3 v4 v5 v6 v7 v8 v9 v10 v11 v12 v13 v14 v15 v16 v17 v18 S => pLen v6 (fun a0 => kn v0 v1 v2 v3 v4 v5 v6 v7 v8 v9 v10 v11 (.i .i64 0) a0 v14 v6 v16 v17 v18 S)) Ip))) (cReg fun kn v0 v1 v2 v3 v4 v5 v6 v7 v8 v9 v10 v11 v12 v13 v14 v15 v16 v17 v18 S => pSub v9 (.i .i64 1) (fun a0 => kn v0 v1 v2 v3 v4 v5 v6 v7 v8 a0 v10 v11 v12 v13 v14 v15 v16 v17 v18 S))))
def BO108 (f160 : Gn 1) (Mp : CS 19) : CS 19 := (cSeq (cReg fun kn v0 v1 v2 v3 v4 v5 v6 v7 v8 v9 v10 v11 v12 v13 v14 v15 v16 v17 v18 S => pLss v2 v3 (fun a0 => kn v0 v1 v2 v3 a0 v5 v6 v7 v8 v9 v10 v11 v12 v13 v14 v15 v16 v17 v18 S)) (cSeq (cCond (fun x y v0 v1 v2 v3 v4 v5 v6 v7 v8 v9 v10 v11 v12 v13 v14 v15 v16 v17 v18 S => pIf v4 (x v0 v1 v2 v3 v4 v5 v6 v7 v8 v9 v10 v11 v12 v13 v14 v15 v16 v17 v18 S) (y v0 v1 v2 v3 v4 v5 v6 v7 v8 v9 v10 v11 v12 v13 v14 v15 v16 v17 v18 S)) cSkip (cExit 0)) (cSeq (cBlock 1 (cSeq (cReg fun kn v0 v1 v2 v3 v4 v5 v6 v7 v8 v9 v10 v11 v12 v13 v14 v15 v16 v17 v18 S => pIdx 1 v5 v2 (fun a0 => pLd a0 S (fun a1 => kn v0 v1 v2 v3 v4 v5 a1 v7 v8 v9 v10 v11 v12 v13 v14 v15 v16 v17 v18 S))) (cSeq (cReg fun kn v0 v1 v2 v3 v4 v5 v6 v7 v8 v9 v10 v11 v12 v13 v14 v15 v16 v17 v18 S => f160 v0 S (fun a0 S => pLen v6 (fun a1 => pSub a1 (.i .i64 1) (fun a2 => kn v0 v1 v2 v3 v4 v5 v6 a2 v8 v9 v10 a0 v12 v13 v14 v15 v16 v17 v18 S)))) (cSeq (cReg fun kn v0 v1 v2 v3 v4 v5 v6 v7 v8 v9 v10 v11 v12 v13 v14 v15 v16 v17 v18 S => pLen v0 (fun a0 => pSub a0 v7 (fun a1 => pMks [(.i .i64 0)] a1 a1 S (fun a2 S => kn v0 v1 v2 v3 v4 v5 v6 v7 a2 v9 v10 v11 v12 v13 v14 v15 v16 v17 v18 S)))) (cSeq (cSeq (cReg fun kn v0 v1 v2 v3 v4 v5 v6 v7 v8 v9 v10 v11 v12 v13 v14 v15 v16 v17 v18 S => pLen v8 (fun a0 => pSub a0 (.i .i64 1) (fun a1 => kn v0 v1 v2 v3 v4 v5 v6 v7 v8 a1 v10 v11 v12 v13 v14 v15 v16 v17 v18 S))) Mp) (cReg fun kn v0 v1 v2 v3 v4 v5 v6 v7 v8 v9 v10 v11 v12 v13 v14 v15 v16 v17 v18 S => kn v8 v1 v2 v3 v4 v5 v6 v7 v8 v9 v10 v11 v12 v13 v14 v15 v16 v17 v18 S)))))) (cReg fun kn v0 v1 v2 v3 v4 v5 v6 v7 v8 v9 v10 v11 v12 v13 v14 v15 v16 v17 v18 S => pAdd v2 (.i .i64 1) (fun a0 => kn v0 v1 a0 v3 v4 v5 v6 v7 v8 v9 v10 v11 v12 v13 v14 v15 v16 v17 v18 S)))))
def HT108 (Lp : CS 19) : CS 19 := (cSeq (cReg fun kn v0 v1 v2 v3 v4 v5 v6 v7 v8 v9 v10 v11 v12 v13 v14 v15 v16 v17 v18 S => kn v0 v1 v2 v3 v4 v5 v6 v7 v8 v9 v10 v11 v12 v13 v14 v15 v16 v17 .sn S) (cSeq (cSeq (cReg fun kn v0 v1 v2 v3 v4 v5 v6 v7 v8 v9 v10 v11 v12 v13 v14 v15 v16 v17 v18 S => pLen v1 (fun a0 => kn v0 v1 (.i .i64 0) a0 v4 v1 v6 v7 v8 v9 v10 v11 v12 v13 v14 v15 v16 v17 v18 S)) Lp) (cSeq (cReg fun kn v0 v1 v2 v3 v4 v5 v6 v7 v8 v9 v10 v11 v12 v13 v14 v15 v16 v17 v18 S => kn v0 v1 v2 v3 v4 v5 v6 v7 v8 v9 v10 v11 v12 v13 v14 v15 v16 v17 v0 S) cRet)))
theorem C108_eq (f160 : Gn 1) : C108 f160 = HT108 (cBlock 0 (cLoop (BO108 f160 (cBlock 2 (cLoop (BM108 (cBlock 4 (cLoop BI108)))))))) := by rfl
theorem block_loop4 {n : Nat} (c : CS n) (kn : Fn n) (kx : Nat → Fn n) (kr : Fn n) : ∃ kx' : Nat → Fn n, kx' 4 = kn ∧ cBlock 4 (cLoop c) kn kx kr = loopN c kx' kr 1000000 :=
  ⟨fun id' => Bool.rec (fun kx kn => kx) (fun kx kn => kn) (Nat.beq id' 4) (kx id') kn, rfl, by unfold cBlock cLoop; rfl⟩
section
variable (f160 : Gn 1) (K : Fn 19) (kx : Nat → Fn 19) (kr : Fn 19) (v0 v1 v2 v3 v4 v5 v6 v7 v8 v9 v10 v11 v12 v13 v14 v15 v16 v17 v18 a b d q1 q2 q3 x y z m l n' r o c g k0 lf w0 w2 w6 w7 w8 w9 w10 w11 w12 w13 w14 w15 w16 w17 : V) (S S1 S2 S3 : St)
theorem bi_end (h1 : ∀ c, pLss v12 v13 c = c (.b false)) : BI108 K kx kr v0 v1 v2 v3 v4 v5 v6 v7 v8 v9 v10 v11 v12 v13 v14 v15 v16 v17 v18 S = kx 4 v0 v1 v2 v3 v4 v5 v6 v7 v8 v9 v10 v11 v12 v13 (.b false) v15 v16 v17 v18 S := by
  simp only [BI108, cSeq, cReg, cCond, cBlock, cSkip, cExit, cRet, h1, ifF]
theorem bi_go (h1 : ∀ c, pLss v12 v13 c = c (.b true)) (h2 : ∀ c, pIdx 1 v15 v12 c = c q1) (h3 : ∀ c, pLd q1 S c = c x) (h4 : ∀ c, pAdd v9 v12 c = c a) (h5 : ∀ c, pIdx 1 v11 a c = c q2) (h6 : ∀ c, pLd q2 S c = c y) (h7 : ∀ c, pIdx 1 v8 v9 c = c q3) (h8 : ∀ c, pLd q3 S c = c d)
    (h9 : ∀ c, pMul d x c = c m) (h10 : ∀ c, pSub y m c = c z) (h11 : ∀ c, pSt 1 q2 z S c = c S1) (h12 : ∀ c, pAdd v12 (nn 1) c = c n') : BI108 K kx kr v0 v1 v2 v3 v4 v5 v6 v7 v8 v9 v10 v11 v12 v13 v14 v15 v16 v17 v18 S = K v0 v1 v2 v3 v4 v5 v6 v7 v8 v9 v10 v11 n' v13 (.b true) v15 v12 x v18 S1 := by
  simp only [BI108, cSeq, cReg, cCond, cBlock, cSkip, cExit, cRet, h1, h2, h3, h4, h5, h6, h7, h8, h9, h10, h11, h12, ifT]
theorem bm_end (Ip : CS 19) (h1 : ∀ c, pGeq v9 (nn 0) c = c (.b false)) : BM108 Ip K kx kr v0 v1 v2 v3 v4 v5 v6 v7 v8 v9 v10 v11 v12 v13 v14 v15 v16 v17 v18 S = kx 2 v0 v1 v2 v3 v4 v5 v6 v7 v8 v9 (.b false) v11 v12 v13 v14 v15 v16 v17 v18 S := by
  simp only [BM108, cSeq, cReg, cCond, cBlock, cSkip, cExit, cRet, h1, ifF]
theorem bm_go (Ip : CS 19) (h1 : ∀ c, pGeq v9 (nn 0) c = c (.b true)) (h2 : ∀ c, pAdd v9 v7 c = c a) (h3 : ∀ c, pIdx 1 v11 a c = c q1) (h4 : ∀ c, pLd q1 S c = c x) (h5 : ∀ c, pIdx 1 v8 v9 c = c q2) (h6 : ∀ c, pSt 1 q2 x S c = c S1) (h7 : ∀ c, pLen v6 c = c l)
    (hI : ∀ (kn : Fn 19) (kx : Nat → Fn 19) (kr : Fn 19), Ip kn kx kr v0 v1 v2 v3 v4 v5 v6 v7 v8 v9 (.b true) v11 (nn 0) l v14 v6 v16 v17 v18 S1 = kn v0 v1 v2 v3 v4 v5 v6 v7 v8 v9 (.b true) v11 w12 l (.b false) v6 w16 w17 v18 S2) (h8 : ∀ c, pSub v9 (nn 1) c = c n') :
    BM108 Ip K kx kr v0 v1 v2 v3 v4 v5 v6 v7 v8 v9 v10 v11 v12 v13 v14 v15 v16 v17 v18 S = K v0 v1 v2 v3 v4 v5 v6 v7 v8 n' (.b true) v11 w12 l (.b false) v6 w16 w17 v18 S2 := by
  simp only [BM108, cSeq, cReg, cCond, cBlock, cSkip, cExit, cRet, h1, h2, h3, h4, h5, h6, h7, hI, h8, ifT]
theorem bo_end (Mp : CS 19) (h1 : ∀ c, pLss v2 v3 c = c (.b false)) : BO108 f160 Mp K kx kr v0 v1 v2 v3 v4 v5 v6 v7 v8 v9 v10 v11 v12 v13 v14 v15 v16 v17 v18 S = kx 0 v0 v1 v2 v3 (.b false) v5 v6 v7 v8 v9 v10 v11 v12 v13 v14 v15 v16 v17 v18 S := by
  simp only [BO108, cSeq, cReg, cCond, cBlock, cSkip, cExit, cRet, h1, ifF]
theorem bo_go (Mp : CS 19) (h1 : ∀ c, pLss v2 v3 c = c (.b true)) (h2 : ∀ c, pIdx 1 v5 v2 c = c q1) (h3 : ∀ c, pLd q1 S c = c g) (h4 : ∀ c, f160 v0 S c = c r S1) (h5 : ∀ c, pLen g c = c l) (h6 : ∀ c, pSub l (nn 1) c = c a) (h7 : ∀ c, pLen v0 c = c lf) (h8 : ∀ c, pSub lf a c = c m)
    (h9 : ∀ c : Cont, pMks [.i .i64 0] m m S1 c = c o S2) (h10 : ∀ c, pLen o c = c b) (h11 : ∀ c, pSub b (nn 1) c = c k0)
    (hM : ∀ (kn : Fn 19) (kx : Nat → Fn 19) (kr : Fn 19), Mp kn kx kr v0 v1 v2 v3 (.b true) v5 g a o k0 v10 r v12 v13 v14 v15 v16 v17 v18 S2 = kn v0 v1 v2 v3 (.b true) v5 g a o w9 (.b false) r w12 w13 w14 w15 w16 w17 v18 S3) (h12 : ∀ c, pAdd v2 (nn 1) c = c n') :
    BO108 f160 Mp K kx kr v0 v1 v2 v3 v4 v5 v6 v7 v8 v9 v10 v11 v12 v13 v14 v15 v16 v17 v18 S = K o v1 n' v3 (.b true) v5 g a o w9 (.b false) r w12 w13 w14 w15 w16 w17 v18 S3 := by
  simp only [BO108, cSeq, cReg, cCond, cBlock, cSkip, cExit, cRet, h1, h2, h3, h4, h5, h6, h7, h8, h9, h10, h11, hM, h12, ifT]
theorem h108 (Lp : CS 19) (h1 : ∀ c, pLen v1 c = c a)
    (hL : ∀ (kn : Fn 19) (kx : Nat → Fn 19) (kr : Fn 19), Lp kn kx kr v0 v1 (nn 0) a v4 v1 v6 v7 v8 v9 v10 v11 v12 v13 v14 v15 v16 v17 .sn S = kn w0 v1 w2 a (.b false) v1 w6 w7 w8 w9 w10 w11 w12 w13 w14 w15 w16 w17 .sn S1) :
    HT108 Lp K kx kr v0 v1 v2 v3 v4 v5 v6 v7 v8 v9 v10 v11 v12 v13 v14 v15 v16 v17 v18 S = kr w0 v1 w2 a (.b false) v1 w6 w7 w8 w9 w10 w11 w12 w13 w14 w15 w16 w17 w0 S1 := by
  simp only [HT108, cSeq, cReg, cCond, cBlock, cSkip, cExit, cRet, h1, hL]
theorem cl_go (k : Cont) (h1 : ∀ c, pNilL true v0 c = c (.b false)) (h2 : ∀ c : Cont, pApp 1 (.sl S.nx 0 0 0) v0 (S.new []) c = c r S1) : G160 C160 v0 S k = k r S1 := by
  simp only [G160, C160, cSeq, cReg, cCond, cBlock, cSkip, cExit, cRet, h1, bsl0_eq, h2, ifF]
end
/- memory -/
theorem Has.run_set {id : Pos} {L : List Nat} (h : Has S id L) (r : Run S0 S) {i : Nat} (hi : i < L.length) (x : Nat) : ∃ S', Run S0 S' ∧ Has S' id (L.set i x) ∧ (∀ b B, b ≠ id → Has S b B → Has S' b B) ∧ ∀ c : St → R, pSt 1 (.p id i) (nn x) S c = c S' := by
  obtain ⟨n, h1, h2, h3⟩ := h
  have hid : S0.cnt ≤ id.num := by
    have := r.fl
    rcases (r.ok.blk _ _ h1).2 with e | ⟨e, _⟩
    · have e : n = id.num := e
      omega
    · exact absurd e h3
  refine ⟨S.upd id ⟨n, (L.map nn).set i (nn x)⟩, ⟨r.ok.upd h1 (.inl ⟨rfl, h3⟩), r.fl, r.cnt, r.pos, fun q hq => ?_⟩, ⟨n, by rw [St.upd_get, List.map_set], h2, h3⟩, fun b B hb ⟨m, g1, g2⟩ => ⟨m, by rw [St.upd_get_ne _ hb]; exact g1, g2⟩, fun c => pStn_eq h1 h2 (fun k => cellsK_i _ _ k) (by rw [List.length_map]; exact hi) c⟩
  rw [St.upd_get_ne _ (fun e => by rw [e] at hq; omega)]; exact r.old q hq
theorem Has.run_new (r : Run S0 S) (L : List Nat) : Has (S.new (L.map nn)) S.nx L := Has.new r.ok L
theorem mul_w (a b : Nat) (c : V → R) : pMul (nn a) (nn b) c = c (nn (a * b % MM)) := pMul_i .i64 a b c
theorem sub_w (a b : Nat) (c : V → R) : pSub (nn a) (nn b) c = c (nn ((a + (MM - b)) % MM)) := pSub_i .i64 a b c
theorem d_in (ok0 : SOK S0) {vg : V} {g Qo : List Nat} {k m q : Nat} {ir io : Pos} (hg : Row S0 vg g) (lg : g.length ≤ 100000) (hne : io ≠ ir) (hm : m ≤ 200000) (hkg : k + g.length ≤ m) (hkq : k < Qo.length) (lq : Qo.length = q) (hq : q ≤ 200000) :
    ∀ (N i : Nat) (S : St) (L : List Nat) (v14 v16 v17 : V), i ≤ g.length → g.length < N + i → L.length = m → Run S0 S → Has S ir L → Has S io Qo →
    ∃ S' w16 w17, Run S0 S' ∧ Has S' ir (subS MM (Qo.getD k 0) (g.drop i) (k + i) L) ∧ Has S' io Qo ∧ ∀ (kx : Nat → Fn 19) (kr : Fn 19) (v0 v1 v2 v3 v4 v5 v6 v7 v10 v18 : V), loopN BI108 kx kr N v0 v1 v2 v3 v4 v5 v6 v7 (.sl io 0 q q) (nn k) v10 (.so ir 0 m m 1) (nn i) (nn g.length) v14 vg v16 v17 v18 S = kx 4 v0 v1 v2 v3 v4 v5 v6 v7 (.sl io 0 q q) (nn k) v10 (.so ir 0 m m 1) (nn g.length) (nn g.length) (.b false) vg w16 w17 v18 S'
  | 0, i, S, L, v14, v16, v17, h1, h2, hL, r, hr, ho => by omega
  | N + 1, i, S, L, v14, v16, v17, h1, h2, hL, r, hr, ho => by
    by_cases hi : i < g.length
    · have hgi := getD_of hi
      have hLi := getD_of (l := L) (i := k + i) (by omega)
      obtain ⟨q1, s1, s2⟩ := (hg.old ok0 r.old).get hgi (by omega)
      obtain ⟨S1, r1, t1, t2, t3⟩ := hr.run_set r (i := k + i) (by omega) (subM MM (L.getD (k + i) 0) (Qo.getD k 0 * g.getD i 0))
      obtain ⟨S', w16, w17, r2, u1, u2, u3⟩ := d_in ok0 hg lg hne hm hkg hkq lq hq N (i + 1) S1 (L.set (k + i) (subM MM (L.getD (k + i) 0) (Qo.getD k 0 * g.getD i 0))) (.b true) (nn i) (nn (g.getD i 0)) (by omega) (by omega) (by simpa using hL) r1 t1 (t2 _ _ hne ho)
      refine ⟨S', w16, w17, r2, ?_, u2, fun kx kr v0 v1 v2 v3 v4 v5 v6 v7 v10 v18 => ?_⟩
      · rw [W.drop_cons hi]; exact u1
      · rw [loopN_succ, bi_go (h1 := fun c => by rw [lss_n (by omega) (by omega), decide_eq_true hi]) (h2 := s1) (h3 := s2) (h4 := fun c => add_n (by omega) c) (h5 := fun c => Has.idxo ir (by omega) (by omega) c) (h6 := fun c => hr.get hLi c) (h7 := fun c => Has.idx io (by omega) (by omega) c) (h8 := fun c => ho.get (getD_of hkq) c)
          (h9 := fun c => mul_w _ _ c) (h10 := fun c => sub_w _ _ c) (h11 := t3) (h12 := fun c => add_n (by omega) c)]
        exact u3 kx kr v0 v1 v2 v3 v4 v5 v6 v7 v10 v18
    · have : i = g.length := by omega
      subst this
      refine ⟨S, v16, v17, r, by rw [List.drop_length]; exact hr, ho, fun kx kr v0 v1 v2 v3 v4 v5 v6 v7 v10 v18 => ?_⟩
      rw [loopN_succ, bi_end (h1 := fun c => by rw [lss_n (by omega) (by omega), decide_eq_false (by omega)])]
def vk : Nat → V
  | 0 => nn (M64 - 1)
  | j + 1 => nn j
theorem d_mid (ok0 : SOK S0) {vg : V} {g : List Nat} {m q : Nat} {ir io : Pos} (hg : Row S0 vg g) (lg : g.length ≤ 100000) (ng : 0 < g.length) (hne : io ≠ ir) (hm : m ≤ 200000) (hq : q ≤ 200000) :
    ∀ (N j : Nat) (S : St) (L Q : List Nat) (v10 v12 v13 v14 v15 v16 v17 : V), j < N → j ≤ q → j + g.length ≤ m + 1 → L.length = m → Q.length = q → Run S0 S → Has S ir L → Has S io Q →
    ∃ S' w12 w13 w14 w15 w16 w17, Run S0 S' ∧ Has S' io (divS g j L Q).2 ∧ ∀ (kx : Nat → Fn 19) (kr : Fn 19) (v0 v1 v2 v3 v4 v5 v18 : V), loopN (BM108 (cBlock 4 (cLoop BI108))) kx kr N v0 v1 v2 v3 v4 v5 vg (nn (g.length - 1)) (.sl io 0 q q) (vk j) v10 (.so ir 0 m m 1) v12 v13 v14 v15 v16 v17 v18 S = kx 2 v0 v1 v2 v3 v4 v5 vg (nn (g.length - 1)) (.sl io 0 q q) (nn (M64 - 1)) (.b false) (.so ir 0 m m 1) w12 w13 w14 w15 w16 w17 v18 S'
  | 0, j, S, L, Q, v10, v12, v13, v14, v15, v16, v17, h1, h2, h3, hL, hQ, r, hr, ho => by omega
  | N + 1, 0, S, L, Q, v10, v12, v13, v14, v15, v16, v17, h1, h2, h3, hL, hQ, r, hr, ho => by
    refine ⟨S, v12, v13, v14, v15, v16, v17, r, ho, fun kx kr v0 v1 v2 v3 v4 v5 v18 => ?_⟩
    have e : vk 0 = nn (M64 - 1) := rfl
    rw [loopN_succ, e, bm_end (v9 := nn (M64 - 1)) (h1 := fun c => geq_neg (d := 1) (by omega) (by omega) c)]
  | N + 1, j + 1, S, L, Q, v10, v12, v13, v14, v15, v16, v17, h1, h2, h3, hL, hQ, r, hr, ho => by
    have hLi := getD_of (l := L) (i := j + g.length - 1) (by omega)
    obtain ⟨S1, r1, t1, t2, t3⟩ := ho.run_set r (i := j) (by omega) (L.getD (j + g.length - 1) 0)
    have hc : (Q.set j (L.getD (j + g.length - 1) 0)).getD j 0 = L.getD (j + g.length - 1) 0 := by rw [W.getD_set, if_pos ⟨rfl, by omega⟩]
    obtain ⟨S2, w16, w17, r2, u1, u2, u3⟩ := d_in ok0 (k := j) (m := m) (q := q) hg lg hne hm (by omega) (by rw [List.length_set]; omega) (by rw [List.length_set]; exact hQ) hq 1000000 0 S1 L v14 v16 v17 (by omega) (by omega) hL r1 (t2 _ _ hne.symm hr) t1
    rw [hc] at u1
    have u1 : Has S2 ir (subS MM (L.getD (j + g.length - 1) 0) g j L) := u1
    obtain ⟨S', x12, x13, x14, x15, x16, x17, r3, y1, y2⟩ := d_mid ok0 hg lg ng hne hm hq N j S2 _ _ (.b true) (nn g.length) (nn g.length) (.b false) vg w16 w17 (by omega) (by omega) (by omega) (by rw [W.subS_len]; exact hL) (by rw [List.length_set]; exact hQ) r2 u1 u2
    refine ⟨S', x12, x13, x14, x15, x16, x17, r3, y1, fun kx kr v0 v1 v2 v3 v4 v5 v18 => ?_⟩
    rw [loopN_succ]
    have e8 : ∀ c, pSub (nn j) (nn 1) c = c (vk j) := fun c => by
      cases j with
      | zero => exact sub_neg (by omega) (by omega) c
      | succ j => exact sub_n (by omega) (by omega) c
    show BM108 _ _ _ _ _ _ _ _ _ _ _ _ _ (nn j) _ _ _ _ _ _ _ _ _ _ = _
    rw [bm_go (h1 := fun c => by rw [geq_n (by omega) (by omega), decide_eq_true (by omega)]) (h2 := fun c => by rw [add_n (by omega)]) (h3 := fun c => Has.idxo ir (by omega) (by omega) c) (h4 := fun c => hr.get (show L[j + (g.length - 1)]? = some (L.getD (j + g.length - 1) 0) by rw [show j + (g.length - 1) = j + g.length - 1 by omega]; exact hLi) c) (h5 := fun c => Has.idx io (by omega) (by omega) c) (h6 := t3) (h7 := fun c => hg.len (by omega) c) (hI := fun kn kx kr => by
        obtain ⟨kx', e1, e2⟩ := block_loop4 BI108 kn kx kr
        rw [e2]
        refine (u3 kx' kr _ _ _ _ _ _ _ _ _ _).trans ?_
        rw [e1]) (h8 := e8)]
    exact y2 kx kr v0 v1 v2 v3 v4 v5 v18
/-- a row that is there, and no nil -/
def Cur (S : St) (v : V) (f : List Nat) : Prop := Row S v f ∧ (∀ c, pNilL true v c = c (.b false))
theorem copy1 (r : Run S0 S) {v : V} {f : List Nat} (h : Row S v f) (nf : 0 < f.length) (lf : f.length ≤ 200000) : ∀ c : Cont, pApp 1 (.sl S.nx 0 0 0) v (S.new []) c = c (.so (S.new []).nx 0 f.length f.length 1) ((S.new []).new (f.map nn)) := fun c => by
  have sl : ∀ (id2 : Pos) (off : Nat) (b : Blk) (t : List V), S.h.get id2 = some b → b.cs.drop off = f.map nn ++ t → gu (Nat.ble f.length 1073741824) (Nat.rec (motive := fun _ => Unit → R) (fun _ => c (.sl S.nx 0 0 0) (S.new [])) (fun _ _ _ => elems 1 id2 off f.length (S.new []) (fun new => app1 1 f.length new (.sl S.nx 0 0 0) (S.new []) c)) f.length ()) = c (.so (S.new []).nx 0 f.length f.length 1) ((S.new []).new (f.map nn)) := fun id2 off b t h2 h3 => by
    rw [Nat.ble_eq_true_of_le (by omega), gu_true]
    have h4 : (S.new []).h.get id2 = some b := by rw [St.new_get_ne _ (r.ok.ne_nx h2)]; exact h2
    have ho : off + f.length * 1 ≤ b.cs.length := by
      have h5 := congrArg List.length h3
      rw [List.length_drop, List.length_append, List.length_map] at h5
      omega
    obtain ⟨n, hn⟩ : ∃ n, f.length = n + 1 := ⟨f.length - 1, by omega⟩
    have e : ∀ X Y : Unit → R, Nat.rec (motive := fun _ => Unit → R) X (fun _ _ => Y) f.length () = Y () := fun X Y => by rw [hn]
    show Nat.rec (motive := fun _ => Unit → R) _ (fun _ _ => fun _ => elems 1 id2 off f.length (S.new []) (fun new => app1 1 f.length new (.sl S.nx 0 0 0) (S.new []) c)) f.length () = _
    rw [e, elems_eq h4 ho]
    have e3 : (b.cs.drop off).take (f.length * 1) = f.map nn := by rw [h3, Nat.mul_one, List.take_left' (by simp)]
    rw [e3]
    show Bool.rec (motive := fun _ => Unit → R) _ _ (Nat.ble (0 + f.length) 0) () = _
    have e2 : Nat.ble (0 + f.length) 0 = false := by rw [ble_eq]; exact decide_eq_false (by omega)
    rw [e2]
    show elems 1 S.nx 0 0 (S.new []) (fun old => appK old (f.map nn) (fun cs => newK cs (S.new []) (fun nx S' => fN (Nat.add 0 f.length) (fun l => gu (Nat.ble l 1073741824) (c (.so nx 0 l l 1) S'))))) = _
    rw [elems_eq (St.new_get _ _) (by simp), appK_eq, newK_eq, fN_eq]
    show gu (Nat.ble (0 + f.length) 1073741824) (c (.so (S.new []).nx 0 (0 + f.length) (0 + f.length) 1) ((S.new []).new (f.map nn))) = _
    rw [Nat.zero_add, Nat.ble_eq_true_of_le (by omega)]; rfl
  unfold Row at h
  split at h
  · rename_i id2 off len cap
    obtain ⟨rfl, b, h2, t, h3⟩ := h
    exact sl id2 off b t h2 h3
  · rename_i id2 off len cap sz
    obtain ⟨rfl, rfl, b, h2, t, h3⟩ := h
    exact sl id2 off b t h2 h3
  · subst h; simp at nf
  · exact h.elim
theorem len_sl (id : Pos) {n : Nat} (h : n ≤ 1073741824) (c : V → R) : pLen (.sl id 0 n n) c = c (nn n) := by
  show gu (Nat.ble n 1073741824) (retI c .i64 n) = _
  rw [Nat.ble_eq_true_of_le h, gu_true, retI_eq]
def divAll : List (List Nat) → List Nat → List Nat
  | [], f => f
  | g :: gs, f => divAll gs (quo g f)
def okD : List (List Nat) → Nat → Prop
  | [], n => True
  | g :: gs, n => 0 < g.length ∧ g.length ≤ n ∧ okD gs (n - (g.length - 1))
/-- the result: a block of one's own, or the argument if nothing is divided -/
def Fin (S : St) (v : V) (f : List Nat) : Prop := ∃ id, v = .sl id 0 f.length f.length ∧ Has S id f
theorem Fin.cur {v : V} {f : List Nat} (h : Fin S v f) (nf : 0 < f.length) : Cur S v f := by
  obtain ⟨id, rfl, h⟩ := h
  refine ⟨?_, fun c => rfl⟩
  have := Has.row (L := f) (t := []) (by rw [List.append_nil]; exact h) f.length
  exact this
theorem d_out (ok0 : SOK S0) {vb v1 : V} {total : Nat} (ht : total ≤ 100000) :
    ∀ (rest : List (List Nat)) (t N : Nat) (S : St) (f : List Nat) (v0 v4 v6 v7 v8 v9 v10 v11 v12 v13 v14 v15 v16 v17 : V), rest.length < N → t + rest.length = total →
    (∀ i (h : i < rest.length), ∃ q vg, (∀ c, pIdx 1 vb (nn (t + i)) c = c q) ∧ (∀ S, Run S0 S → ∀ c, pLd q S c = c vg) ∧ Row S0 vg rest[i]) →
    okD rest f.length → 0 < f.length → f.length ≤ 100000 → Run S0 S → Cur S v0 f →
    ∃ S' w0 w6 w7 w8 w9 w10 w11 w12 w13 w14 w15 w16 w17, Run S0 S' ∧ (rest = [] ∧ w0 = v0 ∧ S' = S ∨ Fin S' w0 (divAll rest f)) ∧
      ∀ (kx : Nat → Fn 19) (kr : Fn 19) (v18 : V), loopN (BO108 F160 (cBlock 2 (cLoop (BM108 (cBlock 4 (cLoop BI108)))))) kx kr N v0 v1 (nn t) (nn total) v4 vb v6 v7 v8 v9 v10 v11 v12 v13 v14 v15 v16 v17 v18 S = kx 0 w0 v1 (nn total) (nn total) (.b false) vb w6 w7 w8 w9 w10 w11 w12 w13 w14 w15 w16 w17 v18 S'
  | [], t, 0, S, f, v0, v4, v6, v7, v8, v9, v10, v11, v12, v13, v14, v15, v16, v17, h1, h2, hb, hk, nf, lf, r, hc => by simp at h1
  | _ :: _, t, 0, S, f, v0, v4, v6, v7, v8, v9, v10, v11, v12, v13, v14, v15, v16, v17, h1, h2, hb, hk, nf, lf, r, hc => by simp at h1
  | [], t, N + 1, S, f, v0, v4, v6, v7, v8, v9, v10, v11, v12, v13, v14, v15, v16, v17, h1, h2, hb, hk, nf, lf, r, hc => by
    have h2 : t = total := h2
    subst h2
    refine ⟨S, v0, v6, v7, v8, v9, v10, v11, v12, v13, v14, v15, v16, v17, r, .inl ⟨rfl, rfl, rfl⟩, fun kx kr v18 => ?_⟩
    rw [loopN_succ, bo_end (h1 := fun c => by rw [lss_n (by omega) (by omega), decide_eq_false (by omega)])]
  | g :: rest, t, N + 1, S, f, v0, v4, v6, v7, v8, v9, v10, v11, v12, v13, v14, v15, v16, v17, h1, h2, hb, hk, nf, lf, r, hc => by
    obtain ⟨ng, hgf, hk⟩ := hk
    have h2 : t + (rest.length + 1) = total := h2
    obtain ⟨q1, vg, s1, s2, hg⟩ := hb 0 (by simp)
    have hg : Row S0 vg g := hg
    have s1 : ∀ c, pIdx 1 vb (nn t) c = c q1 := s1
    have r1 := (r.new []).new (f.map nn)
    have hr1 : Has ((S.new []).new (f.map nn)) (S.new []).nx f := Has.run_new (r.new []) f
    have r2 := r1.new ((List.replicate (f.length - (g.length - 1)) 0).map nn)
    have ho2 : Has (((S.new []).new (f.map nn)).new ((List.replicate (f.length - (g.length - 1)) 0).map nn)) ((S.new []).new (f.map nn)).nx (List.replicate (f.length - (g.length - 1)) 0) := Has.run_new r1 _
    have hr2 := hr1.keep_new r1.ok ((List.replicate (f.length - (g.length - 1)) 0).map nn)
    have hne : ((S.new []).new (f.map nn)).nx ≠ (S.new []).nx := by
      obtain ⟨n, h1, _⟩ := hr1
      exact fun e => r1.ok.ne_nx h1 e.symm
    obtain ⟨S3, w12, w13, w14, w15, w16, w17, r3, u1, u2⟩ := d_mid ok0 (m := f.length) (q := f.length - (g.length - 1)) hg (by omega) ng hne (by omega) (by omega) 1000000 (f.length - (g.length - 1)) _ f _ v10 v12 v13 v14 v15 v16 v17 (by omega) (by omega) (by omega) rfl (by simp) r2 hr2 ho2
    have hql := quo_len g f
    have hF : Fin S3 (.sl ((S.new []).new (f.map nn)).nx 0 (f.length - (g.length - 1)) (f.length - (g.length - 1))) (quo g f) := ⟨_, by rw [hql], u1⟩
    have nq : 0 < (quo g f).length := by omega
    obtain ⟨S', x0, x6, x7, x8, x9, x10, x11, x12, x13, x14, x15, x16, x17, r4, y1, y2⟩ := d_out (v1 := v1) ok0 ht rest (t + 1) N S3 (quo g f) _ (.b true) vg (nn (g.length - 1)) (.sl ((S.new []).new (f.map nn)).nx 0 (f.length - (g.length - 1)) (f.length - (g.length - 1))) (nn (M64 - 1)) (.b false) (.so (S.new []).nx 0 f.length f.length 1) w12 w13 w14 w15 w16 w17 (by simpa using h1) (by omega)
      (fun i hi => by
        have := hb (i + 1) (by simpa using hi)
        rw [show t + (i + 1) = t + 1 + i by omega] at this
        exact this) (by rw [hql]; exact hk) nq (by omega) r3 (hF.cur nq)
    refine ⟨S', x0, x6, x7, x8, x9, x10, x11, x12, x13, x14, x15, x16, x17, r4, .inr ?_, fun kx kr v18 => ?_⟩
    · rcases y1 with ⟨e, e2, e3⟩ | y1
      · subst e
        rw [e2, e3]; exact hF
      · exact y1
    · have hm1 : (List.replicate (f.length - (g.length - 1)) 0).length = f.length - (g.length - 1) := by simp
      have hv : vk (f.length - (g.length - 1)) = nn (f.length - (g.length - 1) - 1) := by
        obtain ⟨j, hj⟩ : ∃ j, f.length - (g.length - 1) = j + 1 := ⟨f.length - (g.length - 1) - 1, by omega⟩
        rw [hj]; rfl
      rw [hv] at u2
      have hcl : ∀ k, F160 v0 S k = k (.so (S.new []).nx 0 f.length f.length 1) ((S.new []).new (f.map nn)) := fun k => by
        unfold F160
        exact cl_go (S1 := (S.new []).new (f.map nn)) (r := .so (S.new []).nx 0 f.length f.length 1) (k := k) (h1 := hc.2) (h2 := copy1 r hc.1 nf (by omega)) ..
      rw [loopN_succ, bo_go (h1 := fun c => by rw [lss_n (by omega) (by omega), decide_eq_true (by omega)]) (h2 := s1) (h3 := fun c => s2 S r c) (h4 := hcl)
        (h5 := fun c => hg.len (by omega) c) (h6 := fun c => sub_n (by omega) (by omega) c) (h7 := fun c => hc.1.len (by omega) c) (h8 := fun c => sub_n (by omega) (by omega) c) (h9 := fun c => pMks_eq (by omega) _ c)
        (h10 := fun c => len_sl _ (by omega) c) (h11 := fun c => sub_n (by omega) (by omega) c) (hM := fun kn kx kr => by
          obtain ⟨kx', e1, e2⟩ := block_loop2 (BM108 (cBlock 4 (cLoop BI108))) kn kx kr
          rw [e2]
          exact (u2 kx' kr _ _ _ _ _ _ _).trans (by rw [e1])) (h12 := fun c => add_n (by omega) c)]
      exact y2 kx kr v18
end
end Go.AM

/- The text of cyclotomic.divide over packed numbers. -/
namespace Go.AM
open Go.Proofs
open Go.AM.Q
open Go.AM.W (MM WB Lt subM subS divS divS_len quo quo_len quo_lt quo_pk divP)
set_option linter.unusedVariables false
set_option linter.unusedSimpArgs false
noncomputable section
variable {S0 S : St} {out : V × St} {P : Program}
def pwK (cs : List V) : Nat → Nat → Nat → (Nat → R) → R :=
  List.rec (motive := fun _ => Nat → Nat → Nat → (Nat → R) → R) (fun n _ acc k => gu (Nat.beq n 0) (k acc))
    (fun v cs' ih n w acc k => Nat.rec (motive := fun _ => R) (gu (flatL (v :: cs')) (k acc)) (fun n' _ => vI v (fun kd x => gu (Bool.and (Nat.beq (kNo kd) 3) (Nat.blt x MM)) (fN (Nat.mul w WB) (fun w' => fN (Nat.add acc (Nat.mul w x)) (fun a' => ih n' w' a' k))))) n) cs
theorem pwK_some : ∀ (cs : List V) (n w acc : Nat) (k : Nat → R), pwK cs n w acc k = some out → ∃ l t, cs = l.map nn ++ t ∧ l.length = n ∧ Lt l ∧ flatL cs = true ∧ k (acc + w * W.pk l) = some out
  | [], n, w, acc, k, h => by
    obtain ⟨h1, h2⟩ := gu_some (show gu (Nat.beq n 0) (k acc) = some out from h)
    have := Nat.eq_of_beq_eq_true h1
    subst this
    exact ⟨[], [], rfl, rfl, (fun x hx => by cases hx), rfl, by simpa [W.pk] using h2⟩
  | v :: cs, 0, w, acc, k, h => by
    obtain ⟨h1, h2⟩ := gu_some (show gu (flatL (v :: cs)) (k acc) = some out from h)
    exact ⟨[], v :: cs, rfl, rfl, (fun x hx => by cases hx), h1, by simpa [W.pk] using h2⟩
  | v :: cs, n + 1, w, acc, k, h => by
    obtain ⟨kd, x, rfl, h1⟩ := vI_some (show vI v (fun kd x => gu (Bool.and (Nat.beq (kNo kd) 3) (Nat.blt x MM)) (fN (Nat.mul w WB) (fun w' => fN (Nat.add acc (Nat.mul w x)) (fun a' => pwK cs n w' a' k)))) = some out from h)
    obtain ⟨h2, h3⟩ := gu_some h1
    rw [fN_eq, fN_eq] at h3
    simp only [Bool.and_eq_true] at h2
    have hk := Q.kNo_i64 h2.1
    subst hk
    obtain ⟨l, t, e1, e2, e3, e4, e5⟩ := pwK_some cs n _ _ k h3
    refine ⟨x :: l, t, by rw [e1]; rfl, by rw [List.length_cons, e2], fun y hy => ?_, by rw [show flatL (V.i .i64 x :: cs) = flatL cs from rfl]; exact e4, ?_⟩
    · rcases List.mem_cons.1 hy with rfl | hy
      · exact lt_of_blt h2.2
      · exact e3 y hy
    · rw [← e5]; congr 1
      show acc + w * (x + WB * W.pk l) = acc + w * x + w * WB * W.pk l
      rw [Nat.mul_add, ← Nat.mul_assoc, Nat.add_assoc]
/-- a slice of machine numbers: how many, and packed -/
def rdM (v : V) (S : St) (k : Nat → Nat → R) : R := vS4 v none
  (fun id off len cap => gu (Nat.beq off 0) (cellsAt id S (fun cs => pwK cs len 1 0 (fun F => k len F))))
  (fun id off len cap sz => gu (Bool.and (Nat.beq off 0) (Nat.beq sz 1)) (cellsAt id S (fun cs => pwK cs len 1 0 (fun F => k len F))))
theorem rdM_some {v : V} {S : St} {k : Nat → Nat → R} (h : rdM v S k = some out) : ∃ l, Row S v l ∧ Lt l ∧ (∀ p : Pos → Bool, (∀ id, pfq S id = true → p id = true) → okV p v = true) ∧ (∀ c, pNilL true v c = c (.b false)) ∧ k l.length (W.pk l) = some out := by
  have sl : ∀ (id : Pos) (len : Nat), cellsAt id S (fun cs => pwK cs len 1 0 (fun F => k len F)) = some out → ∃ l b t, S.h.get id = some b ∧ b.cs = l.map nn ++ t ∧ l.length = len ∧ Lt l ∧ pfq S id = true ∧ k l.length (W.pk l) = some out := fun id len h => by
    obtain ⟨b, h1, h2⟩ := cellsAt_some h
    obtain ⟨l, t, e1, e2, e3, e4, e5⟩ := pwK_some _ _ _ _ _ h2
    rw [Nat.zero_add, Nat.one_mul] at e5
    refine ⟨l, b, t, h1, e1, e2, e3, ?_, by rw [e2]; exact e5⟩
    unfold pfq; rw [h1]; exact e4
  cases v <;> try (exact Q.no (show (none : R) = some out from h))
  · rename_i id off len cap
    obtain ⟨h1, h2⟩ := gu_some (show gu (Nat.beq off 0) (cellsAt id S (fun cs => pwK cs len 1 0 (fun F => k len F))) = some out from h)
    have := Nat.eq_of_beq_eq_true h1
    subst this
    obtain ⟨l, b, t, e1, e2, e3, e4, e5, e6⟩ := sl id len h2
    exact ⟨l, ⟨e3.symm, b, e1, t, by rw [List.drop_zero, e2]⟩, e4, fun p hp => hp id e5, fun c => rfl, e6⟩
  · rename_i id off len cap sz
    obtain ⟨h1, h2⟩ := gu_some (show gu (Bool.and (Nat.beq off 0) (Nat.beq sz 1)) (cellsAt id S (fun cs => pwK cs len 1 0 (fun F => k len F))) = some out from h)
    simp only [Bool.and_eq_true] at h1
    have := Nat.eq_of_beq_eq_true h1.1
    subst this
    obtain ⟨l, b, t, e1, e2, e3, e4, e5, e6⟩ := sl id len h2
    exact ⟨l, ⟨Nat.eq_of_beq_eq_true h1.2, e3.symm, b, e1, t, by rw [List.drop_zero, e2]⟩, e4, fun p hp => hp id e5, fun c => rfl, e6⟩
/-- one division, packed -/
def dvR (n G : Nat) (j : Nat) : Nat → Nat → (Nat → R) → R :=
  Nat.rec (motive := fun _ => Nat → Nat → (Nat → R) → R) (fun P q k => k q)
    (fun j ih P q k => fN (Nat.mod (Nat.mod (Nat.div P (Nat.pow WB (Nat.sub (Nat.add j n) 1))) WB) MM) (fun c => fN (Nat.add P (Nat.mul (Nat.mul (Nat.sub MM c) G) (Nat.pow WB j))) (fun P' => fN (Nat.add c (Nat.mul WB q)) (fun q' => ih P' q' k)))) j
theorem dvR_eq (n G : Nat) (k : Nat → R) : ∀ (j P : Nat) (q : List Nat), dvR n G j P (W.pk q) k = k (W.pk (divP n G j P q))
  | 0, P, q => rfl
  | j + 1, P, q => by
    show fN (P / WB ^ (j + n - 1) % WB % MM) _ = _
    rw [fN_eq, fN_eq, fN_eq]
    simp only [divP]
    rw [← dvR_eq n G k j]; rfl
/-- all divisions -/
def dvA (S : St) (vs : List V) : Nat → Nat → (Nat → Nat → R) → R :=
  List.rec (motive := fun _ => Nat → Nat → (Nat → Nat → R) → R) (fun nf P k => k nf P)
    (fun v _ ih nf P k => rdM v S (fun ng G => gu (Bool.and (Nat.blt 0 ng) (Nat.ble ng nf)) (fN (Nat.sub nf (Nat.sub ng 1)) (fun m => dvR ng G m P 0 (fun q => ih m q k))))) vs
theorem dvA_some {S : St} {k : Nat → Nat → R} : ∀ (vs : List V) (f : List Nat), Lt f → f.length ≤ 100000 → dvA S vs f.length (W.pk f) k = some out →
    ∃ gs : List (List Nat), gs.length = vs.length ∧ (∀ i (h : i < gs.length), ∃ vg, vs[i]? = some vg ∧ Row S vg gs[i]) ∧ (∀ p : Pos → Bool, (∀ id, pfq S id = true → p id = true) → okL p vs = true) ∧ okD gs f.length ∧ Lt (divAll gs f) ∧ k (divAll gs f).length (W.pk (divAll gs f)) = some out
  | [], f, hf, lf, h => ⟨[], rfl, fun i h => by simp at h, fun p _ => rfl, trivial, hf, h⟩
  | v :: vs, f, hf, lf, h => by
    obtain ⟨g, g1, g2, g3, _, h⟩ := rdM_some (show rdM v S (fun ng G => gu (Bool.and (Nat.blt 0 ng) (Nat.ble ng f.length)) (fN (Nat.sub f.length (Nat.sub ng 1)) (fun m => dvR ng G m (W.pk f) 0 (fun q => dvA S vs m q k)))) = some out from h)
    obtain ⟨h1, h⟩ := gu_some h
    simp only [Bool.and_eq_true] at h1
    have ng := lt_of_blt h1.1
    have hle := Nat.le_of_ble_eq_true h1.2
    rw [fN_eq] at h
    have h : dvR g.length (W.pk g) (f.length - (g.length - 1)) (W.pk f) (W.pk []) (fun q => dvA S vs (f.length - (g.length - 1)) q k) = some out := h
    rw [dvR_eq, ← quo_pk g2 hf ng hle lf, ← quo_len g f] at h
    obtain ⟨gs, e1, e2, e3, e4, e5, e6⟩ := dvA_some vs (quo g f) (quo_lt hf) (by rw [quo_len]; omega) h
    refine ⟨g :: gs, by rw [List.length_cons, e1, List.length_cons], fun i hi => ?_, fun p hp => ?_, ⟨ng, hle, by rw [← quo_len g f]; exact e4⟩, e5, e6⟩
    · cases i with
      | zero => exact ⟨v, rfl, g1⟩
      | succ i => exact e2 i (by simpa using hi)
    · simp only [okL, g3 p hp, e3 p hp, Bool.and_self]
def upW (Qn : Nat) (n : Nat) : List V → (List V → R) → R :=
  Nat.rec (motive := fun _ => List V → (List V → R) → R) (fun acc k => k acc) (fun i ih acc k => fN (Nat.mod (Nat.div Qn (Nat.pow WB i)) WB) (fun d => ih (nn d :: acc) k)) n
theorem upW_eq {l : List Nat} (hl : Lt l) (k : List V → R) : ∀ (n : Nat) (acc : List V), n ≤ l.length → upW (W.pk l) n acc k = k ((l.take n).map nn ++ acc)
  | 0, acc, h => rfl
  | n + 1, acc, h => by
    have hb : ∀ x ∈ l, x < WB := fun x hx => by
      have := hl x hx
      have e1 : MM = 18446744073709551616 := rfl
      have e2 : WB = 6277101735386680763835789423207666416102355444464034512896 := rfl
      omega
    show fN (W.pk l / WB ^ n % WB) (fun d => upW (W.pk l) n (nn d :: acc) k) = _
    rw [fN_eq, W.pk_dig l n hb, upW_eq hl k n _ (by omega), show l.take (n + 1) = l.take n ++ [l.getD n 0] by rw [List.take_add_one, getD_of (by omega)]; rfl, List.map_append, List.append_assoc]; rfl
def divT : Gn 2 := fun vf vb S k => rdM vf S (fun nf F => vS4 vb (F108 vf vb S k)
  (fun id off len cap => cellsAt id S (fun cs => lenL cs 0 (fun c => Bool.rec (motive := fun _ => R) (F108 vf vb S k)
    (dvA S cs nf F (fun n Qn => upW Qn n [] (fun l => newK l S (fun nx S' => k (.sl nx 0 n n) S'))))
    (Bool.and (Bool.and (Nat.beq off 0) (Nat.beq c len)) (Bool.and (Bool.and (Nat.blt 0 len) (Nat.ble len 100000)) (Bool.and (Nat.blt 0 nf) (Nat.ble nf 100000)))))))
  (fun id off len cap sz => cellsAt id S (fun cs => lenL cs 0 (fun c => Bool.rec (motive := fun _ => R) (F108 vf vb S k)
    (dvA S cs nf F (fun n Qn => upW Qn n [] (fun l => newK l S (fun nx S' => k (.sl nx 0 n n) S'))))
    (Bool.and (Bool.and (Nat.beq off 0) (Nat.beq c len)) (Bool.and (Bool.and (Nat.blt 0 len) (Nat.ble len 100000)) (Bool.and (Nat.blt 0 nf) (Nat.ble nf 100000))))))))
theorem div_run (ok0 : SOK S0) (r : Run S0 S) {vf vb : V} {f : List Nat} {gs : List (List Nat)} (hc : Cur S vf f) (nf : 0 < f.length) (lf : f.length ≤ 100000) (hgs : gs ≠ []) (lg : gs.length ≤ 100000) (hk : okD gs f.length)
    (hlen : ∀ c, pLen vb c = c (nn gs.length)) (hb : ∀ i (h : i < gs.length), ∃ q vg, (∀ c, pIdx 1 vb (nn i) c = c q) ∧ (∀ S, Run S0 S → ∀ c, pLd q S c = c vg) ∧ Row S0 vg gs[i]) :
    ∃ S' v', Run S0 S' ∧ Fin S' v' (divAll gs f) ∧ ∀ k, F108 vf vb S k = k v' S' := by
  obtain ⟨S', w0, w6, w7, w8, w9, w10, w11, w12, w13, w14, w15, w16, w17, r1, y1, y2⟩ := d_out (v1 := vb) ok0 lg gs 0 1000000 S f vf .other .other .other .other .other .other .other .other .other .other .other .other .other (by omega) (by omega) (fun i h => by rw [Nat.zero_add]; exact hb i h) hk nf lf r hc
  rcases y1 with ⟨e, _⟩ | y1
  · exact absurd e hgs
  refine ⟨S', w0, r1, y1, fun k => ?_⟩
  unfold F108 G108
  rw [C108_eq, h108 (a := nn gs.length) (w0 := w0) (w2 := nn gs.length) (w6 := w6) (w7 := w7) (w8 := w8) (w9 := w9) (w10 := w10) (w11 := w11) (w12 := w12) (w13 := w13) (w14 := w14) (w15 := w15) (w16 := w16) (w17 := w17) (S1 := S') (h1 := hlen) (hL := fun kn kx kr => ?_)]
  obtain ⟨kx', e1, e2⟩ := block_loop0 (BO108 F160 (cBlock 2 (cLoop (BM108 (cBlock 4 (cLoop BI108)))))) kn kx kr
  rw [e2]
  refine (y2 kx' kr _).trans ?_
  rw [e1]
theorem K108t : FOK Tryz.prog 108 (un 2 divT) := by
  intro vs S k out ok h
  match vs, h with
  | [], h => exact Q.no h
  | [_], h => exact Q.no h
  | _ :: _ :: _ :: _, h => exact Q.no h
  | [vf, vb], h =>
    have slow : F108 vf vb S k = some out → _ := fun h => K108 [vf, vb] S k out ok h
    obtain ⟨f, f1, f2, f3, f4, h⟩ := rdM_some (show divT vf vb S k = some out from h)
    have main : ∀ (idb : Pos) (len cap : Nat) (b : Blk), S.h.get idb = some b → b.cs.length = len → 0 < len → len ≤ 100000 → 0 < f.length → f.length ≤ 100000 → (∀ c, pLen vb c = c (nn len)) → (∀ i, i < len → ∀ c, pIdx 1 vb (nn i) c = c (.p idb i)) → (∀ p : Pos → Bool, p idb = true → okV p vb = true) →
        dvA S b.cs f.length (W.pk f) (fun n Qn => upW Qn n [] (fun l => newK l S (fun nx S' => k (.sl nx 0 n n) S'))) = some out → ∃ v' S', k v' S' = some out ∧ CallOK Tryz.prog 108 [vf, vb] S v' S' := fun idb len cap b hb hlen h0 hl nf lf hL hI hV h => by
      obtain ⟨gs, e1, e2, e3, e4, e5, e6⟩ := dvA_some b.cs f f2 lf h
      obtain ⟨S2, v1, r2, ⟨id, hv1, n, s1, s2, s3⟩, run⟩ := div_run (S := S.lock) (vf := vf) (vb := vb) (f := f) (gs := gs) ok.lock (Run.start ok) ⟨f1, f4⟩ nf lf (by intro e; rw [e] at e1; simp at e1; omega) (by omega) e4 (fun c => by rw [e1, hlen]; exact hL c) (fun i hi => by
        obtain ⟨vg, g1, g2⟩ := e2 i hi
        refine ⟨.p idb i, vg, hI i (by omega), fun S' r' c => ?_, g2⟩
        have : S'.h.get idb = some b := by rw [r'.old idb (ok.blk _ _ hb).1]; exact hb
        exact pLd_eq this g1 c)
      subst hv1
      obtain ⟨v', S', c1, c2⟩ := K108 [vf, vb] S.lock (fun v S => some (v, S)) _ ok.lock (run _)
      cases c1
      have e6 : upW (W.pk (divAll gs f)) (divAll gs f).length [] (fun l => newK l S (fun nx S' => k (.sl nx 0 (divAll gs f).length (divAll gs f).length) S')) = some out := e6
      rw [upW_eq e5 _ _ _ (Nat.le_refl _), List.take_length, List.append_nil, newK_eq] at e6
      refine ⟨_, _, e6, ?_⟩
      have hp1 : ∀ q, pfq S q = true → (pfq S q || Nat.beq q.num idb.num) = true := fun q hq => by rw [hq]; rfl
      have hpos := r2.pos
      have hfl := r2.fl
      have hnum : S.cnt ≤ id.num := by
        rcases (r2.ok.blk _ _ s1).2 with e | ⟨e, _⟩
        · have e : n = id.num := e
          rw [hfl] at s2
          have s2 : S.cnt ≤ n := s2
          omega
        · exact absurd e s3
      have flat : ∀ l : List Nat, flatL (l.map nn) = true := fun l => by
        induction l with
        | nil => rfl
        | cons x l ih => exact ih
      have := forget (p := fun q => pfq S q || Nat.beq q.num idb.num) (outs := [(id, (divAll gs f).map nn)]) (π2 := fun _ => S.nx) (p2 := fun q => Nat.beq q.num id.num) c2 ok
        (by
          have a1 := f3 (fun q => pfq S q || Nat.beq q.num idb.num) hp1
          have a2 := hV (fun q => pfq S q || Nat.beq q.num idb.num) (by show (pfq S idb || Nat.beq idb.num idb.num) = true; rw [Nat.beq_refl, Bool.or_true])
          simp only [okL, a1, a2, Bool.and_self])
        (fun q hq => by
          simp only [Bool.or_eq_true] at hq
          rcases hq with hq | hq
          · exact pfq_lt ok hq
          · rw [Nat.eq_of_beq_eq_true hq]; exact (ok.blk _ _ hb).1)
        (fun q bq hq hbq => by
          simp only [Bool.or_eq_true] at hq
          rcases hq with hq | hq
          · unfold pfq at hq; rw [hbq] at hq; exact flatL_ok _ hq
          · have : q = idb := Pos.num_inj _ _ (Nat.eq_of_beq_eq_true hq)
            subst this
            rw [hb] at hbq; cases hbq
            exact e3 _ hp1)
        (fun i j x y hi hj he => by
          have := (List.getElem?_eq_some_iff.1 hi).1
          have := (List.getElem?_eq_some_iff.1 hj).1
          simp at *; omega)
        (fun x hx => by
          rcases List.mem_singleton.1 hx with rfl
          exact ⟨hnum, _, [], s1, by simp, s3, flat _⟩)
        (fun id' hid => .inr ⟨0, _, rfl, (Pos.num_inj _ _ (Nat.eq_of_beq_eq_true hid)).symm, by rw [ok.nx]; rfl⟩)
        (by show Nat.beq id.num id.num = true; exact Nat.beq_refl _)
        (fun x hx => by
          rcases List.mem_singleton.1 hx with rfl
          exact flatL_ok _ (flat _))
      simp only [List.map_cons, List.map_nil, layS, flat_renL _ (flat _)] at this
      exact this
    cases vb <;> try (exact Q.no (show (none : R) = some out from h))
    · rename_i id off len cap hx
      obtain ⟨b, hb, h⟩ := cellsAt_some (show cellsAt id S (fun cs => lenL cs 0 (fun c => @Bool.rec (fun _ => R) (F108 vf (.sl id off len cap) S k) (dvA S cs f.length (W.pk f) (fun n Qn => upW Qn n [] (fun l => newK l S (fun nx S' => k (.sl nx 0 n n) S')))) (Bool.and (Bool.and (Nat.beq off 0) (Nat.beq c len)) (Bool.and (Bool.and (Nat.blt 0 len) (Nat.ble len 100000)) (Bool.and (Nat.blt 0 f.length) (Nat.ble f.length 100000)))))) = some out from h)
      rw [lenL_zero] at h
      cases hc : Bool.and (Bool.and (Nat.beq off 0) (Nat.beq b.cs.length len)) (Bool.and (Bool.and (Nat.blt 0 len) (Nat.ble len 100000)) (Bool.and (Nat.blt 0 f.length) (Nat.ble f.length 100000))) with
      | false => rw [hc] at h; exact slow h
      | true =>
        rw [hc] at h
        simp only [Bool.and_eq_true] at hc
        have e0 := Nat.eq_of_beq_eq_true hc.1.1
        subst e0
        have h0 := lt_of_blt hc.2.1.1
        have hl := Nat.le_of_ble_eq_true hc.2.1.2
        refine main id len cap b hb (Nat.eq_of_beq_eq_true hc.1.2) h0 hl (lt_of_blt hc.2.2.1) (Nat.le_of_ble_eq_true hc.2.2.2) (fun c => ?_) (fun i hi c => ?_) (fun p hp => hp) h
        · show gu (Nat.ble len 1073741824) (retI c .i64 len) = _
          rw [Nat.ble_eq_true_of_le (by omega), gu_true, retI_eq]
        · show gu (Bool.not (neg .i64 i)) (gu (Nat.blt i len) (fN (Nat.add 0 (Nat.mul i 1)) (fun o => c (.p id o)))) = _
          rw [neg_n (by omega), blt_eq, decide_eq_true hi, fN_eq]
          show c (.p id (0 + i * 1)) = _
          rw [Nat.mul_one, Nat.zero_add]
    · rename_i id off len cap sz hx
      obtain ⟨b, hb, h⟩ := cellsAt_some (show cellsAt id S (fun cs => lenL cs 0 (fun c => @Bool.rec (fun _ => R) (F108 vf (.so id off len cap sz) S k) (dvA S cs f.length (W.pk f) (fun n Qn => upW Qn n [] (fun l => newK l S (fun nx S' => k (.sl nx 0 n n) S')))) (Bool.and (Bool.and (Nat.beq off 0) (Nat.beq c len)) (Bool.and (Bool.and (Nat.blt 0 len) (Nat.ble len 100000)) (Bool.and (Nat.blt 0 f.length) (Nat.ble f.length 100000)))))) = some out from h)
      rw [lenL_zero] at h
      cases hc : Bool.and (Bool.and (Nat.beq off 0) (Nat.beq b.cs.length len)) (Bool.and (Bool.and (Nat.blt 0 len) (Nat.ble len 100000)) (Bool.and (Nat.blt 0 f.length) (Nat.ble f.length 100000))) with
      | false => rw [hc] at h; exact slow h
      | true =>
        rw [hc] at h
        simp only [Bool.and_eq_true] at hc
        have e0 := Nat.eq_of_beq_eq_true hc.1.1
        subst e0
        have h0 := lt_of_blt hc.2.1.1
        have hl := Nat.le_of_ble_eq_true hc.2.1.2
        refine main id len cap b hb (Nat.eq_of_beq_eq_true hc.1.2) h0 hl (lt_of_blt hc.2.2.1) (Nat.le_of_ble_eq_true hc.2.2.2) (fun c => ?_) (fun i hi c => ?_) (fun p hp => hp) h
        · show gu (Nat.ble len 1073741824) (retI c .i64 len) = _
          rw [Nat.ble_eq_true_of_le (by omega), gu_true, retI_eq]
        · show gu (Bool.not (neg .i64 i)) (gu (Nat.blt i len) (fN (Nat.add 0 (Nat.mul i 1)) (fun o => c (.p id o)))) = _
          rw [neg_n (by omega), blt_eq, decide_eq_true hi, fN_eq]
          show c (.p id (0 + i * 1)) = _
          rw [Nat.mul_one, Nat.zero_add]
    · exact slow h
end
end Go.AM
