/- What the printed sums, differences and products compute. -/
import Derived.Test.YtmknclgamadphaaS2PolymodPrimes
namespace Go.Proofs.Ytmknclgamadphaa.MPolymodPrimes
open Go.RowKit Go.Proofs.Ytmknclgamadphaa.PPolymodPrimes Go.Proofs.YtmknclgamadphaaW.PrintWords Go.Proofs.YtmknclgamadphaaW.PrintLast Go.Proofs.YtmknclgamadphaaW.PrintMore
set_option linter.unusedVariables false
set_option linter.unusedSimpArgs false

theorem set_pref {out : List Int} {i : Nat} {x : Int} {F : Nat → Int} (hi : i < out.length) (hx : x = F i) (h : ∀ j, j < i → co out j = F j) : ∀ j, j < i + 1 → co (out.set i x) j = F j := by
  intro j hj
  rw [co_set]
  by_cases e : i = j
  · rw [if_pos ⟨e, hi⟩, hx, e]
  · rw [if_neg (fun h => e h.1), h j (by omega)]
theorem fp_Sub_loop {p : Int} (hp : Mo p) {f g : List Int} (hf : Val p f) (hg : Val p g) (n : Nat) (hn : (n : Int) ≤ 1000000) : ∀ (d i : Nat) (out : List Int), i + d = n → out.length = n → (∀ j, j < i → co out j = (co f j + p - co g j) % p) →
    Ev (fun k => fp_Sub.l0 k p f g out (n : Int) (i : Int)) (ofF n fun j => (co f j + p - co g j) % p) := by
  intro d
  induction d with
  | zero =>
    intro i out hi hl h
    refine Ev.succ ?_
    simp only [fp_Sub.l0]
    refine Ev.neg (by omega) ?_
    exact Ev.bind (Ev.con (trim_ev _ 0)) (Ev.con (by rw [trimZ_ofF hl (fun j hj => h j (by omega))]))
  | succ d ih =>
    intro i out hi hl h
    refine Ev.succ ?_
    simp only [fp_Sub.l0]
    refine Ev.pos (by omega) ?_
    refine Ev.cbind (fp_at_is (by omega)) (Ev.cbind (fp_at_is (by omega)) ?_)
    refine Ev.neg (by have := hp.lo; omega) (Ev.pos (by omega) (Ev.pos (by omega) ?_))
    have b1 := hf.rng (i : Int).toNat
    have b2 := hg.rng (i : Int).toNat
    have := hp.hi
    have := hp.lo
    rw [w64 (x := co f (i : Int).toNat + p) (by omega) (by omega), w64 (x := co f (i : Int).toNat + p - co g (i : Int).toNat) (by omega) (by omega), w64 (by omega) (by omega), tmod_pos (by omega)]
    exact ih (i + 1) _ (by omega) (by rw [List.length_set]; exact hl) (set_pref (by omega) rfl h)
theorem fp_Sub_is {p : Int} (hp : Mo p) {f g : List Int} (hf : Val p f) (hg : Val p g) (h1 : f.length ≤ 1000000) (h2 : g.length ≤ 1000000) :
    Ev (fun k => fp_Sub.f k p f g) (ofF (max f.length g.length) fun j => (co f j + p - co g j) % p) := by
  simp only [fp_Sub.f, mx_len]
  refine Ev.pos (by omega) (Ev.pos (by omega) ?_)
  simp only [Option.bind_some, Int.toNat_natCast, List.length_replicate]
  exact fp_Sub_loop hp hf hg _ (by omega) _ 0 _ (Nat.zero_add _) (by simp) (fun j hj => by omega)
theorem fp_Scale_loop {p : Int} (hp : Mo p) {f : List Int} (hf : Val p f) {c : Int} (hc : 0 ≤ c ∧ c < p) (n : Nat) (hn : (n : Int) ≤ 1000000) (hfn : f.length = n) : ∀ (d i : Nat) (out : List Int), i + d = n → out.length = n → (∀ j, j < i → co out j = (co f j * c) % p) →
    Ev (fun k => fp_Scale.l0 k p c out f (n : Int) (i : Int)) (ofF n fun j => (co f j * c) % p) := by
  intro d
  induction d with
  | zero =>
    intro i out hi hl h
    refine Ev.succ ?_
    simp only [fp_Scale.l0]
    refine Ev.neg (by omega) ?_
    exact Ev.bind (Ev.con (trim_ev _ 0)) (Ev.con (by rw [trimZ_ofF hl (fun j hj => h j (by omega))]))
  | succ d ih =>
    intro i out hi hl h
    refine Ev.succ ?_
    simp only [fp_Scale.l0]
    refine Ev.pos (by omega) (Ev.pos (by omega) (Ev.pos (by omega) (Ev.neg (by have := hp.lo; omega) (Ev.pos (by omega) ?_))))
    have b1 := mul_bd hp (hf.rng (i : Int).toNat) hc
    rw [rd_co, w64 (x := co f (i : Int).toNat * c) (by omega) (by omega), w64 (by omega) (by omega), tmod_pos (by omega)]
    exact ih (i + 1) _ (by omega) (by rw [List.length_set]; exact hl) (set_pref (by omega) rfl h)
theorem fp_Scale_is {p : Int} (hp : Mo p) {f : List Int} (hf : Val p f) {c : Int} (hc : 0 ≤ c ∧ c < p) (h1 : f.length ≤ 1000000) :
    Ev (fun k => fp_Scale.f k p f c) (ofF f.length fun j => (co f j * c) % p) := by
  simp only [fp_Scale.f]
  refine Ev.pos (by omega) (Ev.pos (by omega) ?_)
  exact fp_Scale_loop hp hf hc _ (by omega) rfl _ 0 _ (Nat.zero_add _) (by simp) (fun j hj => by omega)
/-! ### products -/
/-- The coefficient k of the product, as far as the first i rows go. -/
def rows_ (f g : List Int) (i k : Nat) : Int := sm i fun a => if a ≤ k then co f a * co g (k - a) else 0
theorem rows_succ (f g : List Int) (i k : Nat) : rows_ f g (i + 1) k = rows_ f g i k + if i ≤ k then co f i * co g (k - i) else 0 := rfl
/-- The product. -/
def pmul (p : Int) (f g : List Int) : List Int := if f.length = 0 ∨ g.length = 0 then [] else ofF (f.length + g.length - 1) fun k => rows_ f g f.length k % p
/-- Within row i, the first j columns done. -/
def part_ (p : Int) (f g : List Int) (i j : Nat) (out : List Int) : Prop := ∀ k, co out k = (rows_ f g i k + if i ≤ k ∧ k < i + j then co f i * co g (k - i) else 0) % p
theorem part_zero {p : Int} {f g out : List Int} {i : Nat} (h : ∀ k, co out k = rows_ f g i k % p) : part_ p f g i 0 out := fun k => by
  rw [if_neg (by omega), Int.add_zero]; exact h k
theorem part_end {p : Int} {f g out : List Int} {i : Nat} (h : part_ p f g i g.length out) : ∀ k, co out k = rows_ f g (i + 1) k % p := fun k => by
  rw [h k, rows_succ]
  by_cases h1 : i ≤ k
  · rw [if_pos h1]
    by_cases h2 : k < i + g.length
    · rw [if_pos ⟨h1, h2⟩]
    · rw [if_neg (fun h => h2 h.2), co_ge (l := g) (by omega), Int.mul_zero]
  · rw [if_neg h1, if_neg (fun h => h1 h.1)]
theorem part_set {p : Int} {f g out : List Int} {i j : Nat} (hl : i + j < out.length) (h : part_ p f g i j out) : part_ p f g i (j + 1) (out.set (i + j) ((co out (i + j) + co f i * co g j) % p)) := fun k => by
  rw [co_set]
  by_cases e : i + j = k
  · subst e
    rw [if_pos ⟨rfl, hl⟩, h (i + j), if_neg (by omega), if_pos (by omega), Int.add_zero, Int.emod_add_emod, show i + j - i = j from by omega]
  · rw [if_neg (fun h => e h.1), h k]
    by_cases h1 : i ≤ k ∧ k < i + j
    · rw [if_pos h1, if_pos (by omega)]
    · rw [if_neg h1, if_neg (by omega)]
theorem fp_Mul_row {p : Int} (hp : Mo p) {f g : List Int} (hf : Val p f) (hg : Val p g) (hfl : f.length ≤ 100000) (hgl : g.length ≤ 100000) (n : Nat) (hn : n = f.length + g.length - 1) {r : List Int} {i : Nat} (hi : i < f.length)
    (next : ∀ out : List Int, out.length = n → (∀ k, co out k = rows_ f g (i + 1) k % p) → Ev (fun k => fp_Mul.l0 k p g out f (f.length : Int) ((i : Int) + 1)) r) : ∀ (d j : Nat) (out : List Int), j + d = g.length → out.length = n → part_ p f g i j out →
    Ev (fun k => fp_Mul.l1 k p g out (i : Int) (co f i) f (f.length : Int) (i : Int) g (g.length : Int) (j : Int)) r := by
  intro d
  induction d with
  | zero =>
    intro j out hj hl h
    refine Ev.succ ?_
    simp only [fp_Mul.l1]
    refine Ev.neg (by omega) ?_
    rw [w64 (by omega) (by omega)]
    have : j = g.length := by omega
    subst this
    exact next out hl (part_end h)
  | succ d ih =>
    intro j out hj hl h
    refine Ev.succ ?_
    simp only [fp_Mul.l1]
    rw [w64 (x := (i : Int) + j) (by omega) (by omega), w64 (x := (j : Int) + 1) (by omega) (by omega)]
    refine Ev.pos (by omega) (Ev.pos (by omega) (Ev.pos (by omega) (Ev.pos (by omega) (Ev.pos (by omega) (Ev.neg (by have := hp.lo; omega) ?_)))))
    rw [rd_co, rd_co, show ((i : Int) + (j : Int)).toNat = i + j from by omega, Int.toNat_natCast]
    have b1 := mul_bd hp (hf.rng i) (hg.rng j)
    have b2 := mod_bd hp (rows_ f g i (i + j) + if i ≤ i + j ∧ i + j < i + j then co f i * co g (i + j - i) else 0)
    rw [← h (i + j)] at b2
    have := hp.hi
    rw [w64 (x := co f i * co g j) (by omega) (by omega), w64 (by omega) (by omega), tmod_pos (by omega)]
    exact ih (j + 1) _ (by omega) (by rw [List.length_set]; exact hl) (part_set (by omega) h)
theorem fp_Mul_rows {p : Int} (hp : Mo p) {f g : List Int} (hf : Val p f) (hg : Val p g) (hfl : f.length ≤ 100000) (hgl : g.length ≤ 100000) (n : Nat) (hn : n = f.length + g.length - 1) : ∀ (d i : Nat) (out : List Int), i + d = f.length → out.length = n → (∀ k, co out k = rows_ f g i k % p) →
    Ev (fun k => fp_Mul.l0 k p g out f (f.length : Int) (i : Int)) (ofF n fun k => rows_ f g f.length k % p) := by
  intro d
  induction d with
  | zero =>
    intro i out hi hl h
    refine Ev.succ ?_
    simp only [fp_Mul.l0]
    refine Ev.neg (by omega) ?_
    have : i = f.length := by omega
    subst this
    exact Ev.bind (Ev.con (trim_ev _ 0)) (Ev.con (by rw [trimZ_ofF hl (fun j hj => h j)]))
  | succ d ih =>
    intro i out hi hl h
    refine Ev.succ ?_
    simp only [fp_Mul.l0]
    refine Ev.pos (by omega) (Ev.pos (by omega) (Ev.pos (by omega) ?_))
    rw [rd_co, Int.toNat_natCast]
    exact fp_Mul_row hp hf hg hfl hgl n hn (by omega) (fun out2 h1 h2 => ih (i + 1) out2 (by omega) h1 h2) g.length 0 out (by omega) hl (part_zero h)
theorem fp_Mul_is {p : Int} (hp : Mo p) {f g : List Int} (hf : Val p f) (hg : Val p g) (hfl : f.length ≤ 100000) (hgl : g.length ≤ 100000) : Ev (fun k => fp_Mul.f k p f g) (pmul p f g) := by
  have hj : ∀ b : Bool, (b = true ↔ (f.length = 0 ∨ g.length = 0)) → Ev (fun k => fp_Mul.j0 k p f g b) (pmul p f g) := by
    intro b hb
    refine Ev.succ ?_
    simp only [fp_Mul.j0]
    unfold pmul
    by_cases h : f.length = 0 ∨ g.length = 0
    · rw [if_pos h]
      exact Ev.pos (hb.2 h) (Ev.con rfl)
    · rw [if_neg h, w64 (x := (f.length : Int) + g.length) (by omega) (by omega), w64 (by omega) (by omega)]
      refine Ev.neg (fun hc => h (hb.1 hc)) (Ev.pos (by omega) (Ev.pos (by omega) ?_))
      exact fp_Mul_rows hp hf hg hfl hgl _ rfl f.length 0 _ (by omega) (by rw [List.length_replicate]; omega) (fun k => by rw [co_replicate]; simp [rows_, sm])
  unfold fp_Mul.f
  by_cases h : (f.length : Int) = 0
  · exact Ev.pos h (hj true ⟨fun _ => .inl (by omega), fun _ => rfl⟩)
  · exact Ev.neg h (hj _ ⟨fun h2 => .inr (by have := beq_iff_eq.1 h2; omega), fun h2 => beq_iff_eq.2 (by omega)⟩)
theorem ref_Trim_is : ∀ (m : Nat) (l : List Int), l.length = m → m ≤ 1000000 → Ev (fun k => galoisref09_Trim.l0 k l) (trimZ l) := by
  intro m
  induction m with
  | zero =>
    intro l hl hm
    have : l = [] := List.length_eq_zero_iff.1 hl
    subst this
    refine Ev.succ ?_
    simp only [galoisref09_Trim.l0]
    exact Ev.neg (by simp) (Ev.con rfl)
  | succ m ih =>
    intro l hl hm
    refine Ev.succ ?_
    simp only [galoisref09_Trim.l0]
    rw [w64 (by omega) (by omega)]
    refine Ev.pos (by omega) (Ev.pos (by omega) (Ev.pos (by omega) ?_))
    rw [rd_co, show ((l.length : Int) - 1).toNat = m from by omega]
    have hs : l = l.take m ++ [co l m] := by
      have h1 : l.take (m + 1) = l := List.take_of_length_le (by omega)
      have h2 := List.take_succ_eq_append_getElem (l := l) (i := m) (by omega)
      rw [h1] at h2
      have h3 : co l m = l[m] := by simp [co, show m < l.length from by omega]
      rw [h3]; exact h2
    by_cases e : co l m = 0
    · refine Ev.pos e (Ev.pos (by omega) ?_)
      have h1 : trimZ l = trimZ (l.take m) := trimZ_ext fun i => by
        rw [co_take]
        by_cases hi : i < m
        · rw [if_pos hi]
        · rw [if_neg hi]
          by_cases e2 : i = m
          · rw [e2]; exact e
          · exact co_ge (by omega)
      rw [h1]
      exact ih _ (by rw [List.length_take]; omega) (by omega)
    · refine Ev.neg e (Ev.con ?_)
      have h1 : Tr l := tr_of_last (.inr (by rw [hl]; exact e))
      rw [h1]
theorem ref_Trim_ev {l : List Int} (h : l.length ≤ 1000000) : Ev (fun k => galoisref09_Trim.f k l) (trimZ l) := by
  unfold galoisref09_Trim.f
  exact ref_Trim_is _ l rfl h
theorem ref_Copy_is {l : List Int} (h : l.length ≤ 1000000) : galoisref09_Copy.f l = some l := by
  simp only [galoisref09_Copy.f, Option.bind_some, List.length_nil, List.nil_append]
  rw [if_pos (by omega)]
theorem ref_Add_loop {p : Int} (hp : Mo p) {f g : List Int} (hf : Val p f) (hg : Val p g) (n : Nat) (hn : n ≤ 1000000) : ∀ (d i : Nat) (out : List Int), i + d = n → out.length = n → (∀ j, j < i → co out j = (co f j + co g j) % p) → (∀ j, i ≤ j → co out j = 0) →
    Ev (fun k => galoisref09_Add.l0 k p f g out (i : Int)) (ofF n fun j => (co f j + co g j) % p) := by
  intro d
  induction d with
  | zero =>
    intro i out hi hl h hz
    refine Ev.succ ?_
    simp only [galoisref09_Add.l0]
    refine Ev.neg (by omega) ?_
    exact Ev.bind (ref_Trim_ev (by omega)) (Ev.con (by rw [trimZ_ofF hl (fun j hj => h j (by omega))]))
  | succ d ih =>
    intro i out hi hl h hz
    have b1 := hf.rng i
    have b2 := hg.rng i
    have := hp.hi
    have := hp.lo
    have hnext : ∀ out2 : List Int, out2.length = n → co out2 i = (co f i + co g i) % p → (∀ j, j ≠ i → co out2 j = co out j) → Ev (fun k => galoisref09_Add.l0 k p f g out2 ((i : Int) + 1)) (ofF n fun j => (co f j + co g j) % p) := by
      intro out2 h1 h2 h3
      refine ih (i + 1) out2 (by omega) h1 (fun j hj => ?_) (fun j hj => ?_)
      · by_cases e : j = i
        · rw [e]; exact h2
        · rw [h3 j e]; exact h j (by omega)
      · rw [h3 j (by omega)]; exact hz j (by omega)
    refine Ev.succ ?_
    simp only [galoisref09_Add.l0]
    rw [w64 (x := (i : Int) + 1) (by omega) (by omega)]
    refine Ev.pos (by omega) ?_
    have z0 := hz i (Nat.le_refl _)
    by_cases hfi : (i : Int) < f.length
    · refine Ev.pos hfi (Ev.pos (by omega) ?_)
      simp only [Option.bind_some, rd_co, Int.toNat_natCast, z0, Int.zero_add]
      rw [w64 (x := co f i) (by omega) (by omega)]
      by_cases hgi : (i : Int) < g.length
      · refine Ev.pos hgi (Ev.neg (by omega) ?_)
        refine hnext _ (by simp [hl]) ?_ (fun j hj => ?_)
        · simp only [co_set, List.length_set]
          simp only [true_and, if_pos (show i < out.length by omega)]
          rw [w64 (by omega) (by omega), tmod_pos (by omega)]
        · simp only [co_set, List.length_set, show ¬ (i = j) from fun h => hj h.symm, false_and, if_false]
      · refine Ev.neg hgi (Ev.neg (by omega) ?_)
        have g0 : co g i = 0 := co_ge (by omega)
        refine hnext _ (by simp [hl]) ?_ (fun j hj => ?_)
        · simp only [co_set, List.length_set]
          simp only [true_and, if_pos (show i < out.length by omega)]
          rw [tmod_pos (by omega), g0, Int.add_zero]
        · simp only [co_set, List.length_set, show ¬ (i = j) from fun h => hj h.symm, false_and, if_false]
    · refine Ev.neg hfi ?_
      have f0 : co f i = 0 := co_ge (by omega)
      by_cases hgi : (i : Int) < g.length
      · refine Ev.pos hgi (Ev.pos (by omega) ?_)
        simp only [Option.bind_some, rd_co, Int.toNat_natCast, z0, Int.zero_add]
        refine Ev.neg (by omega) ?_
        rw [w64 (x := co g i) (by omega) (by omega)]
        refine hnext _ (by simp [hl]) ?_ (fun j hj => ?_)
        · simp only [co_set, List.length_set]
          simp only [true_and, if_pos (show i < out.length by omega)]
          rw [tmod_pos (by omega), f0, Int.zero_add]
        · simp only [co_set, List.length_set, show ¬ (i = j) from fun h => hj h.symm, false_and, if_false]
      · refine Ev.neg hgi (Ev.pos (by omega) (Ev.neg (by omega) ?_))
        have g0 : co g i = 0 := co_ge (by omega)
        simp only [rd_co, Int.toNat_natCast, z0]
        refine hnext _ (by simp [hl]) ?_ (fun j hj => ?_)
        · simp only [co_set]
          simp only [true_and, if_pos (show i < out.length by omega)]
          rw [f0, g0]; simp
        · simp only [co_set, show ¬ (i = j) from fun h => hj h.symm, false_and, if_false]
theorem ref_Add_is {p : Int} (hp : Mo p) {f g : List Int} (hf : Val p f) (hg : Val p g) (h1 : f.length ≤ 1000000) (h2 : g.length ≤ 1000000) :
    Ev (fun k => galoisref09_Add.f k p f g) (ofF (max f.length g.length) fun j => (co f j + co g j) % p) := by
  simp only [galoisref09_Add.f, mx_len]
  refine Ev.pos (by omega) (Ev.pos (by omega) ?_)
  rw [Int.toNat_natCast]
  exact ref_Add_loop hp hf hg _ (by omega) _ 0 _ (Nat.zero_add _) (by simp) (fun j hj => by omega) (fun j _ => co_replicate _ _)
theorem ref_Scale_loop {p : Int} (hp : Mo p) {f : List Int} (hf : Val p f) {c : Int} (hc : 0 ≤ c ∧ c < p) (n : Nat) (hn : n ≤ 1000000) : ∀ (d i : Nat) (out : List Int), i + d = n → out.length = n → (∀ j, j < i → co out j = (co f j * c) % p) → (∀ j, i ≤ j → co out j = co f j) →
    Ev (fun k => galoisref09_Scale.l0 k p c out (i : Int)) (ofF n fun j => (co f j * c) % p) := by
  intro d
  induction d with
  | zero =>
    intro i out hi hl h hz
    refine Ev.succ ?_
    simp only [galoisref09_Scale.l0]
    refine Ev.neg (by omega) ?_
    exact Ev.bind (ref_Trim_ev (by omega)) (Ev.con (by rw [trimZ_ofF hl (fun j hj => h j (by omega))]))
  | succ d ih =>
    intro i out hi hl h hz
    have b1 := mul_bd hp (hf.rng i) hc
    have := hp.lo
    refine Ev.succ ?_
    simp only [galoisref09_Scale.l0]
    rw [w64 (x := (i : Int) + 1) (by omega) (by omega)]
    refine Ev.pos (by omega) (Ev.pos (by omega) (Ev.neg (by omega) ?_))
    rw [rd_co, Int.toNat_natCast, hz i (Nat.le_refl _), w64 (by omega) (by omega), tmod_pos (by omega)]
    refine ih (i + 1) _ (by omega) (by simp [hl]) (set_pref (by omega) rfl h) (fun j hj => ?_)
    rw [co_set, if_neg (by omega)]; exact hz j (by omega)
theorem ref_Scale_is {p : Int} (hp : Mo p) {f : List Int} (hf : Val p f) (c : Int) (h1 : f.length ≤ 1000000) :
    Ev (fun k => galoisref09_Scale.f k p f c) (ofF f.length fun j => (co f j * (c % p)) % p) := by
  unfold galoisref09_Scale.f
  refine Ev.cbind (ref_Mod_is hp) (Ev.cbind (ref_Copy_is h1) ?_)
  exact ref_Scale_loop hp hf (mod_bd hp c) f.length h1 f.length 0 f (by omega) rfl (fun j hj => by omega) (fun _ _ => rfl)
theorem sub_coef {p : Int} (hp : 0 < p) (a b : Int) : (a + b * (-1 % p) % p) % p = (a + p - b) % p := by
  have h : (b * (-1 % p)) % p = (-b) % p := by
    rw [Int.mul_emod, Int.emod_emod_of_dvd _ (Int.dvd_refl p), ← Int.mul_emod]; congr 1; omega
  rw [h, Int.add_emod_emod, show a + p - b = a + -b + p from by omega, Int.add_emod_right]
theorem ref_Sub_is {p : Int} (hp : Mo p) {f g : List Int} (hf : Val p f) (hg : Val p g) (h1 : f.length ≤ 1000000) (h2 : g.length ≤ 1000000) :
    Ev (fun k => galoisref09_Sub.f k p f g) (ofF (max f.length g.length) fun j => (co f j + p - co g j) % p) := by
  unfold galoisref09_Sub.f
  refine Ev.bind (ref_Scale_is hp hg (-1) h2) ?_
  have hv := val_ofF hp.pos g.length fun j => co g j * (-1 % p)
  have hl := ofF_len g.length fun j => co g j * (-1 % p) % p
  refine Ev.bind (ref_Add_is hp hf hv h1 (by omega)) (Ev.con ?_)
  congr 1
  refine ofF_ext fun i => ?_
  simp only [co_ofF]
  by_cases hi : i < max f.length g.length
  · rw [if_pos hi]
    by_cases hg2 : i < g.length
    · rw [if_pos hg2]
      by_cases h3 : i < max f.length (ofF g.length fun j => co g j * (-1 % p) % p).length
      · rw [if_pos h3, sub_coef hp.pos]
      · rw [if_neg h3]
        have f0 : co f i = 0 := co_ge (by omega)
        have g0 := co_ge (l := ofF g.length fun j => co g j * (-1 % p) % p) (i := i) (by omega)
        rw [co_ofF, if_pos hg2] at g0
        rw [← sub_coef hp.pos, f0, g0]; simp
    · rw [if_neg hg2, co_ge (l := g) (by omega), if_pos (by omega), Int.add_zero, show co f i + p - 0 = co f i + p from by omega, Int.add_emod_right]
  · rw [if_neg hi, if_neg (by omega)]
theorem ref_Mul_row {p : Int} (hp : Mo p) {f g : List Int} (hf : Val p f) (hg : Val p g) (hfl : f.length ≤ 100000) (hgl : g.length ≤ 100000) (n : Nat) (hn : n = f.length + g.length - 1) {r : List Int} {i : Nat} (hi : i < f.length)
    (next : ∀ out : List Int, out.length = n → (∀ k, co out k = rows_ f g (i + 1) k % p) → Ev (fun k => galoisref09_Mul.l0 k p f g out ((i : Int) + 1)) r) : ∀ (d j : Nat) (out : List Int), j + d = g.length → out.length = n → part_ p f g i j out →
    Ev (fun k => galoisref09_Mul.l1 k p f g out (i : Int) (j : Int)) r := by
  intro d
  induction d with
  | zero =>
    intro j out hj hl h
    refine Ev.succ ?_
    simp only [galoisref09_Mul.l1]
    refine Ev.neg (by omega) ?_
    rw [w64 (by omega) (by omega)]
    have : j = g.length := by omega
    subst this
    exact next out hl (part_end h)
  | succ d ih =>
    intro j out hj hl h
    refine Ev.succ ?_
    simp only [galoisref09_Mul.l1]
    rw [w64 (x := (i : Int) + j) (by omega) (by omega), w64 (x := (j : Int) + 1) (by omega) (by omega)]
    refine Ev.pos (by omega) (Ev.pos (by omega) (Ev.pos (by omega) (Ev.pos (by omega) (Ev.pos (by omega) (Ev.pos (by omega) (Ev.neg (by have := hp.lo; omega) ?_))))))
    rw [rd_co, rd_co, rd_co, show ((i : Int) + (j : Int)).toNat = i + j from by omega, Int.toNat_natCast, Int.toNat_natCast]
    have b1 := mul_bd hp (hf.rng i) (hg.rng j)
    have b2 := mod_bd hp (rows_ f g i (i + j) + if i ≤ i + j ∧ i + j < i + j then co f i * co g (i + j - i) else 0)
    rw [← h (i + j)] at b2
    have := hp.hi
    rw [w64 (x := co f i * co g j) (by omega) (by omega), w64 (by omega) (by omega), tmod_pos (by omega)]
    exact ih (j + 1) _ (by omega) (by rw [List.length_set]; exact hl) (part_set (by omega) h)
theorem ref_Mul_rows {p : Int} (hp : Mo p) {f g : List Int} (hf : Val p f) (hg : Val p g) (hfl : f.length ≤ 100000) (hgl : g.length ≤ 100000) (n : Nat) (hn : n = f.length + g.length - 1) : ∀ (d i : Nat) (out : List Int), i + d = f.length → out.length = n → (∀ k, co out k = rows_ f g i k % p) →
    Ev (fun k => galoisref09_Mul.l0 k p f g out (i : Int)) (ofF n fun k => rows_ f g f.length k % p) := by
  intro d
  induction d with
  | zero =>
    intro i out hi hl h
    refine Ev.succ ?_
    simp only [galoisref09_Mul.l0]
    refine Ev.neg (by omega) ?_
    have : i = f.length := by omega
    subst this
    exact Ev.bind (ref_Trim_ev (by omega)) (Ev.con (by rw [trimZ_ofF hl (fun j hj => h j)]))
  | succ d ih =>
    intro i out hi hl h
    refine Ev.succ ?_
    simp only [galoisref09_Mul.l0]
    refine Ev.pos (by omega) ?_
    exact ref_Mul_row hp hf hg hfl hgl n hn (by omega) (fun out2 h1 h2 => ih (i + 1) out2 (by omega) h1 h2) g.length 0 out (by omega) hl (part_zero h)
theorem ref_Mul_is {p : Int} (hp : Mo p) {f g : List Int} (hf : Val p f) (hg : Val p g) (hfl : f.length ≤ 100000) (hgl : g.length ≤ 100000) : Ev (fun k => galoisref09_Mul.f k p f g) (pmul p f g) := by
  have hj : ∀ b : Bool, (b = true ↔ (f.length = 0 ∨ g.length = 0)) → Ev (fun k => galoisref09_Mul.j0 k p f g b) (pmul p f g) := by
    intro b hb
    refine Ev.succ ?_
    simp only [galoisref09_Mul.j0]
    unfold pmul
    by_cases h : f.length = 0 ∨ g.length = 0
    · rw [if_pos h]
      exact Ev.pos (hb.2 h) (Ev.con rfl)
    · rw [if_neg h, w64 (x := (f.length : Int) + g.length) (by omega) (by omega), w64 (by omega) (by omega)]
      refine Ev.neg (fun hc => h (hb.1 hc)) (Ev.pos (by omega) (Ev.pos (by omega) ?_))
      exact ref_Mul_rows hp hf hg hfl hgl _ rfl f.length 0 _ (by omega) (by rw [List.length_replicate]; omega) (fun k => by rw [co_replicate]; simp [rows_, sm])
  unfold galoisref09_Mul.f
  by_cases h : (f.length : Int) = 0
  · exact Ev.pos h (hj true ⟨fun _ => .inl (by omega), fun _ => rfl⟩)
  · exact Ev.neg h (hj _ ⟨fun h2 => .inr (by have := beq_iff_eq.1 h2; omega), fun h2 => beq_iff_eq.2 (by omega)⟩)
end Go.Proofs.Ytmknclgamadphaa.MPolymodPrimes
