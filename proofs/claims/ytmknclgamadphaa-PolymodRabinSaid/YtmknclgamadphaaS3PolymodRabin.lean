/- What the printed sums, differences and products compute. -/
import Derived.Test.YtmknclgamadphaaS2PolymodRabin
namespace Go.Proofs.Ytmknclgamadphaa.MPolymodRabin
open Go.RowKit Go.Proofs.Ytmknclgamadphaa.PPolymodRabin Go.Proofs.YtmknclgamadphaaW.PrintWords Go.Proofs.YtmknclgamadphaaW.PrintLast Go.Proofs.YtmknclgamadphaaW.PrintMore
set_option linter.unusedVariables false
set_option linter.unusedSimpArgs false

theorem set_pref {out : List Int} {i : Nat} {x : Int} {F : Nat → Int} (hi : i < out.length) (hx : x = F i) (h : ∀ j, j < i → co out j = F j) : ∀ j, j < i + 1 → co (out.set i x) j = F j := by
  intro j hj
  rw [co_set]
  by_cases e : i = j
  · rw [if_pos ⟨e, hi⟩, hx, e]
  · rw [if_neg (fun h => e h.1), h j (by omega)]
theorem fp_Sub_loop {p : Int} (hp : Mo p) {f g : List Int} (hf : Val p f) (hg : Val p g) (n : Nat) (hn : (n : Int) ≤ 1000000) : ∀ (d i : Nat) (out : List Int), i + d = n → out.length = n → (∀ j, j < i → co out j = (co f j + p - co g j) % p) →
    Ev (fun k => fp_Sub.l0 k p f g out (n : Int) (i : Int)) (ofF n fun j => (co f j + p - co g j) % p) := by
  intro d
  induction d with
  | zero =>
    intro i out hi hl h
    refine Ev.succ ?_
    simp only [fp_Sub.l0]
    refine Ev.neg (by omega) ?_
    exact Ev.bind (Ev.con (trim_ev _ 0)) (Ev.con (by rw [trimZ_ofF hl (fun j hj => h j (by omega))]))
  | succ d ih =>
    intro i out hi hl h
    refine Ev.succ ?_
    simp only [fp_Sub.l0]
    refine Ev.pos (by omega) ?_
    refine Ev.cbind (fp_at_is (by omega)) (Ev.cbind (fp_at_is (by omega)) ?_)
    refine Ev.neg (by have := hp.lo; omega) (Ev.pos (by omega) (Ev.pos (by omega) ?_))
    have b1 := hf.rng (i : Int).toNat
    have b2 := hg.rng (i : Int).toNat
    have := hp.hi
    have := hp.lo
    rw [w64 (x := co f (i : Int).toNat + p) (by omega) (by omega), w64 (x := co f (i : Int).toNat + p - co g (i : Int).toNat) (by omega) (by omega), w64 (by omega) (by omega), tmod_pos (by omega)]
    exact ih (i + 1) _ (by omega) (by rw [List.length_set]; exact hl) (set_pref (by omega) rfl h)
theorem fp_Sub_is {p : Int} (hp : Mo p) {f g : List Int} (hf : Val p f) (hg : Val p g) (h1 : f.length ≤ 1000000) (h2 : g.length ≤ 1000000) :
    Ev (fun k => fp_Sub.f k p f g) (ofF (max f.length g.length) fun j => (co f j + p - co g j) % p) := by
  simp only [fp_Sub.f, mx_len]
  refine Ev.pos (by omega) (Ev.pos (by omega) ?_)
  simp only [Option.bind_some, Int.toNat_natCast, List.length_replicate]
  exact fp_Sub_loop hp hf hg _ (by omega) _ 0 _ (Nat.zero_add _) (by simp) (fun j hj => by omega)
theorem fp_Scale_loop {p : Int} (hp : Mo p) {f : List Int} (hf : Val p f) {c : Int} (hc : 0 ≤ c ∧ c < p) (n : Nat) (hn : (n : Int) ≤ 1000000) (hfn : f.length = n) : ∀ (d i : Nat) (out : List Int), i + d = n → out.length = n → (∀ j, j < i → co out j = (co f j * c) % p) →
    Ev (fun k => fp_Scale.l0 k p c out f (n : Int) (i : Int)) (ofF n fun j => (co f j * c) % p) := by
  intro d
  induction d with
  | zero =>
    intro i out hi hl h
    refine Ev.succ ?_
    simp only [fp_Scale.l0]
    refine Ev.neg (by omega) ?_
    exact Ev.bind (Ev.con (trim_ev _ 0)) (Ev.con (by rw [trimZ_ofF hl (fun j hj => h j (by omega))]))
  | succ d ih =>
    intro i out hi hl h
    refine Ev.succ ?_
    simp only [fp_Scale.l0]
    refine Ev.pos (by omega) (Ev.pos (by omega) (Ev.pos (by omega) (Ev.neg (by have := hp.lo; omega) (Ev.pos (by omega) ?_))))
    have b1 := mul_bd hp (hf.rng (i : Int).toNat) hc
    rw [rd_co, w64 (x := co f (i : Int).toNat * c) (by omega) (by omega), w64 (by omega) (by omega), tmod_pos (by omega)]
    exact ih (i + 1) _ (by omega) (by rw [List.length_set]; exact hl) (set_pref (by omega) rfl h)
theorem fp_Scale_is {p : Int} (hp : Mo p) {f : List Int} (hf : Val p f) {c : Int} (hc : 0 ≤ c ∧ c < p) (h1 : f.length ≤ 1000000) :
    Ev (fun k => fp_Scale.f k p f c) (ofF f.length fun j => (co f j * c) % p) := by
  simp only [fp_Scale.f]
  refine Ev.pos (by omega) (Ev.pos (by omega) ?_)
  exact fp_Scale_loop hp hf hc _ (by omega) rfl _ 0 _ (Nat.zero_add _) (by simp) (fun j hj => by omega)
/-! ### products -/
/-- The coefficient k of the product, as far as the first i rows go. -/
def rows_ (f g : List Int) (i k : Nat) : Int := sm i fun a => if a ≤ k then co f a * co g (k - a) else 0
theorem rows_succ (f g : List Int) (i k : Nat) : rows_ f g (i + 1) k = rows_ f g i k + if i ≤ k then co f i * co g (k - i) else 0 := rfl
/-- The product. -/
def pmul (p : Int) (f g : List Int) : List Int := if f.length = 0 ∨ g.length = 0 then [] else ofF (f.length + g.length - 1) fun k => rows_ f g f.length k % p
/-- Within row i, the first j columns done. -/
def part_ (p : Int) (f g : List Int) (i j : Nat) (out : List Int) : Prop := ∀ k, co out k = (rows_ f g i k + if i ≤ k ∧ k < i + j then co f i * co g (k - i) else 0) % p
theorem part_zero {p : Int} {f g out : List Int} {i : Nat} (h : ∀ k, co out k = rows_ f g i k % p) : part_ p f g i 0 out := fun k => by
  rw [if_neg (by omega), Int.add_zero]; exact h k
theorem part_end {p : Int} {f g out : List Int} {i : Nat} (h : part_ p f g i g.length out) : ∀ k, co out k = rows_ f g (i + 1) k % p := fun k => by
  rw [h k, rows_succ]
  by_cases h1 : i ≤ k
  · rw [if_pos h1]
    by_cases h2 : k < i + g.length
    · rw [if_pos ⟨h1, h2⟩]
    · rw [if_neg (fun h => h2 h.2), co_ge (l := g) (by omega), Int.mul_zero]
  · rw [if_neg h1, if_neg (fun h => h1 h.1)]
theorem part_set {p : Int} {f g out : List Int} {i j : Nat} (hl : i + j < out.length) (h : part_ p f g i j out) : part_ p f g i (j + 1) (out.set (i + j) ((co out (i + j) + co f i * co g j) % p)) := fun k => by
  rw [co_set]
  by_cases e : i + j = k
  · subst e
    rw [if_pos ⟨rfl, hl⟩, h (i + j), if_neg (by omega), if_pos (by omega), Int.add_zero, Int.emod_add_emod, show i + j - i = j from by omega]
  · rw [if_neg (fun h => e h.1), h k]
    by_cases h1 : i ≤ k ∧ k < i + j
    · rw [if_pos h1, if_pos (by omega)]
    · rw [if_neg h1, if_neg (by omega)]
theorem fp_Mul_row {p : Int} (hp : Mo p) {f g : List Int} (hf : Val p f) (hg : Val p g) (hfl : f.length ≤ 100000) (hgl : g.length ≤ 100000) (n : Nat) (hn : n = f.length + g.length - 1) {r : List Int} {i : Nat} (hi : i < f.length)
    (next : ∀ out : List Int, out.length = n → (∀ k, co out k = rows_ f g (i + 1) k % p) → Ev (fun k => fp_Mul.l0 k p g out f (f.length : Int) ((i : Int) + 1)) r) : ∀ (d j : Nat) (out : List Int), j + d = g.length → out.length = n → part_ p f g i j out →
    Ev (fun k => fp_Mul.l1 k p g out (i : Int) (co f i) f (f.length : Int) (i : Int) g (g.length : Int) (j : Int)) r := by
  intro d
  induction d with
  | zero =>
    intro j out hj hl h
    refine Ev.succ ?_
    simp only [fp_Mul.l1]
    refine Ev.neg (by omega) ?_
    rw [w64 (by omega) (by omega)]
    have : j = g.length := by omega
    subst this
    exact next out hl (part_end h)
  | succ d ih =>
    intro j out hj hl h
    refine Ev.succ ?_
    simp only [fp_Mul.l1]
    rw [w64 (x := (i : Int) + j) (by omega) (by omega), w64 (x := (j : Int) + 1) (by omega) (by omega)]
    refine Ev.pos (by omega) (Ev.pos (by omega) (Ev.pos (by omega) (Ev.pos (by omega) (Ev.pos (by omega) (Ev.neg (by have := hp.lo; omega) ?_)))))
    rw [rd_co, rd_co, show ((i : Int) + (j : Int)).toNat = i + j from by omega, Int.toNat_natCast]
    have b1 := mul_bd hp (hf.rng i) (hg.rng j)
    have b2 := mod_bd hp (rows_ f g i (i + j) + if i ≤ i + j ∧ i + j < i + j then co f i * co g (i + j - i) else 0)
    rw [← h (i + j)] at b2
    have := hp.hi
    rw [w64 (x := co f i * co g j) (by omega) (by omega), w64 (by omega) (by omega), tmod_pos (by omega)]
    exact ih (j + 1) _ (by omega) (by rw [List.length_set]; exact hl) (part_set (by omega) h)
theorem fp_Mul_rows {p : Int} (hp : Mo p) {f g : List Int} (hf : Val p f) (hg : Val p g) (hfl : f.length ≤ 100000) (hgl : g.length ≤ 100000) (n : Nat) (hn : n = f.length + g.length - 1) : ∀ (d i : Nat) (out : List Int), i + d = f.length → out.length = n → (∀ k, co out k = rows_ f g i k % p) →
    Ev (fun k => fp_Mul.l0 k p g out f (f.length : Int) (i : Int)) (ofF n fun k => rows_ f g f.length k % p) := by
  intro d
  induction d with
  | zero =>
    intro i out hi hl h
    refine Ev.succ ?_
    simp only [fp_Mul.l0]
    refine Ev.neg (by omega) ?_
    have : i = f.length := by omega
    subst this
    exact Ev.bind (Ev.con (trim_ev _ 0)) (Ev.con (by rw [trimZ_ofF hl (fun j hj => h j)]))
  | succ d ih =>
    intro i out hi hl h
    refine Ev.succ ?_
    simp only [fp_Mul.l0]
    refine Ev.pos (by omega) (Ev.pos (by omega) (Ev.pos (by omega) ?_))
    rw [rd_co, Int.toNat_natCast]
    exact fp_Mul_row hp hf hg hfl hgl n hn (by omega) (fun out2 h1 h2 => ih (i + 1) out2 (by omega) h1 h2) g.length 0 out (by omega) hl (part_zero h)
theorem fp_Mul_is {p : Int} (hp : Mo p) {f g : List Int} (hf : Val p f) (hg : Val p g) (hfl : f.length ≤ 100000) (hgl : g.length ≤ 100000) : Ev (fun k => fp_Mul.f k p f g) (pmul p f g) := by
  have hj : ∀ b : Bool, (b = true ↔ (f.length = 0 ∨ g.length = 0)) → Ev (fun k => fp_Mul.j0 k p f g b) (pmul p f g) := by
    intro b hb
    refine Ev.succ ?_
    simp only [fp_Mul.j0]
    unfold pmul
    by_cases h : f.length = 0 ∨ g.length = 0
    · rw [if_pos h]
      exact Ev.pos (hb.2 h) (Ev.con rfl)
    · rw [if_neg h, w64 (x := (f.length : Int) + g.length) (by omega) (by omega), w64 (by omega) (by omega)]
      refine Ev.neg (fun hc => h (hb.1 hc)) (Ev.pos (by omega) (Ev.pos (by omega) ?_))
      exact fp_Mul_rows hp hf hg hfl hgl _ rfl f.length 0 _ (by omega) (by rw [List.length_replicate]; omega) (fun k => by rw [co_replicate]; simp [rows_, sm])
  unfold fp_Mul.f
  by_cases h : (f.length : Int) = 0
  · exact Ev.pos h (hj true ⟨fun _ => .inl (by omega), fun _ => rfl⟩)
  · exact Ev.neg h (hj _ ⟨fun h2 => .inr (by have := beq_iff_eq.1 h2; omega), fun h2 => beq_iff_eq.2 (by omega)⟩)
theorem sub_coef {p : Int} (hp : 0 < p) (a b : Int) : (a + b * (-1 % p) % p) % p = (a + p - b) % p := by
  have h : (b * (-1 % p)) % p = (-b) % p := by
    rw [Int.mul_emod, Int.emod_emod_of_dvd _ (Int.dvd_refl p), ← Int.mul_emod]; congr 1; omega
  rw [h, Int.add_emod_emod, show a + p - b = a + -b + p from by omega, Int.add_emod_right]
end Go.Proofs.Ytmknclgamadphaa.MPolymodRabin
