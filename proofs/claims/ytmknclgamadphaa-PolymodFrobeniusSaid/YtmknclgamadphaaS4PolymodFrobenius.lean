/- What the printed values, derivatives and compositions compute. -/
import Derived.Test.YtmknclgamadphaaA3PolymodFrobenius
import Derived.Test.YtmknclgamadphaaA5PolymodFrobenius
namespace Go.Proofs.Ytmknclgamadphaa.MPolymodFrobenius
open Go.RowKit Go.Proofs.Ytmknclgamadphaa.PPolymodFrobenius Go.Proofs.YtmknclgamadphaaW.PrintWords Go.Proofs.YtmknclgamadphaaW.PrintLast Go.Proofs.YtmknclgamadphaaW.PrintMore
set_option linter.unusedVariables false
set_option linter.unusedSimpArgs false
/-! ### values -/
/-- Horner's rule over the first i coefficients. -/
def hn (p a : Int) (f : List Int) : Nat → Int → Int
  | 0, v => v
  | i + 1, v => hn p a f i ((v * a + co f i) % p)
theorem eval_bd {p : Int} (hp : Mo p) {v a c : Int} (hv : 0 ≤ v ∧ v < p) (ha : 0 ≤ a ∧ a < p) (hc : 0 ≤ c ∧ c < p) : wrap64 (wrap64 (v * a) + c) = v * a + c ∧ 0 ≤ v * a + c := by
  have b := mul_bd hp hv ha
  have := hp.hi
  rw [w64 (x := v * a) (by omega) (by omega), w64 (by omega) (by omega)]
  exact ⟨rfl, by omega⟩
theorem fp_Eval_loop {p a : Int} (hp : Mo p) {f : List Int} (hf : Val p f) (ha : 0 ≤ a ∧ a < p) (hl : f.length ≤ 1000000) : ∀ (i : Nat) (v : Int), i ≤ f.length → 0 ≤ v ∧ v < p → Ev (fun k => fp_Eval.l0 k p f a v ((i : Int) - 1)) (hn p a f i v) := by
  intro i
  induction i with
  | zero =>
    intro v _ _
    refine Ev.succ ?_
    simp only [fp_Eval.l0]
    exact Ev.neg (by omega) (Ev.con rfl)
  | succ i ih =>
    intro v hi hv
    refine Ev.succ ?_
    simp only [fp_Eval.l0]
    rw [show (((i + 1 : Nat) : Int) - 1) = (i : Int) from by omega]
    have b := eval_bd hp hv ha (hf.rng i)
    refine Ev.pos (by omega) (Ev.pos (by omega) (Ev.pos (by omega) (Ev.neg (by have := hp.lo; omega) ?_)))
    rw [rd_co, Int.toNat_natCast, b.1, w64 (x := (i : Int) - 1) (by omega) (by omega), tmod_pos b.2]
    exact ih _ (by omega) (mod_bd hp _)
theorem fp_Eval_is {p a : Int} (hp : Mo p) {f : List Int} (hf : Val p f) (ha : 0 ≤ a ∧ a < p) (hl : f.length ≤ 1000000) : Ev (fun k => fp_Eval.f k p f a) (hn p a f f.length 0) := by
  unfold fp_Eval.f
  rw [w64 (x := (f.length : Int) - 1) (by omega) (by omega)]
  exact fp_Eval_loop hp hf ha hl _ 0 (Nat.le_refl _) ⟨Int.le_refl _, hp.pos⟩
/-! ### derivatives -/
def dv_ (p : Int) (f : List Int) (j : Nat) : Int := ((((j : Int) + 1) % p) * co f (j + 1)) % p
def deriv (p : Int) (f : List Int) : List Int := ofF (f.length - 1) (dv_ p f)
theorem co_snoc {l : List Int} {n : Nat} (h : l.length = n) (x : Int) : co (l ++ [x]) n = x := by subst h; simp [co]
theorem deriv_step {p : Int} (hp : Mo p) {f : List Int} (hf : Val p f) {j : Nat} (hj : j ≤ 1000000) : Int.tmod (wrap64 ((Int.tmod ((j : Int) + 1) p) * (co f (j + 1)))) p = dv_ p f j := by
  rw [tmod_pos (a := (j : Int) + 1) (b := p) (by omega)]
  have b := mul_bd hp (mod_bd hp ((j : Int) + 1)) (hf.rng (j + 1))
  rw [w64 (by omega) (by omega), tmod_pos (by omega)]
  rfl
theorem deriv_next {p : Int} {f out : List Int} {j : Nat} (hl : out.length = j) (h : ∀ i, i < j → co out i = dv_ p f i) : ∀ i, i < j + 1 → co (out ++ [dv_ p f j]) i = dv_ p f i := fun i hi => by
  by_cases e : i = j
  · rw [e, co_snoc hl]
  · rw [co_append_left (by omega), h i (by omega)]
/-! ### compositions -/
def padd (p : Int) (f g : List Int) : List Int := ofF (max f.length g.length) fun j => (co f j + co g j) % p
/-- Horner's rule over the first i coefficients, the place taken by a polynomial. -/
def cmp_ (p : Int) (f g : List Int) : Nat → List Int → List Int
  | 0, v => v
  | i + 1, v => cmp_ p f g i (padd p (pmul p v g) (trimZ [co f i]))
theorem val_one {p : Int} {f : List Int} (hf : Val p f) (i : Nat) : Val p (trimZ [co f i]) := ⟨fun j => by
  rw [co_trimZ]
  cases j with
  | zero => exact hf.rng i
  | succ j => rw [co_succ, co_nil]; exact ⟨Int.le_refl _, by have := hf.rng i; omega⟩, tr_trimZ _⟩
theorem len_one (c : Int) : (trimZ [c]).length ≤ 1 := trimZ_len _
theorem val_padd {p : Int} (hp : 0 < p) (f g : List Int) : Val p (padd p f g) := val_ofF hp _ _
theorem padd_len (p : Int) (f g : List Int) : (padd p f g).length ≤ max f.length g.length := ofF_len _ _
theorem step_len (p : Int) (f g v : List Int) (i : Nat) : (padd p (pmul p v g) (trimZ [co f i])).length ≤ max (v.length + g.length - 1) 1 := by
  have := padd_len p (pmul p v g) (trimZ [co f i])
  have := pmul_len p v g
  have := len_one (co f i)
  omega
theorem Fx.top.add_small {p : Int} {f g : Fx p} {n : Nat} (hf : f.top n) (hg : g.bd n) : (f + g).top n :=
  ⟨hf.1.add (hg.mono (by omega)), by rw [Fx.add_c, hg n (Nat.le_refl _), Int.add_zero, f.ok]; exact hf.2⟩
theorem len_of_top {p : Int} {l : List Int} (h : Val p l) {n : Nat} (ht : (toF p l).top n) : l.length = n + 1 := by
  have h1 := len_of_bd' h ht.1
  have hne : l ≠ [] := fun e => ht.2 (by rw [e, toF_nil]; exact Fx.zero_c n)
  have h2 := (toF_top h hne).uniq ht
  have := List.length_pos_iff.2 hne
  omega
/-- A step with a divisor of degree b, 1 or more: the degree grows by b. -/
theorem step_exact {p : Int} (hp : MoP p) {f g v : List Int} (hg : Val p g) (hv : Val p v) {b : Nat} (hb : 1 ≤ b) (hgl : g.length = b + 1) (hv0 : v ≠ []) (hf : Val p f) (i : Nat) : (padd p (pmul p v g) (trimZ [co f i])).length = v.length + b := by
  have hvl := List.length_pos_iff.2 hv0
  have h1 := (toF_top hv hv0).mul hp.2 (toF_top hg (List.length_pos_iff.1 (by omega)))
  rw [← toF_mul] at h1
  have h2 := h1.add_small (g := toF p (trimZ [co f i])) ((toF_bd p _).mono (by have := len_one (co f i); omega))
  rw [← toF_add] at h2
  have := len_of_top (val_padd hp.1.pos _ _) h2
  omega
theorem cmp_val {p : Int} (hp : Mo p) {f g : List Int} : ∀ (i : Nat) (v : List Int), Val p v → Val p (cmp_ p f g i v) := by
  intro i
  induction i with
  | zero => intro v hv; exact hv
  | succ i ih => intro v hv; exact ih _ (val_padd hp.pos _ _)
theorem cmp_small {p : Int} {f g : List Int} (hg : g.length ≤ 1) : ∀ (i : Nat) (v : List Int), v.length ≤ 1 → (cmp_ p f g i v).length ≤ 1 := by
  intro i
  induction i with
  | zero => intro v hv; exact hv
  | succ i ih => intro v hv; exact ih _ (by have := step_len p f g v i; omega)
theorem cmp_exact {p : Int} (hp : MoP p) {f g : List Int} (hf : Val p f) (hg : Val p g) {b : Nat} (hb : 1 ≤ b) (hgl : g.length = b + 1) : ∀ (i : Nat) (v : List Int), v ≠ [] → Val p v → (cmp_ p f g i v).length = v.length + i * b := by
  intro i
  induction i with
  | zero => intro v _ hv; simp [cmp_]
  | succ i ih =>
    intro v hv0 hv
    have h := step_exact hp hg hv hb hgl hv0 hf i
    show (cmp_ p f g i _).length = _
    rw [ih _ (List.length_pos_iff.1 (by omega)) (val_padd hp.1.pos _ _), h, Nat.succ_mul]
    omega
/-- The composition's length. -/
theorem comp_len {p : Int} (hp : MoP p) {f g : List Int} (hf : Val p f) (hg : Val p g) : (f.length ≤ 1 ∨ g.length ≤ 1) ∧ (cmp_ p f g f.length []).length ≤ 1 ∨ 1 < f.length ∧ 1 < g.length ∧ (cmp_ p f g f.length []).length = (f.length - 1) * (g.length - 1) + 1 := by
  by_cases hg1 : g.length ≤ 1
  · exact .inl ⟨.inr hg1, cmp_small hg1 _ _ (by simp)⟩
  · by_cases hf0 : f = []
    · rw [hf0]; exact .inl ⟨.inl (by simp), by simp [cmp_]⟩
    · have hfl := List.length_pos_iff.2 hf0
      obtain ⟨n, hn⟩ : ∃ n, f.length = n + 1 := ⟨f.length - 1, by omega⟩
      have h1 : (cmp_ p f g (n + 1) []) = cmp_ p f g n (padd p (pmul p [] g) (trimZ [co f n])) := rfl
      have h0 : padd p (pmul p [] g) (trimZ [co f n]) = trimZ [co f n] := toF_inj (val_padd hp.1.pos _ _) (val_one hf n) (by
        show toF p (ofF _ _) = _
        rw [toF_add, toF_mul, toF_nil, CR.zero_mul, CR.zero_add])
      have hc : co f n ≠ 0 := by
        have := hf.tr.last hf0
        rwa [hn, Nat.add_sub_cancel] at this
      have ht : trimZ [co f n] = [co f n] := tr_of_last (.inr hc)
      have h2 := cmp_exact hp hf hg (b := g.length - 1) (by omega) (by omega) n [co f n] (by simp) (ht ▸ val_one hf n)
      rw [hn, h1, h0, ht]
      by_cases hn0 : n = 0
      · subst hn0
        exact .inl ⟨.inl (by omega), by simp [cmp_]⟩
      · refine .inr ⟨by omega, by omega, ?_⟩
        rw [h2]
        simp
        omega
theorem Compose_loop {p : Int} (hp : Mo p) {f g : List Int} (hf : Val p f) (hg : Val p g) (hfl : f.length ≤ 100) (hgl : g.length ≤ 100) : ∀ (i : Nat) (v : List Int), i ≤ f.length → Val p v → v.length + 100 * i ≤ 20000 → Ev (fun k => polymod_Compose.l0 k p f g v (f.length : Int) ((f.length : Int) - (i : Int))) (cmp_ p f g i v, 0) := by
  intro i
  induction i with
  | zero =>
    intro v _ _ _
    refine Ev.succ ?_
    simp only [polymod_Compose.l0]
    exact Ev.neg (by omega) (Ev.con rfl)
  | succ i ih =>
    intro v hi hv hvl
    refine Ev.succ ?_
    simp only [polymod_Compose.l0]
    have hM := fp_Mul_is hp hv hg (by omega) (by omega)
    have hml := pmul_len p v g
    have h1 := len_one (co f i)
    have hA := fp_Add_is hp (val_pmul hp.pos v g) (val_one hf i) (by omega) (by omega)
    have hrec := ih (padd p (pmul p v g) (trimZ [co f i])) (by omega) (val_padd hp.pos _ _) (by have := step_len p f g v i; omega)
    have hT : Ev (fun k => fp_Trim.f k [co f i]) (trimZ [co f i]) := Ev.con (trim_ev _ 0)
    have hsl := step_len p f g v i
    rw [w64 (x := (f.length : Int) - 1) (by omega) (by omega), w64 (x := (f.length : Int) - 1 - ((f.length : Int) - ((i + 1 : Nat) : Int))) (by omega) (by omega), w64 (x := (f.length : Int) - ((i + 1 : Nat) : Int) + 1) (by omega) (by omega),
      show (f.length : Int) - 1 - ((f.length : Int) - ((i + 1 : Nat) : Int)) = (i : Int) from by omega, show (f.length : Int) - ((i + 1 : Nat) : Int) + 1 = (f.length : Int) - (i : Int) from by omega, rd_co, Int.toNat_natCast]
    exact Ev.pos (by omega) (Ev.bind hM (Ev.pos (by omega) (Ev.pos (by omega) (Ev.bind hT (Ev.bind hA hrec)))))
theorem Compose_err {p : Int} {f g : List Int} (h : (if chk p f = 0 then chk p g else chk p f) ≠ 0) : Ev (fun k => polymod_Compose.f k p f g) ([], if chk p f = 0 then chk p g else chk p f) := by
  unfold polymod_Compose.f
  exact Ev.bind (first2_is p f g) (Ev.neg h (Ev.con rfl))
theorem Compose_is {p : Int} {f g : List Int} (h1 : chk p f = 0) (h2 : chk p g = 0) :
    ∃ x e, Ev (fun k => polymod_Compose.f k p f g) (x, e) ∧ ((65 < (cmp_ p f g f.length []).length ∧ x = [] ∧ e = 4) ∨ ((cmp_ p f g f.length []).length ≤ 65 ∧ x = cmp_ p f g f.length [] ∧ e = 0)) := by
  obtain ⟨hp, l1, v1⟩ := chk_zero h1
  obtain ⟨_, l2, v2⟩ := chk_zero h2
  have hl : Ev (fun k => polymod_Compose.l0 k p f g [] (f.length : Int) 0) (cmp_ p f g f.length [], 0) := by
    have := Compose_loop hp.1 v1 v2 (by omega) (by omega) f.length [] (Nat.le_refl _) (val_nil hp.1.pos) (by simp; omega)
    rwa [Int.sub_self] at this
  have hj : Ev (fun k => polymod_Compose.j0 k p f g false) (cmp_ p f g f.length [], 0) := by
    refine Ev.succ ?_
    simp only [polymod_Compose.j0]
    exact Ev.neg (by decide) hl
  unfold polymod_Compose.f
  have hfst : Ev (fun k => polymod_first.f k p [f, g]) 0 := Ev.eq (first2_is p f g) (by rw [if_pos h1, h2])
  rcases comp_len hp v1 v2 with ⟨hs, hlen⟩ | ⟨c1, c2, hlen⟩
  · refine ⟨_, _, Ev.bind hfst (Ev.pos rfl ?_), .inr ⟨by omega, rfl, rfl⟩⟩
    by_cases d1 : (f.length : Int) > 1
    · refine Ev.pos d1 (Ev.neg ?_ hj)
      rcases hs with hs | hs <;> omega
    · exact Ev.neg d1 hj
  · have hb1 : ((f.length : Int) - 1) * ((g.length : Int) - 1) = (((f.length - 1) * (g.length - 1) : Nat) : Int) := by
      rw [Int.natCast_mul, Int.natCast_sub (by omega), Int.natCast_sub (by omega)]; rfl
    have hb2 : (f.length - 1) * (g.length - 1) ≤ 64 * 64 := Nat.mul_le_mul (by omega) (by omega)
    have hw : wrap64 ((wrap64 ((f.length : Int) - 1)) * (wrap64 ((g.length : Int) - 1))) = (((f.length - 1) * (g.length - 1) : Nat) : Int) := by
      rw [w64 (x := (f.length : Int) - 1) (by omega) (by omega), w64 (x := (g.length : Int) - 1) (by omega) (by omega), hb1, w64 (by omega) (by omega)]
    by_cases hbig : (f.length - 1) * (g.length - 1) > 64
    · refine ⟨_, _, Ev.bind hfst (Ev.pos rfl (Ev.pos (by omega) (Ev.pos (by omega) ?_))), .inl ⟨by omega, rfl, rfl⟩⟩
      rw [hw, decide_eq_true (by omega)]
      refine Ev.succ ?_
      simp only [polymod_Compose.j0]
      exact Ev.pos (by trivial) (Ev.con rfl)
    · refine ⟨_, _, Ev.bind hfst (Ev.pos rfl (Ev.pos (by omega) (Ev.pos (by omega) ?_))), .inr ⟨by omega, rfl, rfl⟩⟩
      rw [hw, decide_eq_false (by omega)]
      exact hj
end Go.Proofs.Ytmknclgamadphaa.MPolymodFrobenius
