/- Residues modulo an irreducible polynomial have no divisors of zero; so few of them are roots; so x is its own p^k-th power exactly for the multiples k of the degree; so the two tests of irreducibility are right. No program in sight. -/
import Derived.Test.YtmknclgamadphaaA8PolymodPrimes
namespace Go.Proofs.Ytmknclgamadphaa.MPolymodPrimes
set_option linter.unusedVariables false
set_option linter.unusedSimpArgs false
theorem exists_min {P : Nat → Prop} (h : ∃ n, P n) : ∃ n, P n ∧ ∀ m, m < n → ¬ P m := by
  obtain ⟨n, hn⟩ := h
  induction n using Nat.strongRecOn with
  | _ n ih =>
    by_cases c : ∃ m, m < n ∧ P m
    · obtain ⟨m, hm, hp⟩ := c; exact ih m hm hp
    · exact ⟨n, hn, fun m hm hp => c ⟨m, hm, hp⟩⟩
theorem id_evsplit {R : Type} [CR R] (c t r Q v : R) : c + t * ((t - r) * Q + v) = (t - r) * (v + t * Q) + (c + r * v) := by
  have h := CR.solve [c, t, r, Q, v] (.v 0 + .v 1 * ((.v 1 - .v 2) * .v 3 + .v 4)) ((.v 1 - .v 2) * (.v 4 + .v 1 * .v 3) + (.v 0 + .v 2 * .v 4)) (by decide +kernel)
  exact h
theorem id_evone {R : Type} [CR R] (c t r : R) : c + t * 0 = (t - r) * 0 + (c + r * 0) := by rw [CR.mul_0, CR.mul_0, CR.mul_0, CR.zero_add]
theorem id_evpow {R : Type} [CR R] (t w : R) : 0 + t * (-1 + t * w) = w * t * t - t := by
  have h := CR.solve [t, w] (.z + .v 0 * (.neg .o + .v 0 * .v 1)) (.v 1 * .v 0 * .v 0 - .v 0) (by decide +kernel)
  exact h
namespace CR
variable {R : Type} [CR R]
/-- The value of a polynomial. -/
def ev (t : R) : List R → R
  | [] => 0
  | c :: l => c + t * ev t l
theorem ev_split (r : R) : ∀ cs : List R, ∃ qs : List R, qs.length = cs.length - 1 ∧ (∀ t, ev t cs = (t - r) * ev t qs + ev r cs) ∧ (ev r cs = 0 → (∀ q ∈ qs, q = 0) → ∀ c ∈ cs, c = 0) := by
  intro cs
  induction cs with
  | nil => exact ⟨[], rfl, fun t => by show (0 : R) = (t - r) * 0 + 0; rw [mul_0, add_0], fun _ _ c hc => by cases hc⟩
  | cons c l ih =>
    cases l with
    | nil =>
      refine ⟨[], rfl, fun t => id_evone c t r, fun h _ x hx => ?_⟩
      have h : c + r * 0 = 0 := h
      rw [mul_0, add_0] at h
      rw [List.mem_singleton.1 hx, h]
    | cons d l =>
      obtain ⟨qs, q1, q2, q3⟩ := ih
      refine ⟨ev r (d :: l) :: qs, by rw [List.length_cons, q1]; simp, fun t => ?_, fun h hq x hx => ?_⟩
      · show c + t * ev t (d :: l) = (t - r) * (ev r (d :: l) + t * ev t qs) + (c + r * ev r (d :: l))
        rw [q2 t]
        exact id_evsplit _ _ _ _ _
      · have h1 : ev r (d :: l) = 0 := hq _ (by simp)
        have h : c + r * ev r (d :: l) = 0 := h
        rw [h1, mul_0, add_0] at h
        rcases List.mem_cons.1 hx with e | e
        · rw [e, h]
        · exact q3 h1 (fun q hq' => hq q (by simp [hq'])) x e
/-- A polynomial with as many roots as coefficients is zero. -/
theorem roots (dom : ∀ a b : R, a * b = 0 → a = 0 ∨ b = 0) : ∀ (N : Nat) (cs : List R) (r : Nat → R), cs.length ≤ N → (∀ i j, i < j → j < N → r i ≠ r j) → (∀ i, i < N → ev (r i) cs = 0) → ∀ c ∈ cs, c = 0 := by
  intro N
  induction N with
  | zero => intro cs r hl _ _ c hc; rw [List.length_eq_zero_iff.1 (Nat.le_zero.1 hl)] at hc; cases hc
  | succ N ih =>
    intro cs r hl hd hr
    obtain ⟨qs, q1, q2, q3⟩ := ev_split (r N) cs
    refine q3 (hr N (by omega)) (ih qs r (by omega) (fun i j hi hj => hd i j hi (by omega)) fun i hi => ?_)
    have h := q2 (r i)
    rw [hr i (by omega), hr N (by omega), add_0] at h
    rcases dom _ _ h.symm with e | e
    · exact absurd (sub_eq_zero e) (hd i N hi (by omega))
    · exact e
theorem ev_zeros (t : R) (n : Nat) : ev t (List.replicate n 0 ++ [1]) = pw t n := by
  induction n with
  | zero => show (1 : R) + t * 0 = 1; rw [mul_0, add_0]
  | succ n ih => show (0 : R) + t * ev t (List.replicate n 0 ++ [1]) = pw t n * t; rw [ih, zero_add, mul_comm]
/-- Not more than N residues are their own N-th powers. -/
theorem pw_roots (dom : ∀ a b : R, a * b = 0 → a = 0 ∨ b = 0) (h1 : (1 : R) ≠ 0) {N : Nat} (hN : 2 ≤ N) (r : Nat → R) (hd : ∀ i j, i < j → j < N + 1 → r i ≠ r j) (h : ∀ i, i < N + 1 → pw (r i) N = r i) : False := by
  refine h1 (roots dom (N + 1) (0 :: -1 :: (List.replicate (N - 2) 0 ++ [1])) r (by simp; omega) hd (fun i hi => ?_) 1 (by simp))
  show 0 + r i * (-1 + r i * ev (r i) (List.replicate (N - 2) 0 ++ [1])) = 0
  rw [ev_zeros, id_evpow]
  have e : pw (r i) (N - 2) * r i * r i = pw (r i) N := by
    show pw (r i) (N - 2 + 1 + 1) = _
    rw [show N - 2 + 1 + 1 = N from by omega]
  rw [e, h i hi, sub_self]
theorem pw_zero {n : Nat} (h : 0 < n) : pw (0 : R) n = 0 := by
  obtain ⟨m, rfl⟩ : ∃ m, n = m + 1 := ⟨n - 1, by omega⟩
  exact mul_0 _
theorem pw_dom (dom : ∀ a b : R, a * b = 0 → a = 0 ∨ b = 0) (h1 : (1 : R) ≠ 0) {a : R} : ∀ n : Nat, pw a n = 0 → a = 0 := by
  intro n
  induction n with
  | zero => intro h; exact absurd h h1
  | succ n ih => intro h; exact (dom _ _ h).elim ih id
end CR
/-! ### digits -/
theorem dig_inj {n : Nat} (hn : 0 < n) : ∀ (d m k : Nat), m < n ^ d → k < n ^ d → (∀ i, i < d → m / n ^ i % n = k / n ^ i % n) → m = k := by
  intro d
  induction d with
  | zero => intro m k hm hk _; rw [Nat.pow_zero] at hm hk; omega
  | succ d ih =>
    intro m k hm hk h
    have h0 := h 0 (by omega)
    rw [Nat.pow_zero, Nat.div_one, Nat.div_one] at h0
    rw [Nat.pow_succ, Nat.mul_comm] at hm hk
    have h1 := ih (m / n) (k / n) (Nat.div_lt_of_lt_mul hm) (Nat.div_lt_of_lt_mul hk) fun i hi => by
      have := h (i + 1) (by omega)
      rwa [Nat.pow_succ, Nat.mul_comm, ← Nat.div_div_eq_div_mul, ← Nat.div_div_eq_div_mul] at this
    rw [← Nat.div_add_mod m n, ← Nat.div_add_mod k n, h0, h1]
namespace Fx
variable {p : Int}
/-! ### irreducible polynomials -/
theorem div_ex (hp : Prime p) {g : Fx p} {a : Nat} (hg : g.top a) : ∀ (n : Nat) (f : Fx p), f.bd n → ∃ q r : Fx p, Po q ∧ r.bd a ∧ f = q * g + r := by
  intro n
  induction n with
  | zero => intro f hf; exact ⟨0, 0, ⟨0, bd_zero 0⟩, bd_zero a, by rw [bd_0 hf, CR.zero_mul, CR.add_0]⟩
  | succ n ih =>
    intro f hf
    by_cases hna : n < a
    · exact ⟨0, f, ⟨0, bd_zero 0⟩, hf.mono (by omega), by rw [CR.zero_mul, CR.zero_add]⟩
    · have h2 := hp.1
      have hr := rng (by omega) g a
      have hne := hg.2
      obtain ⟨b, hb⟩ := exists_inv hp (a := g.c a) (by omega) hr.2
      obtain ⟨q, r, hq, hrb, e⟩ := ih (f - mono p (f.c n * b) (n - a) * g) (fun i hi => by
        rw [sub_c, mono_mul, if_pos (by omega)]
        by_cases hin : i = n
        · rw [hin, show n - (n - a) = a from by omega, Int.mul_assoc, Int.mul_comm b, Int.sub_emod, emm, ← Int.sub_emod]
          have h3 : f.c n - f.c n * (g.c a * b) = f.c n * (1 - g.c a * b) := by rw [Int.mul_sub, Int.mul_one]
          rw [h3, Int.mul_emod, Int.sub_emod, hb.eq, Int.emod_eq_of_lt (a := 1) (by omega) (by omega), Int.sub_self, Int.zero_emod, Int.mul_zero, Int.zero_emod]
        · rw [hf i (by omega), hg.1 (i - (n - a)) (by omega)]; simp)
      refine ⟨q + mono p (f.c n * b) (n - a), r, hq.add (po_mono _ _), hrb, ?_⟩
      rw [CR.add_mul, CR.add_assoc, CR.add_comm (mono p (f.c n * b) (n - a) * g), ← CR.add_assoc, ← e, CR.sub_def, CR.add_assoc, CR.neg_add', CR.add_0]
structure Irr (h : Fx p) (d : Nat) : Prop where
  top : h.top d
  pos : 1 ≤ d
  irr : ∀ g k, Dvd g h → g.top k → k = 0 ∨ k = d
theorem const_of {s : Fx p} (h : s.bd 1) : s = mono p (s.c 0) 0 := ext fun i => by
  rw [mono_c]
  by_cases hi : i = 0
  · rw [if_pos hi, hi, s.ok]
  · rw [if_neg hi, h i (by omega)]; simp
/-- A nonzero constant divides everything. -/
theorem unit_cancel (hp : Prime p) {s b h : Fx p} (hs : s.top 0) (hd : Dvd h (s * b)) : Dvd h b := by
  have h2 := hp.1
  have hr := rng (by omega) s 0
  have hne := hs.2
  obtain ⟨c, hc⟩ := exists_inv hp (a := s.c 0) (by omega) hr.2
  have e : mono p c 0 * (s * b) = b := by
    rw [← CR.mul_assoc, const_of hs.1, mono_inv (by rw [Int.mul_comm, hc.eq, Int.emod_eq_of_lt (by omega) (by omega)]), CR.one_mul]
  have := hd.mul (mono_bd c 0)
  rwa [e] at this
theorem id_domrem {R : Type} [CR R] {a q h r b : R} (e : a = q * h + r) : r * b = a * b - (q * b) * h := by
  rw [e]
  have h := CR.solve [q, h, r, b] (.v 2 * .v 3) ((.v 0 * .v 1 + .v 2) * .v 3 - .v 0 * .v 3 * .v 1) (by decide +kernel)
  exact h
theorem id_domrem2 {R : Type} [CR R] {h q s r b : R} (e : h = q * s + r) : r * b = b * h - q * (s * b) := by
  rw [e]
  have h := CR.solve [q, s, r, b] (.v 2 * .v 3) (.v 3 * (.v 0 * .v 1 + .v 2) - .v 0 * (.v 1 * .v 3)) (by decide +kernel)
  exact h
theorem Irr.dvd (hp : Prime p) {h : Fx p} {d : Nat} (hh : Irr h d) {a b : Fx p} (ha : Po a) (hb : Po b) (hab : Dvd h (a * b)) : Dvd h a ∨ Dvd h b := by
  by_cases hc : Dvd h a
  · exact .inl hc
  right
  obtain ⟨na, hna⟩ := ha
  obtain ⟨nb, hnb⟩ := hb
  have step : ∀ r : Fx p, ∀ k, r.bd k → r ≠ 0 → Dvd h (r * b) → ∃ j, j < k ∧ ∃ s : Fx p, Dvd h (s * b) ∧ s.top j := fun r k hk hr hd => by
    obtain ⟨j, hj, ht⟩ := exists_top hk hr
    exact ⟨j, hj, r, hd, ht⟩
  obtain ⟨q, r, ⟨nq, hq⟩, hr, e⟩ := div_ex hp hh.top na a hna
  have hr0 : r ≠ 0 := fun e0 => hc ⟨q, nq, hq, by rw [e, e0, CR.add_0]⟩
  obtain ⟨j, hj, hsj⟩ := step r d hr hr0 (by rw [id_domrem e]; exact hab.sub (Dvd.self_mul h (mul_bd' hq hnb)))
  obtain ⟨k, ⟨s, hs, ht⟩, hmin⟩ := exists_min (P := fun k => ∃ s : Fx p, Dvd h (s * b) ∧ s.top k) ⟨j, hsj⟩
  have hkj : k ≤ j := Nat.le_of_not_lt fun hlt => hmin j hlt hsj
  obtain ⟨q', r', ⟨nq', hq'⟩, hr', e'⟩ := div_ex hp ht (d + 1) h hh.top.1
  have hr0' : r' = 0 := Classical.byContradiction fun h0 => by
    obtain ⟨i, hi, hsi⟩ := step r' k hr' h0 (by rw [id_domrem2 e']; exact ((Dvd.refl h).mul hnb).sub (hs.mul hq'))
    exact hmin i hi hsi
  rw [hr0', CR.add_0] at e'
  rcases hh.irr s k ⟨q', nq', hq', e'⟩ ht with h0 | h0
  · subst h0
    exact unit_cancel hp ht hs
  · omega
/-! ### the residues modulo h -/
def stK (h : Fx p) : Setoid {f : Fx p // Po f} where
  r a b := Cg h a.1 b.1
  iseqv := ⟨fun a => Cg.refl a.2, fun h => h.symm, fun h k => h.trans k⟩
def Kx (h : Fx p) : Type := Quotient (stK h)
def Kx.mk (h : Fx p) (f : Fx p) (hf : Po f) : Kx h := Quotient.mk (stK h) ⟨f, hf⟩
theorem mk_eq {h f g : Fx p} {hf : Po f} {hg : Po g} : Kx.mk h f hf = Kx.mk h g hg ↔ Cg h f g :=
  ⟨fun e => Quotient.exact (s := stK h) e, fun e => Quotient.sound (s := stK h) e⟩
theorem mk_of {h f g : Fx p} {hf : Po f} {hg : Po g} (e : f = g) : Kx.mk h f hf = Kx.mk h g hg := by subst e; rfl
theorem po_neg {f : Fx p} : Po f → Po (-f) := fun ⟨n, h⟩ => ⟨n, h.neg⟩
theorem Kx.ind {h : Fx p} {P : Kx h → Prop} (H : ∀ f hf, P (Kx.mk h f hf)) (a : Kx h) : P a := Quotient.ind (s := stK h) (fun x => H x.1 x.2) a
theorem id_cgneg {R : Type} [CR R] (a b : R) : -a - -b = -(a - b) := by
  have h := CR.solve [a, b] (.neg (.v 0) - .neg (.v 1)) (.neg (.v 0 - .v 1)) (by decide +kernel)
  exact h
instance (h : Fx p) : CR (Kx h) where
  add := Quotient.lift₂ (s₁ := stK h) (s₂ := stK h) (fun a b => Kx.mk h (a.1 + b.1) (a.2.add b.2)) fun _ _ _ _ h1 h2 => mk_eq.2 (Cg.add h1 h2)
  mul := Quotient.lift₂ (s₁ := stK h) (s₂ := stK h) (fun a b => Kx.mk h (a.1 * b.1) (a.2.mul b.2)) fun _ _ _ _ h1 h2 => mk_eq.2 (Cg.mul h1 h2)
  neg := Quotient.lift (s := stK h) (fun a => Kx.mk h (-a.1) (po_neg a.2)) fun a b h1 => mk_eq.2 ⟨po_neg a.2, po_neg b.2, by rw [id_cgneg]; exact (Cg.dv h1).neg⟩
  zero := Kx.mk h 0 ⟨0, bd_zero 0⟩
  one := Kx.mk h 1 po_one
  add_assoc := Kx.ind fun a ha => Kx.ind fun b hb => Kx.ind fun c hc => mk_of (CR.add_assoc a b c)
  add_comm := Kx.ind fun a ha => Kx.ind fun b hb => mk_of (CR.add_comm a b)
  add_zero := Kx.ind fun a ha => mk_of (CR.add_0 a)
  add_neg := Kx.ind fun a ha => mk_of (CR.add_neg' a)
  mul_assoc := Kx.ind fun a ha => Kx.ind fun b hb => Kx.ind fun c hc => mk_of (CR.mul_assoc a b c)
  mul_comm := Kx.ind fun a ha => Kx.ind fun b hb => mk_of (CR.mul_comm a b)
  mul_one := Kx.ind fun a ha => mk_of (CR.mul_1 a)
  mul_add := Kx.ind fun a ha => Kx.ind fun b hb => Kx.ind fun c hc => mk_of (CR.mul_add a b c)
theorem mk_add {h f g : Fx p} (hf : Po f) (hg : Po g) : Kx.mk h f hf + Kx.mk h g hg = Kx.mk h (f + g) (hf.add hg) := rfl
theorem mk_mul {h f g : Fx p} (hf : Po f) (hg : Po g) : Kx.mk h f hf * Kx.mk h g hg = Kx.mk h (f * g) (hf.mul hg) := rfl
theorem mk_pw {h f : Fx p} (hf : Po f) (n : Nat) : CR.pw (Kx.mk h f hf) n = Kx.mk h (CR.pw f n) (hf.pw n) := by
  induction n with
  | zero => rfl
  | succ n ih => show CR.pw (Kx.mk h f hf) n * Kx.mk h f hf = _; rw [ih]; rfl
theorem sub_zero' {R : Type} [CR R] (a : R) : a - 0 = a := by rw [CR.sub_def, CR.neg_zero, CR.add_0]
theorem mk_zero {h f : Fx p} {hf : Po f} : Kx.mk h f hf = 0 ↔ Dvd h f :=
  ⟨fun e => by have := (mk_eq.1 (show Kx.mk h f hf = Kx.mk h 0 ⟨0, bd_zero 0⟩ from e)).dv; rwa [sub_zero'] at this,
   fun e => show Kx.mk h f hf = Kx.mk h 0 ⟨0, bd_zero 0⟩ from mk_eq.2 ⟨hf, ⟨0, bd_zero 0⟩, by rwa [sub_zero']⟩⟩
theorem Irr.dom (hp : Prime p) {h : Fx p} {d : Nat} (hh : Irr h d) : ∀ a b : Kx h, a * b = 0 → a = 0 ∨ b = 0 := Kx.ind fun a ha => Kx.ind fun b hb e =>
  (hh.dvd hp ha hb (mk_zero.1 e)).imp mk_zero.2 mk_zero.2
theorem Irr.small (hp : Prime p) {h : Fx p} {d : Nat} (hh : Irr h d) {f : Fx p} (hf : f.bd d) (hd : Dvd h f) : f = 0 := Classical.byContradiction fun hne => by
  obtain ⟨k, hk, ht⟩ := exists_top hf hne
  have := hd.le hp hh.top ht
  omega
theorem Irr.one (hp : Prime p) {h : Fx p} {d : Nat} (hh : Irr h d) : (1 : Kx h) ≠ 0 := fun e => by
  have h1 := hh.small hp (bd_one.mono hh.pos) (mk_zero.1 (show Kx.mk h 1 po_one = 0 from e))
  have h2 : (1 : Fx p).c 0 = (0 : Fx p).c 0 := by rw [h1]
  have h3 := hp.1
  rw [one_c, zero_c, if_pos rfl, Int.emod_eq_of_lt (by omega) (by omega)] at h2
  omega
/-! ### powers by p^k -/
def fr (n k : Nat) {R : Type} [CR R] (a : R) : R := CR.pw a (n ^ k)
theorem fr_zero {R : Type} [CR R] (n : Nat) (a : R) : fr n 0 a = a := CR.one_mul a
theorem fr_fr {R : Type} [CR R] (n i j : Nat) (a : R) : fr n (i + j) a = fr n j (fr n i a) := by
  unfold fr
  rw [CR.pw_pw, Nat.pow_add]
theorem fr_mul {R : Type} [CR R] (n k : Nat) (a b : R) : fr n k (a * b) = fr n k a * fr n k b := CR.pw_mul a b _
theorem pwK_sum (hp : Prime p) {n : Nat} (hn : (n : Int) = p) {h : Fx p} : ∀ a b : Kx h, CR.pw (a + b) n = CR.pw a n + CR.pw b n := Kx.ind fun a ha => Kx.ind fun b hb => by
  rw [mk_add, mk_pw, mk_pw, mk_pw, mk_add]
  exact mk_of (pw_sum hp hn a b)
theorem fr_add (hp : Prime p) {n : Nat} (hn : (n : Int) = p) {h : Fx p} (k : Nat) : ∀ a b : Kx h, fr n k (a + b) = fr n k a + fr n k b := by
  induction k with
  | zero => intro a b; rw [fr_zero, fr_zero, fr_zero]
  | succ k ih =>
    intro a b
    rw [fr_fr, fr_fr, fr_fr, ih]
    unfold fr
    rw [Nat.pow_one]
    exact pwK_sum hp hn _ _
theorem fr_of_zero {R : Type} [CR R] {n : Nat} (hn : 0 < n) (k : Nat) : fr n k (0 : R) = 0 := CR.pw_zero (Nat.pow_pos hn)
/-- A constant among the residues. -/
def kap (h : Fx p) (c : Int) : Kx h := Kx.mk h (mono p c 0) (po_mono c 0)
def xi (h : Fx p) : Kx h := Kx.mk h (mono p 1 1) (po_mono 1 1)
theorem fr_kap (hp : Prime p) {n : Nat} (hn : (n : Int) = p) {h : Fx p} {c : Int} (hc : 0 ≤ c) (k : Nat) : fr n k (kap h c) = kap h c := by
  induction k with
  | zero => exact fr_zero n _
  | succ k ih =>
    rw [fr_fr, ih]
    unfold fr kap
    rw [Nat.pow_one, mk_pw]
    refine mk_of ?_
    have := pw_const hp hn c.toNat
    rwa [Int.toNat_of_nonneg hc] at this
theorem toF_cons (c : Int) (l : List Int) : toF p (c :: l) = mono p c 0 + mono p 1 1 * toF p l := ext fun j => by
  rw [add_c, mono_c, mono_mul, Int.emod_add_emod, Int.add_emod_emod]
  show co (c :: l) j % p = _
  cases j with
  | zero => rw [if_pos rfl, if_neg (by omega), Int.add_zero]; rfl
  | succ j =>
    rw [if_neg (by omega), if_pos (by omega), Int.zero_add, Int.one_mul]
    show _ = (co l (j + 1 - 1) % p) % p
    rw [emm, Nat.add_sub_cancel]; rfl
theorem mk_toF (h : Fx p) : ∀ l : List Int, Kx.mk h (toF p l) (po_toF l) = CR.ev (xi h) (l.map (kap h)) := by
  intro l
  induction l with
  | nil => exact mk_of (toF_nil p)
  | cons c l ih =>
    show _ = kap h c + xi h * CR.ev (xi h) (l.map (kap h))
    rw [← ih]
    exact mk_of (toF_cons c l)
theorem fr_ev (hp : Prime p) {n : Nat} (hn : (n : Int) = p) {h : Fx p} (k : Nat) (t : Kx h) : ∀ l : List Int, (∀ c ∈ l, 0 ≤ c) → fr n k (CR.ev t (l.map (kap h))) = CR.ev (fr n k t) (l.map (kap h)) := by
  have h2 := hp.1
  intro l
  induction l with
  | nil => intro _; exact fr_of_zero (by omega) k
  | cons c l ih =>
    intro hl
    show fr n k (kap h c + t * CR.ev t (l.map (kap h))) = kap h c + fr n k t * CR.ev (fr n k t) (l.map (kap h))
    rw [fr_add hp hn, fr_mul, ih fun x hx => hl x (by simp [hx]), fr_kap hp hn (hl c (by simp))]
theorem mem_co {l : List Int} {c : Int} (h : c ∈ l) : ∃ i, i < l.length ∧ co l i = c := by
  obtain ⟨i, hi, e⟩ := List.mem_iff_getElem.1 h
  exact ⟨i, hi, by simp [co, hi, e]⟩
theorem val_nonneg {l : List Int} (h : Val p l) : ∀ c ∈ l, 0 ≤ c := fun c hc => by
  obtain ⟨i, _, e⟩ := mem_co hc
  rw [← e]; exact (h.rng i).1
theorem fr_inj (hp : Prime p) {n : Nat} (hn : (n : Int) = p) {h : Fx p} {d : Nat} (hh : Irr h d) (k : Nat) {a b : Kx h} (e : fr n k a = fr n k b) : a = b := by
  have h1 : fr n k (a - b) + fr n k b = fr n k b := by
    rw [← fr_add hp hn, CR.sub_def, CR.add_assoc, CR.neg_add', CR.add_0, e]
  have h2 : fr n k (a - b) = 0 := CR.add_cancel (c := fr n k b) (by rw [h1, CR.zero_add])
  exact CR.sub_eq_zero (CR.pw_dom (hh.dom hp) (hh.one hp) _ h2)
/-- x is its own p^r-th power for some r from 1 to the degree: its powers are roots of h. -/
theorem ord_le (hp : Prime p) {n : Nat} (hn : (n : Int) = p) {h : Fx p} {d : Nat} (hh : Irr h d) : ∃ r, 1 ≤ r ∧ r ≤ d ∧ fr n r (xi h) = xi h := by
  have h2 := hp.1
  refine Classical.byContradiction fun hno => ?_
  obtain ⟨l, hl, hlen, hle⟩ := exists_list (by omega) hh.top.1
  have htop : co l d ≠ 0 := by rw [← toF_c hl, hle]; exact hh.top.2
  have hdl : d < l.length := Nat.lt_of_not_le fun hc => htop (co_ge hc)
  have hz : CR.ev (xi h) (l.map (kap h)) = 0 := by
    rw [← mk_toF]
    exact mk_zero.2 (by rw [hle]; exact Dvd.refl h)
  have hall := CR.roots (hh.dom hp) (d + 1) (l.map (kap h)) (fun i => fr n i (xi h)) (by simp; exact hlen) (fun i j hij hj e => hno ⟨j - i, by omega, by omega, by
    have e : fr n i (xi h) = fr n j (xi h) := e
    rw [show j = (j - i) + i from by omega, fr_fr] at e
    have := fr_inj hp hn hh i e
    exact this.symm⟩) (fun i hi => by
      show CR.ev (fr n i (xi h)) _ = 0
      rw [← fr_ev hp hn i (xi h) l (val_nonneg hl), hz, fr_of_zero (by omega)])
  have h3 : kap h (co l d) = 0 := hall _ (List.mem_map.2 ⟨co l d, co_mem hdl, rfl⟩)
  have h4 := hh.small hp ((mono_bd (co l d) 0).mono hh.pos) (mk_zero.1 h3)
  have h5 : (mono p (co l d) 0).c 0 = (0 : Fx p).c 0 := by rw [h4]
  rw [mono_c, zero_c, if_pos rfl, ← toF_c hl, (toF p l).ok] at h5
  exact htop (by rw [← toF_c hl]; exact h5)
/-- .. and not for one below the degree: all p^d residues would be roots of t^(p^r) - t. -/
theorem ord_ge (hp : Prime p) {n : Nat} (hn : (n : Int) = p) {h : Fx p} {d : Nat} (hh : Irr h d) {r : Nat} (hr : 1 ≤ r) (e : fr n r (xi h) = xi h) : d ≤ r := by
  have h2 := hp.1
  refine Nat.le_of_not_lt fun hlt => ?_
  have hall : ∀ a : Kx h, fr n r a = a := Kx.ind fun f hf => by
    obtain ⟨m, hm⟩ := id hf
    obtain ⟨l, hl, _, hle⟩ := exists_list (by omega) hm
    subst hle
    have e1 : Kx.mk h (toF p l) hf = CR.ev (xi h) (l.map (kap h)) := mk_toF h l
    rw [e1, fr_ev hp hn r _ l (val_nonneg hl), e]
  have hlt2 : n ^ r < n ^ d := Nat.pow_lt_pow_right (by omega) hlt
  let D : Nat → Fx p := fun m => of p fun i => if i < d then ((m / n ^ i % n : Nat) : Int) else 0
  have hD : ∀ m, (D m).bd d := fun m i hi => by
    show (if i < d then ((m / n ^ i % n : Nat) : Int) else 0) % p = 0
    rw [if_neg (by omega), Int.zero_emod]
  refine CR.pw_roots (hh.dom hp) (hh.one hp) (N := n ^ r) ?_ (fun m => Kx.mk h (D m) ⟨d, hD m⟩) (fun i j hij hj he => ?_) (fun i _ => hall _)
  · have := Nat.pow_le_pow_right (n := n) (by omega) hr
    rw [Nat.pow_one] at this
    omega
  · have h3 := Cg.eq hp hh.top (mk_eq.1 he) (hD i) (hD j)
    have h4 := dig_inj (n := n) (by omega) d i j (by omega) (by omega) fun k hk => by
      have h5 : (D i).c k = (D j).c k := by rw [h3]
      have h5 : (if k < d then ((i / n ^ k % n : Nat) : Int) else 0) % p = (if k < d then ((j / n ^ k % n : Nat) : Int) else 0) % p := h5
      have b1 := Nat.mod_lt (i / n ^ k) (show n > 0 by omega)
      have b2 := Nat.mod_lt (j / n ^ k) (show n > 0 by omega)
      rw [if_pos hk, if_pos hk, Int.emod_eq_of_lt (by omega) (by omega), Int.emod_eq_of_lt (by omega) (by omega)] at h5
      omega
    omega
theorem ord_is (hp : Prime p) {n : Nat} (hn : (n : Int) = p) {h : Fx p} {d : Nat} (hh : Irr h d) (k : Nat) : fr n k (xi h) = xi h ↔ d ∣ k := by
  obtain ⟨r, h1, h2, h3⟩ := ord_le hp hn hh
  have h4 := ord_ge hp hn hh h1 h3
  obtain rfl : r = d := by omega
  have hq : ∀ q, fr n (r * q) (xi h) = xi h := by
    intro q
    induction q with
    | zero => exact fr_zero n _
    | succ q ih => rw [Nat.mul_succ, fr_fr, ih, h3]
  constructor
  · intro e
    have e2 : fr n (k % r) (xi h) = xi h := by
      rw [← Nat.div_add_mod k r, fr_fr, hq] at e
      exact e
    by_cases h0 : k % r = 0
    · exact Nat.dvd_of_mod_eq_zero h0
    · have := ord_ge hp hn hh (by omega) e2
      have := Nat.mod_lt k (show r > 0 by omega)
      omega
  · rintro ⟨q, rfl⟩
    exact hq q
/-- x^(p^k). -/
def xk (p : Int) (n k : Nat) : Fx p := CR.pw (mono p 1 1) (n ^ k)
theorem po_xk (n k : Nat) : Po (xk p n k) := (po_mono 1 1).pw _
theorem Irr.ord (hp : Prime p) {n : Nat} (hn : (n : Int) = p) {h : Fx p} {d : Nat} (hh : Irr h d) (k : Nat) : Dvd h (xk p n k - mono p 1 1) ↔ d ∣ k := by
  rw [← ord_is hp hn hh k]
  unfold fr xi
  rw [mk_pw, mk_eq]
  exact ⟨fun e => ⟨po_xk n k, po_mono 1 1, e⟩, fun e => e.dv⟩
/-- An irreducible divisor of the least degree. -/
theorem exists_irr (hp : Prime p) {F : Fx p} {m : Nat} (hF : F.top m) (hm : 1 ≤ m) : ∃ h d, Irr h d ∧ Dvd h F ∧ ∀ g k, Dvd g F → g.top k → 1 ≤ k → d ≤ k := by
  obtain ⟨d, ⟨h1, h, hd, ht⟩, hmin⟩ := exists_min (P := fun k => 1 ≤ k ∧ ∃ g : Fx p, Dvd g F ∧ g.top k) ⟨m, hm, F, Dvd.refl F, hF⟩
  have hle : ∀ g k, Dvd g F → g.top k → 1 ≤ k → d ≤ k := fun g k hg hk h1 => Nat.le_of_not_lt fun hlt => hmin k hlt ⟨h1, g, hg, hk⟩
  refine ⟨h, d, ⟨ht, h1, fun g k hg hk => ?_⟩, hd, hle⟩
  have := hg.le hp hk ht
  by_cases hk0 : k = 0
  · exact .inl hk0
  · exact .inr (by have := hle g k (hg.trans hd) hk (by omega); omega)
/-- No common divisor of degree 1 or more. -/
def Cop (F G : Fx p) : Prop := ∀ e k, Dvd e F → Dvd e G → e.top k → k = 0
theorem Irr.cop (hp : Prime p) {n : Nat} (hn : (n : Int) = p) {F : Fx p} {m : Nat} (hF : Irr F m) {i : Nat} (h1 : 1 ≤ i) (hi : i < m) : Cop F (xk p n i - mono p 1 1) := fun e k he hg ht => by
  rcases hF.irr e k he ht with h | h
  · exact h
  · exfalso
    subst h
    -- e has the degree of F, so F divides what e divides
    have hFe : Dvd F e := by
      obtain ⟨q, nq, hq, e1⟩ := he
      have hq0 : q ≠ 0 := fun e2 => hF.top.ne (by rw [e1, e2, CR.zero_mul])
      obtain ⟨a, _, ha⟩ := exists_top hq hq0
      have := (ha.mul hp ht).uniq (by rw [← e1]; exact hF.top)
      obtain rfl : a = 0 := by omega
      exact unit_cancel hp ha (by rw [← e1]; exact Dvd.refl F)
    have := (hF.ord hp hn i).1 (hFe.trans hg)
    have := Nat.le_of_dvd (by omega) this
    omega
theorem irr_of_not (hp : Prime p) {F : Fx p} {m : Nat} (hF : F.top m) (hm : 1 ≤ m) (h : ¬ Irr F m) : ∃ h d, Irr h d ∧ Dvd h F ∧ 2 * d ≤ m := by
  obtain ⟨g, d, hg, hd, hmin⟩ := exists_irr hp hF hm
  refine ⟨g, d, hg, hd, ?_⟩
  have : ∃ e k, Dvd e F ∧ e.top k ∧ k ≠ 0 ∧ k ≠ m := Classical.byContradiction fun hno => h ⟨hF, hm, fun e k he hk => by
    by_cases h0 : k = 0
    · exact .inl h0
    · by_cases h1 : k = m
      · exact .inr h1
      · exact absurd ⟨e, k, he, hk, h0, h1⟩ hno⟩
  obtain ⟨e, k, he, hk, h0, h1⟩ := this
  have hd1 := hmin e k he hk (by omega)
  have hkm := he.le hp hk hF
  obtain ⟨q, nq, hq, e1⟩ := he
  have hq0 : q ≠ 0 := fun e2 => hF.ne (by rw [e1, e2, CR.zero_mul])
  obtain ⟨a, _, ha⟩ := exists_top hq hq0
  have := (ha.mul hp hk).uniq (by rw [← e1]; exact hF)
  obtain ⟨ne, hne⟩ : Po e := ⟨_, hk.1⟩
  have := hmin q a ⟨e, ne, hne, by rw [CR.mul_comm]; exact e1⟩ ha (by omega)
  omega
/-- Rabin's test. -/
theorem rabin (hp : Prime p) {n : Nat} (hn : (n : Int) = p) {F : Fx p} {m : Nat} (hF : F.top m) (hm : 1 ≤ m) : Irr F m ↔ (∀ i, 1 ≤ i → i < m → i ∣ m → Cop F (xk p n i - mono p 1 1)) ∧ Dvd F (xk p n m - mono p 1 1) := by
  constructor
  · intro h
    exact ⟨fun i h1 h2 _ => h.cop hp hn h1 h2, (h.ord hp hn m).2 (Nat.dvd_refl m)⟩
  · intro ⟨h1, h2⟩
    refine Classical.byContradiction fun hno => ?_
    obtain ⟨g, d, hg, hd, h3⟩ := irr_of_not hp hF hm hno
    have h4 := (hg.ord hp hn m).1 (hd.trans h2)
    have hdp := hg.pos
    have := h1 d hdp (by omega) h4 g d hd ((hg.ord hp hn d).2 (Nat.dvd_refl d)) hg.top
    omega
/-- The reference's test. -/
theorem reftest (hp : Prime p) {n : Nat} (hn : (n : Int) = p) {F : Fx p} {m : Nat} (hF : F.top m) (hm : 1 ≤ m) : Irr F m ↔ ∀ i, 1 ≤ i → 2 * i ≤ m → Cop F (xk p n i - mono p 1 1) := by
  constructor
  · intro h i h1 h2
    exact h.cop hp hn h1 (by omega)
  · intro h1
    refine Classical.byContradiction fun hno => ?_
    obtain ⟨g, d, hg, hd, h3⟩ := irr_of_not hp hF hm hno
    have hdp := hg.pos
    have := h1 d hdp h3 g d hd ((hg.ord hp hn d).2 (Nat.dvd_refl d)) hg.top
    omega
end Fx
end Go.Proofs.Ytmknclgamadphaa.MPolymodPrimes
