/- Inverses modulo a prime; division with remainder: what the printed functions compute, and that it is unique. -/
import Derived.Test.YtmknclgamadphaaA2PolymodPrimes
namespace Go.Proofs.Ytmknclgamadphaa.MPolymodPrimes
open Go.RowKit Go.Proofs.Ytmknclgamadphaa.PPolymodPrimes Go.Proofs.YtmknclgamadphaaW.PrintWords Go.Proofs.YtmknclgamadphaaW.PrintLast Go.Proofs.YtmknclgamadphaaW.PrintMore
set_option linter.unusedVariables false
set_option linter.unusedSimpArgs false

/-! ### identities -/
theorem id_divstep {R : Type} [CR R] (a b c d : R) : a * b + c = (a + d) * b + (c - d * b) := by
  have h := CR.solve [a, b, c, d] (.v 0 * .v 1 + .v 2) ((.v 0 + .v 3) * .v 1 + (.v 2 - .v 3 * .v 1)) (by decide +kernel)
  exact h
theorem id_divuniq {R : Type} [CR R] {q q' g r r' : R} (h : q * g + r = q' * g + r') : (q - q') * g = r' - r := by
  have h2 := CR.solve1 (l := [q, q', g, r, r']) h ((.v 0 - .v 1) * .v 2) (.v 4 - .v 3) (.v 0 * .v 2 + .v 3) (.v 1 * .v 2 + .v 4) (.neg .o) rfl rfl (by decide +kernel)
  exact h2
/-! ### inverses -/
structure IsInv (p a b : Int) : Prop where
  lo : 0 ≤ b
  hi : b < p
  eq : (a * b) % p = 1
theorem prime_dvd_mul {p a b : Int} (hp : Prime p) (h : (a * b) % p = 0) : a % p = 0 ∨ b % p = 0 := by
  -- the least positive multiple: by the ideal of all x with p | x * b
  by_cases hb : b % p = 0
  · exact .inr hb
  · left
    apply Classical.byContradiction
    intro ha
    have hp0 : 0 < p := by have := hp.1; omega
    -- the least x ≥ 1 with p ∣ x * b
    have key : ∀ n : Nat, 1 ≤ n → (n : Int) < p → ¬ p ∣ (n : Int) * b := by
      intro n
      induction n using Nat.strongRecOn with
      | _ n ih =>
        intro h1 h2 hdv
        by_cases e : n = 1
        · subst e
          rw [show ((1 : Nat) : Int) * b = b from by simp] at hdv
          exact hb (Int.emod_eq_zero_of_dvd hdv)
        · have hr := Int.emod_nonneg p (b := (n : Int)) (by omega)
          have hr2 := Int.emod_lt_of_pos p (b := (n : Int)) (by omega)
          have hr0 : p % (n : Int) ≠ 0 := fun hc => hp.2 n (by omega) h2 (Int.dvd_of_emod_eq_zero hc)
          have hpr : p ∣ (p % (n : Int)) * b := by
            have e2 : p % (n : Int) = p - (n : Int) * (p / (n : Int)) := by have := Int.emod_add_mul_ediv p n; omega
            rw [e2, Int.sub_mul]
            exact Int.dvd_sub (Int.dvd_mul_right _ _) (by rw [Int.mul_assoc, Int.mul_comm (p / (n : Int)), ← Int.mul_assoc]; exact Int.dvd_mul_of_dvd_left hdv)
          obtain ⟨r, hrr⟩ : ∃ r : Nat, (r : Int) = p % (n : Int) := ⟨(p % (n : Int)).toNat, by omega⟩
          rw [← hrr] at hpr hr2 hr0
          exact ih r (by omega) (by omega) (by omega) hpr
    have h3 := Int.emod_nonneg a (b := p) (by omega)
    have h4 := Int.emod_lt_of_pos a hp0
    obtain ⟨n, hn⟩ : ∃ n : Nat, (n : Int) = a % p := ⟨(a % p).toNat, by omega⟩
    refine key n (by omega) (by omega) ?_
    rw [hn]
    apply Int.dvd_of_emod_eq_zero
    rw [Int.mul_emod, Fx.emm, ← Int.mul_emod]; exact h
theorem inv_uniq {p a b c : Int} (hp : Prime p) (hb : IsInv p a b) (hc : IsInv p a c) : b = c := by
  have h1 : (a * (b - c)) % p = 0 := by rw [Int.mul_sub, Int.sub_emod, hb.eq, hc.eq]; simp
  rcases prime_dvd_mul hp h1 with h | h
  · have := hb.eq
    rw [Int.mul_emod, h] at this; simp at this
  · have h3 := Int.dvd_of_emod_eq_zero h
    have l1 := hb.lo; have l2 := hb.hi; have l3 := hc.lo; have l4 := hc.hi
    obtain ⟨q, hq⟩ := h3
    rcases Int.lt_or_le q 0 with h5 | h5
    · have : p * q ≤ p * (-1) := Int.mul_le_mul_of_nonneg_left (by omega) (by omega)
      omega
    · rcases Int.lt_or_le 0 q with h6 | h6
      · have : p * 1 ≤ p * q := Int.mul_le_mul_of_nonneg_left (by omega) (by omega)
        omega
      · have : q = 0 := by omega
        rw [this] at hq; omega
/-- Euclid's extended algorithm, within. -/
structure EI (p a x y s t : Int) : Prop where
  x0 : 0 < x
  y0 : 0 ≤ y
  yx : y < x
  xp : x ≤ p
  hs : ∃ u, s * a = x + u * p
  ht : ∃ u, t * a = y + u * p
  cd : ∀ d, d ∣ x → d ∣ y → d ∣ p ∧ d ∣ a
  bd : ∃ S T : Int, 0 ≤ S ∧ 0 ≤ T ∧ x * T + y * S = p ∧ ((s = -S ∧ t = T) ∨ (s = S ∧ t = -T))
theorem EI.start {p a : Int} (ha : 0 < a) (hap : a < p) : EI p a p a 0 1 where
  x0 := by omega
  y0 := by omega
  yx := hap
  xp := Int.le_refl _
  hs := ⟨-1, by omega⟩
  ht := ⟨0, by omega⟩
  cd d h1 h2 := ⟨h1, h2⟩
  bd := ⟨0, 1, by omega, by omega, by omega, .inl ⟨by omega, rfl⟩⟩
theorem EI.bounds {p a x y s t : Int} (h : EI p a x y s t) (hy : 0 < y) : -p ≤ s ∧ s ≤ p ∧ -p ≤ (x / y) * t ∧ (x / y) * t ≤ p ∧ 0 ≤ (x / y) * y ∧ (x / y) * y ≤ p ∧ 0 ≤ x / y ∧ x / y ≤ p := by
  obtain ⟨S, T, hS, hT, he, hst⟩ := h.bd
  have hx := h.x0; have hxp := h.xp
  have hq0 : 0 ≤ x / y := Int.ediv_nonneg (by omega) (by omega)
  have hqx : x / y ≤ x := by
    have := Int.ediv_le_self y (show 0 ≤ x by omega); exact this
  have hqy : (x / y) * y ≤ x := by
    have := Int.emod_add_mul_ediv x y
    have h2 := Int.emod_nonneg x (b := y) (by omega)
    rw [Int.mul_comm]; omega
  have hxT : 0 ≤ x * T := Int.mul_nonneg (by omega) hT
  have hyS : 0 ≤ y * S := Int.mul_nonneg (by omega) hS
  have hS1 : S ≤ y * S := by
    have : 1 * S ≤ y * S := Int.mul_le_mul_of_nonneg_right (by omega) hS
    omega
  have hqT : (x / y) * T ≤ x * T := Int.mul_le_mul_of_nonneg_right hqx hT
  have hqT0 : 0 ≤ (x / y) * T := Int.mul_nonneg hq0 hT
  have hqy0 : 0 ≤ (x / y) * y := Int.mul_nonneg hq0 (by omega)
  rcases hst with ⟨h1, h2⟩ | ⟨h1, h2⟩
  · rw [h1, h2]; exact ⟨by omega, by omega, by omega, by omega, by omega, by omega, by omega, by omega⟩
  · rw [h1, h2, Int.mul_neg]; exact ⟨by omega, by omega, by omega, by omega, by omega, by omega, by omega, by omega⟩
theorem EI.next {p a x y s t : Int} (h : EI p a x y s t) (hy : 0 < y) : EI p a y (x - x / y * y) t (s - x / y * t) := by
  have hr : x - x / y * y = x % y := by have := Int.emod_add_mul_ediv x y; rw [Int.mul_comm (x / y)]; omega
  have h0 := Int.emod_nonneg x (b := y) (by omega)
  have h1 := Int.emod_lt_of_pos x hy
  obtain ⟨S, T, hS, hT, he, hst⟩ := h.bd
  obtain ⟨u, hu⟩ := h.hs
  obtain ⟨w, hw⟩ := h.ht
  refine ⟨hy, by omega, by omega, by have := h.xp; have := h.yx; omega, ⟨w, hw⟩, ⟨u - x / y * w, ?_⟩, ?_, ⟨T, S + x / y * T, hT, ?_, ?_, ?_⟩⟩
  · rw [Int.sub_mul, hu, Int.mul_assoc, hw, Int.mul_add, Int.sub_mul, Int.mul_assoc]; omega
  · intro d h2 h3
    have : d ∣ x := by
      have h4 := Int.dvd_add h3 (Int.dvd_trans h2 (Int.dvd_mul_left (x / y) y))
      rwa [show x - x / y * y + x / y * y = x from by omega] at h4
    exact h.cd d this h2
  · have := Int.mul_nonneg (Int.ediv_nonneg (show 0 ≤ x by have := h.x0; omega) (show 0 ≤ y by omega)) hT; omega
  · rw [Int.mul_add, Int.sub_mul]
    have : y * (x / y * T) = x / y * y * T := by rw [← Int.mul_assoc, Int.mul_comm y]
    omega
  · rcases hst with ⟨h2, h3⟩ | ⟨h2, h3⟩
    · right; exact ⟨h3, by rw [h2, h3]; omega⟩
    · left; exact ⟨h3, by rw [h2, h3, Int.mul_neg]; omega⟩
theorem EI.done {p a x s t : Int} (hp : Prime p) (ha : 0 < a) (hap : a < p) (h : EI p a x 0 s t) : IsInv p a (s % p) := by
  have h2 : 2 ≤ p := hp.1
  obtain ⟨h3, h4⟩ := h.cd x (Int.dvd_refl x) (Int.dvd_zero x)
  have hx1 : x = 1 := by
    have h5 := h.x0
    have h6 : x ≤ a := Int.le_of_dvd ha h4
    rcases Int.lt_or_le x 2 with h7 | h7
    · omega
    · exact absurd h3 (hp.2 x h7 (by omega))
  obtain ⟨u, hu⟩ := h.hs
  refine ⟨Int.emod_nonneg _ (by omega), Int.emod_lt_of_pos _ (by omega), ?_⟩
  rw [Int.mul_emod, Fx.emm, ← Int.mul_emod, Int.mul_comm, hu, hx1, Int.add_mul_emod_self_right]
  exact Int.emod_eq_of_lt (by omega) (by omega)
theorem fp_Inv_loop {p a : Int} (hm : Mo p) (hp : Prime p) (ha : 0 < a) (hap : a < p) : ∀ (n : Nat) (x y s t : Int), y.toNat = n → EI p a x y s t → ∃ b, IsInv p a b ∧ Ev (fun k => fp_Inv.l0 k p x y s t) b := by
  intro n
  induction n using Nat.strongRecOn with
  | _ n ih =>
    intro x y s t hn h
    have := hm.hi
    by_cases hy : y > 0
    · obtain ⟨b1, b2, b3, b4, b5, b6, b7, b8⟩ := h.bounds hy
      have hnx := h.next hy
      have e0 : Int.tdiv x y = x / y := Int.tdiv_eq_ediv_of_nonneg (by have := h.x0; omega)
      obtain ⟨b, hb, he⟩ := ih _ (by have := hnx.y0; have := hnx.yx; omega) y _ t _ rfl hnx
      refine ⟨b, hb, Ev.succ ?_⟩
      simp only [fp_Inv.l0]
      refine Ev.pos hy (Ev.neg (by omega) ?_)
      have hxp := h.xp; have hx0 := h.x0
      rw [e0, w64 (x := x / y) (by omega) (by omega), w64 (x := x / y * y) (by omega) (by omega), w64 (x := x / y * t) (by omega) (by omega), w64 (x := x - x / y * y) (by omega) (by omega), w64 (x := s - x / y * t) (by omega) (by omega)]
      exact he
    · have hy0 : y = 0 := by have := h.y0; omega
      subst hy0
      refine ⟨s % p, h.done hp ha hap, Ev.succ ?_⟩
      simp only [fp_Inv.l0]
      exact Ev.neg hy (Ev.cbind (fp_Mod_is hm) (Ev.con rfl))
theorem fp_Inv_is {p a : Int} (hm : MoP p) (ha : 0 < a) (hap : a < p) : ∃ b, IsInv p a b ∧ Ev (fun k => fp_Inv.f k p a) b :=
  fp_Inv_loop hm.1 hm.2 ha hap _ _ _ _ _ rfl (EI.start ha hap)
theorem ref_Inv_loop {p a : Int} (hm : Mo p) (hp : Prime p) (ha : 0 < a) (hap : a < p) : ∀ (n : Nat) (x y s t : Int), y.toNat = n → EI p a x y s t → ∃ b, IsInv p a b ∧ Ev (fun k => galoisref04_Inverse.l0 k p x y s t) b := by
  intro n
  induction n using Nat.strongRecOn with
  | _ n ih =>
    intro x y s t hn h
    have := hm.hi
    by_cases hy : y > 0
    · obtain ⟨b1, b2, b3, b4, b5, b6, b7, b8⟩ := h.bounds hy
      have hnx := h.next hy
      have e0 : Int.tdiv x y = x / y := Int.tdiv_eq_ediv_of_nonneg (by have := h.x0; omega)
      obtain ⟨b, hb, he⟩ := ih _ (by have := hnx.y0; have := hnx.yx; omega) y _ t _ rfl hnx
      refine ⟨b, hb, Ev.succ ?_⟩
      simp only [galoisref04_Inverse.l0]
      refine Ev.pos hy (Ev.neg (by omega) ?_)
      have hxp := h.xp; have hx0 := h.x0
      rw [e0, w64 (x := x / y) (by omega) (by omega), w64 (x := x / y * y) (by omega) (by omega), w64 (x := x / y * t) (by omega) (by omega), w64 (x := x - x / y * y) (by omega) (by omega), w64 (x := s - x / y * t) (by omega) (by omega)]
      exact he
    · have hy0 : y = 0 := by have := h.y0; omega
      subst hy0
      refine ⟨s % p, h.done hp ha hap, Ev.succ ?_⟩
      simp only [galoisref04_Inverse.l0]
      exact Ev.neg hy (Ev.cbind (ref_Mod_is hm) (Ev.con rfl))
theorem ref_Inv_is {p a : Int} (hm : MoP p) (ha : 0 < a) (hap : a < p) : ∃ b, IsInv p a b ∧ Ev (fun k => galoisref04_Inverse.f k a p) b := by
  obtain ⟨b, hb, he⟩ := ref_Inv_loop hm.1 hm.2 ha hap _ _ _ _ _ rfl (EI.start ha hap)
  refine ⟨b, hb, Ev.cbind (ref_Mod_is hm.1) ?_⟩
  rw [Int.emod_eq_of_lt (by omega) hap]
  exact he
theorem exists_inv {p a : Int} (hp : Prime p) (ha : 0 < a) (hap : a < p) : ∃ b, IsInv p a b := by
  have : ∀ (n : Nat) (x y s t : Int), y.toNat = n → EI p a x y s t → ∃ b, IsInv p a b := by
    intro n
    induction n using Nat.strongRecOn with
    | _ n ih =>
      intro x y s t hn h
      by_cases hy : y > 0
      · have hnx := h.next hy
        exact ih _ (by have := hnx.y0; have := hnx.yx; omega) y _ t _ rfl hnx
      · have hy0 : y = 0 := by have := h.y0; omega
        subst hy0
        exact ⟨s % p, h.done hp ha hap⟩
  exact this _ _ _ _ _ rfl (EI.start ha hap)

/-! ### the highest coefficient -/
namespace Fx
variable {p : Int}
theorem rng (hp : 0 < p) (f : Fx p) (i : Nat) : 0 ≤ f.c i ∧ f.c i < p := by
  rw [← f.ok i]; exact ⟨Int.emod_nonneg _ (by omega), Int.emod_lt_of_pos _ hp⟩
/-- The degree: the place of the highest coefficient. -/
def top (f : Fx p) (a : Nat) : Prop := f.bd (a + 1) ∧ f.c a ≠ 0
theorem exists_top {f : Fx p} {n : Nat} (hb : f.bd n) (h : f ≠ 0) : ∃ a, a < n ∧ f.top a := by
  induction n with
  | zero => exact absurd (bd_0 hb) h
  | succ n ih =>
    by_cases e : f.c n = 0
    · obtain ⟨a, ha, ht⟩ := ih (fun i hi => by
        by_cases e2 : i = n
        · rw [e2]; exact e
        · exact hb i (by omega))
      exact ⟨a, by omega, ht⟩
    · exact ⟨n, by omega, hb, e⟩
theorem top.bd_iff {f : Fx p} {a n : Nat} (h : f.top a) : f.bd n ↔ a < n :=
  ⟨fun hb => Nat.lt_of_not_le fun hc => h.2 (hb a hc), fun hn => h.1.mono hn⟩
theorem top.uniq {f : Fx p} {a b : Nat} (h : f.top a) (k : f.top b) : a = b := by
  have h1 := (h.bd_iff (n := b + 1)).1 k.1
  have h2 := (k.bd_iff (n := a + 1)).1 h.1
  omega
theorem top.ne {f : Fx p} {a : Nat} (h : f.top a) : f ≠ 0 := fun e => h.2 (by rw [e]; exact zero_c a)
theorem top.mul (hp : Prime p) {f g : Fx p} {a b : Nat} (hf : f.top a) (hg : g.top b) : (f * g).top (a + b) := by
  refine ⟨hf.1.mul hg.1, fun h => ?_⟩
  rw [mul_top hf.1 hg.1] at h
  rcases prime_dvd_mul hp h with h | h
  · rw [f.ok] at h; exact hf.2 h
  · rw [g.ok] at h; exact hg.2 h
/-- No divisors of zero among the polynomials. -/
theorem mul_zero_iff (hp : Prime p) {f g : Fx p} {n k : Nat} (hf : f.bd n) (hg : g.bd k) (h : f * g = 0) : f = 0 ∨ g = 0 := by
  by_cases h1 : f = 0
  · exact .inl h1
  · by_cases h2 : g = 0
    · exact .inr h2
    · obtain ⟨a, _, ha⟩ := exists_top hf h1
      obtain ⟨b, _, hb⟩ := exists_top hg h2
      exact absurd h (ha.mul hp hb).ne
theorem mul_bd' {f g : Fx p} {n k : Nat} (hf : f.bd n) (hg : g.bd k) : (f * g).bd (n + k) := by
  cases n with
  | zero => rw [bd_0 hf, CR.zero_mul]; exact bd_zero _
  | succ n =>
    cases k with
    | zero => rw [bd_0 hg, CR.mul_0]; exact bd_zero _
    | succ k => exact (hf.mul hg).mono (by omega)
end Fx
theorem toF_top {p : Int} {l : List Int} (h : Val p l) (hne : l ≠ []) : (toF p l).top (l.length - 1) := by
  have hl := List.length_pos_iff.2 hne
  refine ⟨(toF_bd p l).mono (by omega), ?_⟩
  rw [toF_c h]; exact h.tr.last hne
theorem len_of_bd {p : Int} {l : List Int} (h : Val p l) {n : Nat} (hb : (toF p l).bd n) : l.length ≤ n :=
  h.tr.len_le fun i hi => by rw [← toF_c h i]; exact hb i hi
/-- Every polynomial is that of a list. -/
theorem exists_list {p : Int} (hp : 0 < p) {f : Fx p} {n : Nat} (hb : f.bd n) : ∃ l, Val p l ∧ l.length ≤ n ∧ toF p l = f :=
  ⟨ofF n fun i => f.c i % p, val_ofF hp _ _, ofF_len _ _, by rw [toF_ofF (fun i hi => by rw [hb i hi]; simp), Fx.of_self]⟩

/-! ### division with remainder -/
/-- q and r are the quotient and the remainder of f by g. -/
structure DM (p : Int) (f g q r : List Int) : Prop where
  vq : Val p q
  vr : Val p r
  eq : toF p f = toF p q * toF p g + toF p r
  lt : r.length < g.length
theorem Fx.div_uniq {p : Int} (hp : Prime p) {q r q' r' g : Fx p} {a n n' : Nat} (hg : g.top a) (hq : q.bd n) (hq' : q'.bd n') (hr : r.bd a) (hr' : r'.bd a) (h : q * g + r = q' * g + r') : q = q' ∧ r = r' := by
  have h1 : (q - q') * g = r' - r := id_divuniq h
  have hbd : (q - q').bd (max n n') := (hq.mono (by omega)).sub (hq'.mono (by omega))
  by_cases h2 : q - q' = 0
  · have e := CR.sub_eq_zero h2
    refine ⟨e, ?_⟩
    rw [h2, CR.zero_mul] at h1
    exact (CR.sub_eq_zero h1.symm).symm
  · obtain ⟨b, _, hb⟩ := exists_top hbd h2
    have ht := hb.mul hp hg
    rw [h1] at ht
    have := (ht.bd_iff (n := a)).1 (hr'.sub hr)
    omega
theorem DM.uniq {p : Int} (hp : Prime p) {f g q r q' r' : List Int} (hg : Val p g) (h : DM p f g q r) (h' : DM p f g q' r') : q = q' ∧ r = r' := by
  have hne : g ≠ [] := fun e => by have := h.lt; rw [e] at this; simp at this
  have hl := List.length_pos_iff.2 hne
  obtain ⟨e1, e2⟩ := Fx.div_uniq hp (toF_top hg hne) (toF_bd p q) (toF_bd p q') ((toF_bd p r).mono (by have := h.lt; omega)) ((toF_bd p r').mono (by have := h'.lt; omega)) (h.eq.symm.trans h'.eq)
  exact ⟨toF_inj h.vq h'.vq e1, toF_inj h.vr h'.vr e2⟩
/-- The state of the division: what is left, and the quotient so far, at place k. -/
structure DS (p : Int) (f g rest quo : List Int) (L Q k : Nat) : Prop where
  lr : rest.length = L
  lq : quo.length = Q
  rr : ∀ i, 0 ≤ co rest i ∧ co rest i < p
  rq : ∀ i, 0 ≤ co quo i ∧ co quo i < p
  zr : ∀ i, k + g.length ≤ i + 1 → co rest i = 0
  zq : ∀ i, i < k → co quo i = 0
  eq : toF p f = toF p quo * toF p g + toF p rest
/-- One place done: the coefficient c of the quotient at place k, c times g taken away from there on. -/
theorem DS.step {p : Int} (hp : MoP p) {f g rest quo : List Int} {L Q k : Nat} (hg : Val p g) (hne : g ≠ []) (h : DS p f g rest quo L Q (k + 1)) (hk : k < Q) (hL : k + g.length ≤ L) {b : Int} (hb : IsInv p (co g (g.length - 1)) b) {out : List Int} (ho : out.length = L)
    (hout : ∀ i, co out i = if k ≤ i ∧ i < k + g.length then (co rest i - (co rest (k + g.length - 1) * b) % p * co g (i - k)) % p else co rest i) :
    DS p f g out (quo.set k ((co rest (k + g.length - 1) * b) % p)) L Q k := by
  have hp0 := hp.1.pos
  have hl := List.length_pos_iff.2 hne
  generalize hc : (co rest (k + g.length - 1) * b) % p = c at *
  have hc0 := mod_bd hp.1 (co rest (k + g.length - 1) * b)
  rw [hc] at hc0
  have hlead : ((co rest (k + g.length - 1) - c * co g (g.length - 1)) % p) = 0 := by
    rw [← hc, Int.sub_emod, Int.mul_emod, Fx.emm, ← Int.mul_emod, Int.mul_assoc, Int.mul_comm b, Int.mul_emod (co rest (k + g.length - 1)), hb.eq, Int.mul_one, Fx.emm, Int.sub_self]; rfl
  have hob : ∀ i, co out i % p = (co rest i - (if k ≤ i then c * co g (i - k) else 0)) % p := by
    intro i
    rw [hout i]
    by_cases h1 : k ≤ i
    · by_cases h2 : i < k + g.length
      · rw [if_pos ⟨h1, h2⟩, if_pos h1, Fx.emm]
      · rw [if_neg (fun hh => h2 hh.2), if_pos h1, co_ge (l := g) (by omega)]; simp
    · rw [if_neg (fun hh => h1 hh.1), if_neg h1]; simp
  refine ⟨ho, by rw [List.length_set]; exact h.lq, ?_, ?_, ?_, ?_, ?_⟩
  · intro i
    rw [hout i]
    split
    · exact mod_bd hp.1 _
    · exact h.rr i
  · intro i
    rw [co_set]
    split
    · exact hc0
    · exact h.rq i
  · intro i hi
    rw [hout i]
    by_cases h1 : i = k + g.length - 1
    · rw [if_pos (by omega), h1, show k + g.length - 1 - k = g.length - 1 from by omega]; exact hlead
    · rw [if_neg (by omega)]; exact h.zr i (by omega)
  · intro i hi
    rw [co_set, if_neg (by omega)]; exact h.zq i (by omega)
  · have e1 : toF p (quo.set k c) = toF p quo + Fx.mono p c k := Fx.ext fun i => by
      rw [Fx.add_c, Fx.mono_c]
      show co (quo.set k c) i % p = (co quo i % p + _) % p
      rw [co_set, Int.emod_add_emod, Int.add_emod_emod]
      by_cases e : k = i
      · rw [if_pos ⟨e, by rw [h.lq]; exact hk⟩, if_pos e.symm, ← e, h.zq k (by omega), Int.zero_add]
      · rw [if_neg (fun hh => e hh.1), if_neg (fun hh => e hh.symm), Int.add_zero]
    have e2 : toF p out = toF p rest - Fx.mono p c k * toF p g := Fx.ext fun i => by
      rw [Fx.sub_c, Fx.mono_mul]
      show co out i % p = (co rest i % p - _ % p) % p
      rw [hob i, ← Int.sub_emod]
      rw [Int.sub_emod, Int.sub_emod (co rest i) (if k ≤ i then c * (toF p g).c (i - k) else 0)]
      congr 2
      by_cases h1 : k ≤ i
      · rw [if_pos h1, if_pos h1, toF_c hg]
      · rw [if_neg h1, if_neg h1]
    rw [e1, e2, h.eq]
    exact id_divstep _ _ _ _
theorem DS.done {p : Int} (hp : MoP p) {f g rest quo : List Int} {L Q : Nat} (hne : g ≠ []) (h : DS p f g rest quo L Q 0) {r : List Int} (hr : ∀ i, co r i = co rest i) : DM p f g (trimZ quo) (trimZ r) := by
  have hl := List.length_pos_iff.2 hne
  have hv : ∀ l : List Int, (∀ i, 0 ≤ co l i ∧ co l i < p) → Val p (trimZ l) := fun l hl => ⟨fun i => by rw [co_trimZ]; exact hl i, tr_trimZ l⟩
  have ht : ∀ l : List Int, toF p (trimZ l) = toF p l := fun l => Fx.ext fun i => by show co (trimZ l) i % p = co l i % p; rw [co_trimZ]
  have hvr := hv r (fun i => by rw [hr i]; exact h.rr i)
  refine ⟨hv _ h.rq, hvr, ?_, ?_⟩
  · rw [ht, ht, h.eq]
    congr 1
    exact Fx.ext fun i => by show co rest i % p = co r i % p; rw [hr i]
  · have := (tr_trimZ r).len_le (n := g.length - 1) (fun i hi => by rw [co_trimZ, hr i]; exact h.zr i (by omega))
    omega
theorem DS.start {p : Int} (hp : MoP p) {f g : List Int} (hf : Val p f) {Q : Nat} (hQ : f.length < Q + g.length) (n : Nat) (hn : n = Q) : DS p f g f (List.replicate n 0) f.length Q Q where
  lr := rfl
  lq := by simp [hn]
  rr := hf.rng
  rq i := by rw [co_replicate]; exact ⟨Int.le_refl _, hp.1.pos⟩
  zr i hi := co_ge (by omega)
  zq i _ := co_replicate _ _
  eq := by
    have : toF p (List.replicate n 0) = 0 := Fx.ext fun i => by show co (List.replicate n 0) i % p = _; rw [co_replicate, Fx.zero_c]; simp
    rw [this, CR.zero_mul, CR.zero_add]
theorem Val.mem {p : Int} {g : List Int} (hg : Val p g) (hne : g ≠ []) : 0 < co g (g.length - 1) ∧ co g (g.length - 1) < p := by
  have h1 := hg.rng (g.length - 1)
  have h2 := hg.tr.last hne
  omega
theorem fp_DivMod_row {p : Int} (hm : Mo p) {g rest quo : List Int} (hg : Val p g) {L : Nat} (hL : L ≤ 100000) (hgl : g.length ≤ 100000) {inv c : Int} (hc : 0 ≤ c ∧ c < p) {k : Nat} (hkl : k + g.length ≤ L) (hrr : ∀ i, 0 ≤ co rest i ∧ co rest i < p) {res : List Int × List Int}
    (next : ∀ out : List Int, out.length = L → (∀ i, co out i = if k ≤ i ∧ i < k + g.length then (co rest i - c * co g (i - k)) % p else co rest i) → Ev (fun m => fp_DivMod.l0 m p g out (g.length : Int) quo inv ((k : Int) - 1)) res) :
    ∀ (d j : Nat) (out : List Int), j + d = g.length → out.length = L → (∀ i, co out i = if k ≤ i ∧ i < k + j then (co rest i - c * co g (i - k)) % p else co rest i) →
    Ev (fun m => fp_DivMod.l1 m p g out (g.length : Int) quo inv (k : Int) c g (g.length : Int) (j : Int)) res := by
  intro d
  induction d with
  | zero =>
    intro j out hj hl h
    refine Ev.succ ?_
    simp only [fp_DivMod.l1]
    refine Ev.neg (by omega) ?_
    rw [w64 (by omega) (by omega)]
    have : j = g.length := by omega
    subst this
    exact next out hl h
  | succ d ih =>
    intro j out hj hl h
    refine Ev.succ ?_
    simp only [fp_DivMod.l1]
    have := hm.hi
    have b1 := mul_bd hm hc (hg.rng j)
    have b2 := hrr (k + j)
    rw [w64 (x := (k : Int) + j) (by omega) (by omega), rd_co, rd_co, show ((k : Int) + (j : Int)).toNat = k + j from by omega, Int.toNat_natCast]
    have e : co out (k + j) = co rest (k + j) := by rw [h (k + j), if_neg (by omega)]
    rw [e, w64 (x := c * co g j) (by omega) (by omega), w64 (x := co rest (k + j) - c * co g j) (by omega) (by omega), w64 (x := (j : Int) + 1) (by omega) (by omega)]
    refine Ev.pos (by omega) (Ev.pos (by omega) (Ev.pos (by omega) (Ev.pos (by omega) (Ev.pos (by omega) (Ev.cbind (fp_Mod_is hm) ?_)))))
    refine ih (j + 1) _ (by omega) (by rw [List.length_set]; exact hl) (fun i => ?_)
    rw [co_set]
    by_cases e1 : k + j = i
    · rw [if_pos ⟨e1, by omega⟩, if_pos (by omega), ← e1, show k + j - k = j from by omega]
    · rw [if_neg (fun hh => e1 hh.1), h i]
      by_cases e2 : k ≤ i ∧ i < k + j
      · rw [if_pos e2, if_pos (by omega)]
      · rw [if_neg e2, if_neg (by omega)]
theorem fp_DivMod_rows {p : Int} (hp : MoP p) {f g : List Int} (hg : Val p g) (hne : g ≠ []) (hfl : f.length ≤ 100000) (hgl : g.length ≤ 100000) {b : Int} (hb : IsInv p (co g (g.length - 1)) b) {L Q : Nat} (hLQ : L + 1 = Q + g.length) (hL : L ≤ 100000) :
    ∀ (k : Nat) (rest quo : List Int), k ≤ Q → DS p f g rest quo L Q k → ∃ q r, Ev (fun m => fp_DivMod.l0 m p g rest (g.length : Int) quo b ((k : Int) - 1)) (q, r) ∧ DM p f g q r := by
  have hl := List.length_pos_iff.2 hne
  intro k
  induction k with
  | zero =>
    intro rest quo hk h
    have hlr := h.lr
    refine ⟨trimZ quo, trimZ (rest.take (g.length - 1)), Ev.succ ?_, h.done hp hne (fun i => ?_)⟩
    · simp only [fp_DivMod.l0]
      refine Ev.neg (by omega) (Ev.bind (Ev.con (trim_ev _ 0)) ?_)
      rw [w64 (x := (g.length : Int) - 1) (by omega) (by omega)]
      refine Ev.pos (by omega) (Ev.pos (by omega) (Ev.bind (Ev.con (trim_ev _ 0)) (Ev.con ?_)))
      rw [show ((g.length : Int) - 1).toNat = g.length - 1 from by omega]
    · rw [co_take]
      by_cases hi : i < g.length - 1
      · rw [if_pos hi]
      · rw [if_neg hi, h.zr i (by omega)]
  | succ k ih =>
    intro rest quo hk h
    have hlr := h.lr
    have hlq := h.lq
    have hm := hp.1
    have := hm.hi
    have hc := mod_bd hm (co rest (k + g.length - 1) * b)
    have b1 := mul_bd hm (h.rr (k + g.length - 1)) ⟨hb.lo, hb.hi⟩
    have key : ∃ q r, DM p f g q r ∧ Ev (fun m => fp_DivMod.l1 m p g rest (g.length : Int) (quo.set k ((co rest (k + g.length - 1) * b) % p)) b (k : Int) ((co rest (k + g.length - 1) * b) % p) g (g.length : Int) 0) (q, r) := by
      have hall : ∀ out : List Int, out.length = L → (∀ i, co out i = if k ≤ i ∧ i < k + g.length then (co rest i - (co rest (k + g.length - 1) * b) % p * co g (i - k)) % p else co rest i) → DS p f g out (quo.set k ((co rest (k + g.length - 1) * b) % p)) L Q k :=
        fun out h1 h2 => h.step hp hg hne (by omega) (by omega) hb h1 h2
      -- the row that results is one list
      obtain ⟨out, h1, h2⟩ : ∃ out : List Int, out.length = L ∧ ∀ i, co out i = if k ≤ i ∧ i < k + g.length then (co rest i - (co rest (k + g.length - 1) * b) % p * co g (i - k)) % p else co rest i :=
        ⟨tab L fun i => if k ≤ i ∧ i < k + g.length then (co rest i - (co rest (k + g.length - 1) * b) % p * co g (i - k)) % p else co rest i, tab_length _ _, fun i => by
          rw [co_tab]
          by_cases hi : i < L
          · rw [if_pos hi]
          · rw [if_neg hi, if_neg (by omega), co_ge (by omega)]⟩
      obtain ⟨q, r, he, hdm⟩ := ih out _ (by omega) (hall out h1 h2)
      refine ⟨q, r, hdm, ?_⟩
      refine fp_DivMod_row hm hg hL hgl hc (by omega) h.rr (fun out2 h3 h4 => ?_) g.length 0 rest (by omega) hlr (fun i => by rw [if_neg (by omega)])
      have : out2 = out := List.ext_getElem (by omega) (fun i h5 h6 => by
        have := (h4 i).trans (h2 i).symm
        simpa [co, h5, h6] using this)
      rw [this]; exact he
    obtain ⟨q, r, hdm, he⟩ := key
    refine ⟨q, r, Ev.succ ?_, hdm⟩
    simp only [fp_DivMod.l0]
    rw [show ((k + 1 : Nat) : Int) - 1 = (k : Int) from by omega, w64 (x := (k : Int) + g.length) (by omega) (by omega), w64 (x := (k : Int) + g.length - 1) (by omega) (by omega), rd_co, show ((k : Int) + (g.length : Int) - 1).toNat = k + g.length - 1 from by omega, w64 (x := co rest (k + g.length - 1) * b) (by omega) (by omega), tmod_pos (by omega), Int.toNat_natCast]
    exact Ev.pos (by omega) (Ev.pos (by omega) (Ev.pos (by omega) (Ev.neg (by have := hm.lo; omega) (Ev.pos (by omega) (Ev.pos (by omega) he)))))
theorem fp_DivMod_is {p : Int} (hp : MoP p) {f g : List Int} (hf : Val p f) (hg : Val p g) (hne : g ≠ []) (hfl : f.length ≤ 100000) (hgl : g.length ≤ 100000) :
    ∃ q r, Ev (fun m => fp_DivMod.f m p f g) (q, r) ∧ DM p f g q r := by
  have hl := List.length_pos_iff.2 hne
  have hm := hp.1
  by_cases hlt : f.length < g.length
  · refine ⟨[], f, ?_, val_nil hm.pos, hf, ?_, hlt⟩
    · simp only [fp_DivMod.f, Option.bind_some, List.length_nil, List.nil_append]
      exact Ev.pos (by omega) (Ev.pos (by omega) (Ev.con rfl))
    · rw [toF_nil, CR.zero_mul, CR.zero_add]
  · have hmem := hg.mem hne
    obtain ⟨b, hb, hbe⟩ := fp_Inv_is hp hmem.1 hmem.2
    obtain ⟨q, r, he, hdm⟩ := fp_DivMod_rows hp hg hne hfl hgl hb (L := f.length) (Q := f.length + 1 - g.length) (by omega) hfl (f.length + 1 - g.length) f _ (Nat.le_refl _) (DS.start hp hf (by omega) _ rfl)
    refine ⟨q, r, ?_, hdm⟩
    simp only [fp_DivMod.f, Option.bind_some, List.length_nil, List.nil_append]
    rw [w64 (x := (f.length : Int) - g.length) (by omega) (by omega), w64 (x := (f.length : Int) - g.length + 1) (by omega) (by omega), w64 (x := (g.length : Int) - 1) (by omega) (by omega), rd_co, show ((g.length : Int) - 1).toNat = g.length - 1 from by omega, show ((f.length : Int) - (g.length : Int) + 1).toNat = f.length + 1 - g.length from by omega]
    refine Ev.pos (by omega) (Ev.neg (by omega) (Ev.pos (by omega) (Ev.pos (by omega) (Ev.pos (by omega) (Ev.pos (by omega) (Ev.bind hbe ?_))))))
    rw [show ((f.length + 1 - g.length : Nat) : Int) - 1 = (f.length : Int) - g.length from by omega] at he
    exact he
theorem fp_Rem_is {p : Int} (hp : MoP p) {f g : List Int} (hf : Val p f) (hg : Val p g) (hne : g ≠ []) (hfl : f.length ≤ 100000) (hgl : g.length ≤ 100000) :
    ∃ q r, Ev (fun m => fp_Rem.f m p f g) r ∧ DM p f g q r := by
  obtain ⟨q, r, he, hd⟩ := fp_DivMod_is hp hf hg hne hfl hgl
  exact ⟨q, r, Ev.bind he (Ev.con rfl), hd⟩
end Go.Proofs.Ytmknclgamadphaa.MPolymodPrimes
