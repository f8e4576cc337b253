/- Divisors; the greatest common divisor by the program, and its two factors. -/
import Derived.Test.YtmknclgamadphaaA3PolymodPrimes
namespace Go.Proofs.Ytmknclgamadphaa.MPolymodPrimes
open Go.RowKit Go.Proofs.Ytmknclgamadphaa.PPolymodPrimes Go.Proofs.YtmknclgamadphaaW.PrintWords Go.Proofs.YtmknclgamadphaaW.PrintLast Go.Proofs.YtmknclgamadphaaW.PrintMore
set_option linter.unusedVariables false
set_option linter.unusedSimpArgs false

/-! ### identities -/
theorem id_dvadd {R : Type} [CR R] (q q' g : R) : q * g + q' * g = (q + q') * g := (CR.add_mul q q' g).symm
theorem id_rem {R : Type} [CR R] {f q g r : R} (h : f = q * g + r) : r = f - q * g := by
  have h2 := CR.solve1 (l := [f, q, g, r]) h (.v 3) (.v 0 - .v 1 * .v 2) (.v 0) (.v 1 * .v 2 + .v 3) .o rfl rfl (by decide +kernel)
  exact h2
theorem id_xstep {R : Type} [CR R] {a b r q s t u v F G : R} (h1 : a = s * F + u * G) (h2 : b = t * F + v * G) (h3 : a = q * b + r) : r = (s - q * t) * F + (u - q * v) * G := by
  rw [id_rem h3, h1, h2]
  have h := CR.solve [s, t, u, v, q, F, G] (.v 0 * .v 5 + .v 2 * .v 6 - .v 4 * (.v 1 * .v 5 + .v 3 * .v 6)) ((.v 0 - .v 4 * .v 1) * .v 5 + (.v 2 - .v 4 * .v 3) * .v 6) (by decide +kernel)
  exact h
theorem id_xdone {R : Type} [CR R] {a c s s1 u k part F G d f' : R} (h1 : a = s * F + u * G) (h2 : c * s = k * part + s1) (h3 : d = c * a) (h4 : F = f' * d) (h5 : G = part * d) : d - s1 * F = (k * f' + c * u) * G := by
  have e1 : d = (k * part + s1) * F + c * u * G := by
    rw [h3, h1, ← h2]
    have h := CR.solve [s, F, u, G, c] (.v 4 * (.v 0 * .v 1 + .v 2 * .v 3)) (.v 4 * .v 0 * .v 1 + .v 4 * .v 2 * .v 3) (by decide +kernel)
    exact h
  have e2 : part * F = f' * G := by
    have e0 : part * F = part * (f' * d) := congrArg (part * ·) h4
    rw [e0, h5]
    have h := CR.solve [part, f', d] (.v 0 * (.v 1 * .v 2)) (.v 1 * (.v 0 * .v 2)) (by decide +kernel)
    exact h
  have e3 : (k * part + s1) * F + c * u * G - s1 * F = k * (part * F) + c * u * G := by
    have h := CR.solve [k, part, s1, F, c, u, G] ((.v 0 * .v 1 + .v 2) * .v 3 + .v 4 * .v 5 * .v 6 - .v 2 * .v 3) (.v 0 * (.v 1 * .v 3) + .v 4 * .v 5 * .v 6) (by decide +kernel)
    exact h
  have e4 : d - s1 * F = (k * part + s1) * F + c * u * G - s1 * F := congrArg (· - s1 * F) e1
  rw [e4, e3, e2]
  have h := CR.solve [k, f', G, c, u] (.v 0 * (.v 1 * .v 2) + .v 3 * .v 4 * .v 2) ((.v 0 * .v 1 + .v 3 * .v 4) * .v 2) (by decide +kernel)
  exact h
theorem id_back {R : Type} [CR R] {d x y : R} (h : d - x = y) : x + y = d := by
  rw [← h]
  have h := CR.solve [d, x] (.v 1 + (.v 0 - .v 1)) (.v 0) (by decide +kernel)
  exact h

/-! ### divisors -/
namespace Fx
variable {p : Int}
theorem Dvd.refl (f : Fx p) : Dvd f f := ⟨1, 1, bd_one, (CR.one_mul f).symm⟩
theorem Dvd.zero (f : Fx p) : Dvd f 0 := ⟨0, 0, bd_zero 0, (CR.zero_mul f).symm⟩
theorem Dvd.trans {f g h : Fx p} (h1 : Dvd f g) (h2 : Dvd g h) : Dvd f h := by
  obtain ⟨q, n, hq, e⟩ := h1
  obtain ⟨q', n', hq', e'⟩ := h2
  exact ⟨q' * q, n' + n, mul_bd' hq' hq, by rw [e', e, CR.mul_assoc]⟩
theorem Dvd.add {f g h : Fx p} (h1 : Dvd f g) (h2 : Dvd f h) : Dvd f (g + h) := by
  obtain ⟨q, n, hq, e⟩ := h1
  obtain ⟨q', n', hq', e'⟩ := h2
  exact ⟨q + q', max n n', (hq.mono (by omega)).add (hq'.mono (by omega)), by rw [e, e', id_dvadd]⟩
theorem Dvd.mul {f g q : Fx p} {n : Nat} (hq : q.bd n) (h : Dvd f g) : Dvd f (q * g) := by
  obtain ⟨q', n', hq', e⟩ := h
  exact ⟨q * q', n + n', mul_bd' hq hq', by rw [e, CR.mul_assoc]⟩
theorem Dvd.neg {f g : Fx p} (h : Dvd f g) : Dvd f (-g) := by
  obtain ⟨q, n, hq, e⟩ := h
  exact ⟨-q, n, hq.neg, by rw [e, CR.neg_mul]⟩
theorem Dvd.sub {f g h : Fx p} (h1 : Dvd f g) (h2 : Dvd f h) : Dvd f (g - h) := h1.add h2.neg
theorem Dvd.self_mul (f : Fx p) {q : Fx p} {n : Nat} (hq : q.bd n) : Dvd f (q * f) := ⟨q, n, hq, rfl⟩
theorem Dvd.le (hp : Prime p) {f g : Fx p} {a b : Nat} (h : Dvd f g) (hf : f.top a) (hg : g.top b) : a ≤ b := by
  obtain ⟨q, n, hq, e⟩ := h
  have hq0 : q ≠ 0 := fun e2 => hg.ne (by rw [e, e2, CR.zero_mul])
  obtain ⟨c, _, hc⟩ := exists_top hq hq0
  have := (hc.mul hp hf).uniq (by rw [← e]; exact hg)
  omega
/-- What is divisible leaves no remainder. -/
theorem Dvd.rem (hp : Prime p) {f g q r : Fx p} {a n : Nat} (h : Dvd g f) (hg : g.top a) (hq : q.bd n) (hr : r.bd a) (e : f = q * g + r) : r = 0 ∧ f = q * g := by
  obtain ⟨q', n', hq', e'⟩ := h
  obtain ⟨e1, e2⟩ := div_uniq hp hg hq hq' hr (bd_zero a) (by rw [← e, e', CR.add_0])
  exact ⟨e2, by rw [e, e2, CR.add_0]⟩
theorem mono_inv {a b : Int} (h : (a * b) % p = 1 % p) : mono p a 0 * mono p b 0 = 1 := Fx.ext fun i => by
  rw [mono_zero_mul, mono_c]
  show (a * ((if i = 0 then b else 0) % p)) % p = (if i = 0 then 1 else 0) % p
  rw [Int.mul_comm, Int.mul_emod, Fx.emm, ← Int.mul_emod]
  by_cases hi : i = 0
  · rw [if_pos hi, if_pos hi, Int.mul_comm]; exact h
  · rw [if_neg hi, if_neg hi]; simp
/-- A multiple by a number that has an inverse divides, and is divided. -/
theorem dvd_scale {a b : Int} (h : (a * b) % p = 1 % p) (f : Fx p) : Dvd (mono p a 0 * f) f := ⟨mono p b 0, 1, mono_bd b 0, by rw [← CR.mul_assoc, mono_inv (by rw [Int.mul_comm]; exact h), CR.one_mul]⟩
end Fx
theorem DM.rem_zero {p : Int} (hp : MoP p) {f g q r : List Int} (hg : Val p g) (hne : g ≠ []) (h : DM p f g q r) (hd : Fx.Dvd (toF p g) (toF p f)) : r = [] ∧ toF p f = toF p q * toF p g := by
  have ht := toF_top hg hne
  obtain ⟨h1, h2⟩ := hd.rem hp.2 ht (toF_bd p q) ((toF_bd p r).mono (by have := h.lt; omega)) h.eq
  exact ⟨toF_eq_zero hp.1.pos h.vr h1, h2⟩
theorem DM.dvd_iff {p : Int} {f g q r : List Int} (h : DM p f g q r) (e : Fx p) : (Fx.Dvd e (toF p f) ∧ Fx.Dvd e (toF p g)) ↔ (Fx.Dvd e (toF p g) ∧ Fx.Dvd e (toF p r)) := by
  constructor
  · rintro ⟨h1, h2⟩
    refine ⟨h2, ?_⟩
    rw [id_rem h.eq]
    exact h1.sub (h2.mul (toF_bd p q))
  · rintro ⟨h1, h2⟩
    refine ⟨?_, h1⟩
    rw [h.eq]
    exact (h1.mul (toF_bd p q)).add h2
theorem DM.lq {p : Int} (hp : Prime p) {f g q r : List Int} (hf : Val p f) (hg : Val p g) (h : DM p f g q r) : q.length ≤ f.length + 1 - g.length := by
  by_cases hq : q = []
  · rw [hq]; exact Nat.zero_le _
  · have hgl : 0 < g.length := by have := h.lt; omega
    have hgn : g ≠ [] := List.length_pos_iff.1 hgl
    have hql := List.length_pos_iff.2 hq
    have ht := (toF_top h.vq hq).mul hp (toF_top hg hgn)
    have he : toF p q * toF p g = toF p f - toF p r := by
      rw [h.eq]
      have h := CR.solve [toF p q * toF p g, toF p r] (.v 0) (.v 0 + .v 1 - .v 1) (by decide +kernel)
      exact h
    rw [he] at ht
    have hb : (toF p f - toF p r).bd (max f.length r.length) := ((toF_bd p f).mono (by omega)).sub ((toF_bd p r).mono (by omega))
    have h1 := (ht.bd_iff).1 hb
    have hlt := h.lt
    omega

/-! ### multiples with the highest coefficient 1 -/
/-- d is f divided by its highest coefficient. -/
structure Mon (p : Int) (f d : List Int) (c : Int) : Prop where
  vd : Val p d
  eq : toF p d = Fx.mono p c 0 * toF p f
  lead : co d (d.length - 1) = 1
  ne : d ≠ []
  len : d.length = f.length
  inv : IsInv p (co f (f.length - 1)) c
theorem mon_scale {p : Int} (hp : MoP p) {f : List Int} (hf : Val p f) (hne : f ≠ []) {c : Int} (hc : IsInv p (co f (f.length - 1)) c) : Mon p f (ofF f.length fun j => (co f j * c) % p) c := by
  have hl := List.length_pos_iff.2 hne
  have hv := val_ofF hp.1.pos f.length fun j => co f j * c
  have e1 : co (ofF f.length fun j => (co f j * c) % p) (f.length - 1) = 1 := by
    rw [co_ofF, if_pos (by omega)]; exact hc.eq
  have hlen : (ofF f.length fun j => (co f j * c) % p).length = f.length := by
    have h1 := ofF_len f.length fun j => (co f j * c) % p
    have h2 : ¬ (ofF f.length fun j => (co f j * c) % p).length ≤ f.length - 1 := fun h => by
      rw [co_ge h] at e1; exact absurd e1 (by decide)
    omega
  exact ⟨hv, toF_scale, by rw [hlen]; exact e1, List.length_pos_iff.1 (by omega), hlen, hc⟩
theorem Mon.dvd {p : Int} {f d : List Int} {c : Int} (hp : MoP p) (h : Mon p f d c) (e : Fx p) : Fx.Dvd e (toF p d) ↔ Fx.Dvd e (toF p f) := by
  have hi : (c * co f (f.length - 1)) % p = 1 % p := by
    rw [Int.mul_comm, h.inv.eq, Int.emod_eq_of_lt (by omega) (by have := hp.1.lo; omega)]
  constructor
  · intro hd
    have := Fx.dvd_scale hi (toF p f)
    rw [← h.eq] at this
    exact hd.trans this
  · intro hd
    rw [h.eq]
    exact hd.mul (Fx.mono_bd c 0)
theorem fp_Monic_is {p : Int} (hp : MoP p) {f : List Int} (hf : Val p f) (hne : f ≠ []) (hl : f.length ≤ 100000) : ∃ d c, Ev (fun k => fp_Monic.f k p f) d ∧ Mon p f d c := by
  have h0 := List.length_pos_iff.2 hne
  have hm := hf.mem hne
  obtain ⟨c, hc, he⟩ := fp_Inv_is hp hm.1 hm.2
  refine ⟨_, c, ?_, mon_scale hp hf hne hc⟩
  simp only [fp_Monic.f]
  rw [w64 (x := (f.length : Int) - 1) (by omega) (by omega), rd_co, show ((f.length : Int) - 1).toNat = f.length - 1 from by omega]
  exact Ev.neg (by omega) (Ev.pos (by omega) (Ev.pos (by omega) (Ev.bind he (Ev.bind (fp_Scale_is hp.1 hf ⟨hc.lo, hc.hi⟩ (by omega)) (Ev.con rfl)))))
/-- The greatest common divisor: its divisors are the common divisors; the highest coefficient is 1, or both are 0. -/
structure IsGcd (p : Int) (F G : Fx p) (d : List Int) : Prop where
  vd : Val p d
  dv : ∀ e, Fx.Dvd e (toF p d) ↔ Fx.Dvd e F ∧ Fx.Dvd e G
  lead : d ≠ [] → co d (d.length - 1) = 1
theorem IsGcd.left {p : Int} {F G : Fx p} {d : List Int} (h : IsGcd p F G d) : Fx.Dvd (toF p d) F := ((h.dv _).1 (Fx.Dvd.refl _)).1
theorem IsGcd.right {p : Int} {F G : Fx p} {d : List Int} (h : IsGcd p F G d) : Fx.Dvd (toF p d) G := ((h.dv _).1 (Fx.Dvd.refl _)).2
/-- Two with the same divisors, both with the highest coefficient 1, are the same. -/
theorem monic_uniq {p : Int} (hp : MoP p) {d e : List Int} (hd : Val p d) (he : Val p e) (h1 : Fx.Dvd (toF p d) (toF p e)) (h2 : Fx.Dvd (toF p e) (toF p d)) (l1 : d ≠ [] → co d (d.length - 1) = 1) (l2 : e ≠ [] → co e (e.length - 1) = 1) : d = e := by
  by_cases hd0 : d = []
  · subst hd0
    obtain ⟨q, n, _, h⟩ := h1
    rw [toF_nil, CR.mul_0] at h
    exact (toF_eq_zero hp.1.pos he h).symm
  · by_cases he0 : e = []
    · subst he0
      obtain ⟨q, n, _, h⟩ := h2
      rw [toF_nil, CR.mul_0] at h
      exact toF_eq_zero hp.1.pos hd h
    · have td := toF_top hd hd0
      have te := toF_top he he0
      have hle1 := h1.le hp.2 td te
      have hle2 := h2.le hp.2 te td
      obtain ⟨q, n, hq, h⟩ := h1
      have hq0 : q ≠ 0 := fun e2 => te.ne (by rw [h, e2, CR.zero_mul])
      obtain ⟨a, _, ha⟩ := Fx.exists_top hq hq0
      have ht := ha.mul hp.2 td
      rw [← h] at ht
      have ha0 : a = 0 := by have := ht.uniq te; omega
      subst ha0
      have hqm : q = Fx.mono p (q.c 0) 0 := Fx.ext fun i => by
        rw [Fx.mono_c]
        by_cases hi : i = 0
        · rw [if_pos hi, hi, q.ok]
        · rw [if_neg hi, ha.1 i (by omega)]; simp
      have hlen : e.length = d.length := by have := List.length_pos_iff.2 hd0; have := List.length_pos_iff.2 he0; omega
      have hc : (toF p e).c (e.length - 1) = (q.c 0 * (toF p d).c (d.length - 1)) % p := by
        rw [h, hqm, Fx.mono_zero_mul, hlen, ← hqm]
      rw [toF_c he, toF_c hd, l2 he0, l1 hd0, Int.mul_one, q.ok] at hc
      apply toF_inj hd he
      rw [h, hqm, ← hc]
      exact (CR.one_mul _).symm
theorem IsGcd.uniq {p : Int} (hp : MoP p) {F G : Fx p} {d e : List Int} (h : IsGcd p F G d) (k : IsGcd p F G e) : d = e :=
  monic_uniq hp h.vd k.vd ((k.dv _).2 ((h.dv _).1 (Fx.Dvd.refl _))) ((h.dv _).2 ((k.dv _).1 (Fx.Dvd.refl _))) h.lead k.lead
theorem IsGcd.congr {p : Int} {F G F' G' : Fx p} {d : List Int} (h : IsGcd p F G d) (hc : ∀ e, (Fx.Dvd e F ∧ Fx.Dvd e G) ↔ (Fx.Dvd e F' ∧ Fx.Dvd e G')) : IsGcd p F' G' d := ⟨h.vd, fun e => (h.dv e).trans (hc e), h.lead⟩
theorem isGcd_zero {p : Int} (hp : MoP p) {f d : List Int} {c : Int} (h : Mon p f d c) : IsGcd p (toF p f) 0 d := ⟨h.vd, fun e => (h.dvd hp e).trans ⟨fun h => ⟨h, Fx.Dvd.zero e⟩, fun h => h.1⟩, fun _ => h.lead⟩
theorem isGcd_nil {p : Int} (hp : MoP p) : IsGcd p (0 : Fx p) 0 [] := ⟨val_nil hp.1.pos, fun e => by rw [toF_nil]; exact ⟨fun h => ⟨h, h⟩, fun h => h.1⟩, fun h => absurd rfl h⟩
theorem fp_Gcd_loop {p : Int} (hp : MoP p) : ∀ (n : Nat) (f g : List Int), g.length = n → Val p f → Val p g → f.length ≤ 100000 → g.length ≤ 100000 → ∃ d, Ev (fun k => fp_Gcd.l0 k p f g) d ∧ IsGcd p (toF p f) (toF p g) d := by
  intro n
  induction n using Nat.strongRecOn with
  | _ n ih =>
    intro f g hn hf hg hfl hgl
    by_cases h0 : (g.length : Int) > 0
    · have hne : g ≠ [] := List.length_pos_iff.1 (by omega)
      obtain ⟨q, r, he, hd⟩ := fp_Rem_is hp hf hg hne hfl hgl
      obtain ⟨d, hd1, hd2⟩ := ih r.length (by have := hd.lt; omega) g r rfl hg hd.vr hgl (by have := hd.lt; omega)
      refine ⟨d, Ev.succ ?_, hd2.congr (fun e => (hd.dvd_iff e).symm)⟩
      simp only [fp_Gcd.l0]
      exact Ev.pos h0 (Ev.bind he hd1)
    · have hg0 : g = [] := List.length_eq_zero_iff.1 (by omega)
      subst hg0
      rw [toF_nil]
      by_cases hf0 : f = []
      · subst hf0
        refine ⟨[], Ev.succ ?_, by rw [toF_nil]; exact isGcd_nil hp⟩
        simp only [fp_Gcd.l0]
        exact Ev.neg h0 (Ev.bind (Ev.con (show fp_Monic.f 0 p [] = some [] from by simp [fp_Monic.f])) (Ev.con rfl))
      · obtain ⟨d, c, he, hm⟩ := fp_Monic_is hp hf hf0 hfl
        refine ⟨d, Ev.succ ?_, isGcd_zero hp hm⟩
        simp only [fp_Gcd.l0]
        exact Ev.neg h0 (Ev.bind he (Ev.con rfl))
theorem fp_Gcd_is {p : Int} (hp : MoP p) {f g : List Int} (hf : Val p f) (hg : Val p g) (hfl : f.length ≤ 100000) (hgl : g.length ≤ 100000) : ∃ d, Ev (fun k => fp_Gcd.f k p f g) d ∧ IsGcd p (toF p f) (toF p g) d := fp_Gcd_loop hp _ f g rfl hf hg hfl hgl
end Go.Proofs.Ytmknclgamadphaa.MPolymodPrimes
