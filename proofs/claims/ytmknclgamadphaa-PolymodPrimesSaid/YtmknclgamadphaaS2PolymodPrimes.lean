/- Primes: what the printed tests of primality compute. -/
import Derived.Test.YtmknclgamadphaaS1PolymodPrimes
namespace Go.Proofs.Ytmknclgamadphaa.MPolymodPrimes
open Go.RowKit Go.Proofs.Ytmknclgamadphaa.PPolymodPrimes Go.Proofs.YtmknclgamadphaaW.PrintWords Go.Proofs.YtmknclgamadphaaW.PrintLast Go.Proofs.YtmknclgamadphaaW.PrintMore
set_option linter.unusedVariables false
set_option linter.unusedSimpArgs false

def Prime (p : Int) : Prop := 2 ≤ p ∧ ∀ d, 2 ≤ d → d < p → ¬ d ∣ p
open Classical in
noncomputable def pr (n : Int) : Bool := decide (Prime n)
theorem pr_true {n : Int} (h : Prime n) : pr n = true := by simp [pr, h]
theorem pr_false {n : Int} (h : ¬ Prime n) : pr n = false := by simp [pr, h]
theorem pr_iff {n : Int} : pr n = true ↔ Prime n := by simp [pr]
/-- No divisor from 2 to d - 1, and d * d is greater: prime. -/
theorem prime_of {n d : Int} (hn : 2 ≤ n) (hd : 2 ≤ d) (h : ∀ e, 2 ≤ e → e < d → ¬ e ∣ n) (hdd : n < d * d) : Prime n := by
  refine ⟨hn, fun e he hen hdv => ?_⟩
  by_cases h1 : e < d
  · exact h e he h1 hdv
  · obtain ⟨q, hq⟩ := hdv
    have hq0 : 0 < q := by
      rcases Int.lt_or_le 0 q with h2 | h2
      · exact h2
      · have := Int.mul_nonneg (show 0 ≤ e by omega) (show 0 ≤ -q by omega)
        rw [Int.mul_neg] at this; omega
    have hqd : q < d := by
      rcases Int.lt_or_le q d with h2 | h2
      · exact h2
      · have h3 : d * d ≤ e * q := Int.mul_le_mul (by omega) h2 (by omega) (by omega)
        omega
    have hq2 : 2 ≤ q := by
      rcases Int.lt_or_le q 2 with h2 | h2
      · have : q = 1 := by omega
        rw [this] at hq; omega
      · exact h2
    exact h q hq2 hqd ⟨e, by rw [hq, Int.mul_comm]⟩
theorem not_prime_of {n d : Int} (hd : 2 ≤ d) (hdn : d < n) (h : d ∣ n) : ¬ Prime n := fun hp => hp.2 d hd hdn h
theorem tmod_zero_iff {a b : Int} : Int.tmod a b = 0 ↔ b ∣ a := (Int.dvd_iff_tmod_eq_zero ).symm

theorem ref_IsPrime_loop {n : Int} (h1 : 2 ≤ n) (h2 : n ≤ 2147483647) : ∀ (m : Nat) (d : Int), 2 ≤ d → d ≤ 65536 → 65536 - d = m → (∀ e, 2 ≤ e → e < d → ¬ e ∣ n) → Ev (fun k => galoisref04_IsPrime.l0 k n d) (pr n) := by
  intro m
  induction m with
  | zero =>
    intro d hd hd2 hm h
    have : d = 65536 := by omega
    subst this
    refine Ev.succ ?_
    simp only [galoisref04_IsPrime.l0]
    rw [w64 (by omega) (by omega)]
    refine Ev.neg (by omega) (Ev.con ?_)
    rw [pr_true (prime_of h1 hd h (by omega))]
    rw [decide_eq_true (by omega)]
  | succ m ih =>
    intro d hd hd2 hm h
    have hdd : 4 ≤ d * d ∧ d * d ≤ 4294967296 := ⟨Int.mul_le_mul hd hd (by omega) (by omega), Int.mul_le_mul hd2 hd2 (by omega) (by omega)⟩
    refine Ev.succ ?_
    simp only [galoisref04_IsPrime.l0]
    rw [w64 (by omega) (by omega), w64 (by omega) (by omega)]
    by_cases c : d * d ≤ n
    · refine Ev.pos c (Ev.neg (by omega) ?_)
      by_cases t : Int.tmod n d = 0
      · refine Ev.pos t (Ev.con ?_)
        have hdn : d < n := by
          have : d * 2 ≤ d * d := Int.mul_le_mul_of_nonneg_left hd (by omega)
          omega
        rw [pr_false (not_prime_of hd hdn (tmod_zero_iff.1 t))]
      · refine Ev.neg t (ih (d + 1) (by omega) (by omega) (by omega) (fun e he hed => ?_))
        by_cases e1 : e = d
        · rw [e1]; exact fun hc => t (tmod_zero_iff.2 hc)
        · exact h e he (by omega)
    · refine Ev.neg c (Ev.con ?_)
      rw [pr_true (prime_of h1 hd h (by omega)), decide_eq_true (by omega)]
theorem ref_IsPrime_is {n : Int} (h1 : 2 ≤ n) (h2 : n ≤ 2147483647) : Ev (fun k => galoisref04_IsPrime.f k n) (pr n) :=
  ref_IsPrime_loop h1 h2 65534 2 (by omega) (by omega) (by omega) (fun e h3 h4 => by omega)
/-- The permitted primes of chapter 09. -/
def MoP (p : Int) : Prop := Mo p ∧ Prime p
open Classical in
noncomputable def pm (p : Int) : Bool := decide (MoP p)
theorem pm_iff {p : Int} : pm p = true ↔ MoP p := by simp [pm]
theorem pm_not {p : Int} (h : ¬ MoP p) : pm p = false := by simp [pm, h]
theorem ref09_IsPrime_is (p : Int) : Ev (fun k => galoisref09_IsPrime.f k p) (pm p) := by
  simp only [galoisref09_IsPrime.f]
  by_cases h1 : p ≥ 2
  · refine Ev.pos h1 ?_
    by_cases h2 : p ≤ 65521
    · refine Ev.pos h2 (Ev.bind (ref_IsPrime_is h1 (by omega)) (Ev.con ?_))
      have : pr p = pm p := by
        by_cases h : Prime p
        · rw [pr_true h, pm_iff.2 ⟨⟨h1, h2⟩, h⟩]
        · rw [pr_false h, pm_not (fun hm => h hm.2)]
      rw [this]
    · exact Ev.neg h2 (Ev.con (by rw [pm_not (fun hm => h2 hm.1.hi)]))
  · exact Ev.neg h1 (Ev.con (by rw [pm_not (fun hm => h1 hm.1.lo)]))
/-! ### factors -/
def prodF : List S126 → Int
  | [] => 1
  | x :: l => x.f0 ^ x.f1.toNat * prodF l
theorem prodF_append (l m : List S126) : prodF (l ++ m) = prodF l * prodF m := by
  induction l with
  | nil => simp [prodF]
  | cons x l ih => simp only [List.cons_append, prodF, ih, Int.mul_assoc]
/-- All factors are primes from 2 to below d, ascending, with exponents of at least 1. -/
def Asc (d : Int) : List S126 → Prop
  | [] => True
  | x :: l => Prime x.f0 ∧ 1 ≤ x.f1 ∧ x.f0 < d ∧ (∀ y ∈ l, x.f0 < y.f0) ∧ Asc d l
theorem Asc.mono {d e : Int} {l : List S126} (h : Asc d l) (hde : d ≤ e) : Asc e l := by
  induction l with
  | nil => trivial
  | cons x l ih => exact ⟨h.1, h.2.1, by have := h.2.2.1; omega, h.2.2.2.1, ih h.2.2.2.2⟩
theorem Asc.mem {d : Int} {l : List S126} (h : Asc d l) {x : S126} (hx : x ∈ l) : Prime x.f0 ∧ 1 ≤ x.f1 ∧ x.f0 < d := by
  induction l with
  | nil => cases hx
  | cons y l ih =>
    rcases List.mem_cons.1 hx with rfl | hx
    · exact ⟨h.1, h.2.1, h.2.2.1⟩
    · exact ih h.2.2.2.2 hx
theorem Asc.snoc {d : Int} {l : List S126} (h : Asc d l) {x : S126} (hp : Prime x.f0) (he : 1 ≤ x.f1) (hd : d ≤ x.f0) : Asc (x.f0 + 1) (l ++ [x]) := by
  induction l with
  | nil => exact ⟨hp, he, by omega, (fun y hy => by cases hy), trivial⟩
  | cons y l ih =>
    refine ⟨h.1, h.2.1, by have := h.2.2.1; omega, fun z hz => ?_, ih h.2.2.2.2⟩
    rcases List.mem_append.1 hz with hz | hz
    · exact h.2.2.2.1 z hz
    · rw [List.mem_singleton.1 hz]; have := h.2.2.1; omega
theorem step_is {d : Int} (hd : 2 ≤ d) : ∀ (m : Nat) (n c : Int), 1 ≤ n → n ≤ 2147483647 → n.toNat ≤ m → 0 ≤ c → c + m ≤ 9223372036854775000 →
    ∃ (n' : Int) (j : Nat), Ev (fun k => residue_factor.step k d n c) (n', c + j) ∧ n = n' * d ^ j ∧ 1 ≤ n' ∧ n' ≤ n ∧ ¬ d ∣ n' := by
  intro m
  induction m with
  | zero => intro n c h1 h2 h3; omega
  | succ m ih =>
    intro n c h1 h2 h3 hc hcm
    by_cases t : Int.tmod n d = 0
    · obtain ⟨q, hq⟩ := tmod_zero_iff.1 t
      have hq1 : 1 ≤ q := by
        rcases Int.lt_or_le q 1 with h | h
        · have := Int.mul_nonneg (show 0 ≤ d by omega) (show 0 ≤ -q by omega)
          rw [Int.mul_neg] at this; omega
        · exact h
      have hqn : q < n := by
        have : 2 * q ≤ d * q := Int.mul_le_mul_of_nonneg_right hd (by omega)
        omega
      have e : Int.tdiv n d = q := by rw [hq, Int.mul_tdiv_cancel_left _ (by omega)]
      obtain ⟨n', j, hj, h4, h5, h6, h7⟩ := ih q (c + 1) hq1 (by omega) (by omega) (by omega) (by omega)
      refine ⟨n', j + 1, ?_, ?_, h5, by omega, h7⟩
      · refine Ev.succ ?_
        simp only [residue_factor.step]
        refine Ev.neg (by omega) (Ev.pos t ?_)
        rw [e, w64 (by omega) (by omega), w64 (by omega) (by omega)]
        exact Ev.eq hj (by congr 1; push_cast; omega)
      · rw [hq, h4, Int.pow_succ, Int.mul_comm d, Int.mul_assoc]
    · refine ⟨n, 0, ?_, by simp, h1, Int.le_refl _, fun h => t (tmod_zero_iff.2 h)⟩
      refine Ev.succ ?_
      simp only [residue_factor.step]
      exact Ev.neg (by omega) (Ev.neg t (Ev.con (by simp)))
/-- One divisor tried. -/
theorem trial_is {d n : Int} (hd : 2 ≤ d) (h1 : 1 ≤ n) (h2 : n ≤ 2147483647) {xs : List S126} (hl : xs.length < 1000000) (hA : Asc d xs) (hm : ∀ e, 2 ≤ e → e < d → ¬ e ∣ n) :
    ∃ (n' : Int) (ys : List S126), Ev (fun k => residue_factor.trial k d n xs) (n', ys) ∧ n' * prodF ys = n * prodF xs ∧ 1 ≤ n' ∧ n' ≤ n ∧ n' ∣ n ∧ ¬ d ∣ n' ∧ Asc (d + 1) ys ∧ ys.length ≤ xs.length + 1 := by
  obtain ⟨n', j, hj, h4, h5, h6, h7⟩ := step_is hd n.toNat n 0 h1 h2 (Nat.le_refl _) (by omega) (by omega)
  simp only [Int.zero_add] at hj
  by_cases j0 : 0 < j
  · have hdn : d ∣ n := by
      obtain ⟨i, rfl⟩ : ∃ i, j = i + 1 := ⟨j - 1, by omega⟩
      exact ⟨n' * d ^ i, by rw [h4, Int.pow_succ, Int.mul_comm d, Int.mul_assoc]⟩
    have hpd : Prime d := ⟨hd, fun e he hed hdv => hm e he hed (Int.dvd_trans hdv hdn)⟩
    refine ⟨n', xs ++ [⟨d, j⟩], ?_, ?_, h5, h6, ⟨_, h4⟩, h7, hA.snoc (x := ⟨d, j⟩) hpd (by show (1 : Int) ≤ j; omega) (Int.le_refl _), by simp⟩
    · unfold residue_factor.trial
      refine Ev.bind hj (Ev.pos (by show (j : Int) > 0; omega) (Ev.pos (by omega) (Ev.con rfl)))
    · rw [prodF_append, h4]
      simp only [prodF, Int.mul_one, Int.toNat_natCast]
      rw [Int.mul_comm (prodF xs), Int.mul_assoc]
  · have : j = 0 := by omega
    subst this
    refine ⟨n', xs, ?_, by rw [h4]; simp, h5, h6, ⟨_, h4⟩, h7, hA.mono (by omega), by omega⟩
    unfold residue_factor.trial
    exact Ev.bind hj (Ev.neg (by simp) (Ev.con rfl))
theorem factor_loop (N : Int) : ∀ (m : Nat) (d n : Int) (xs : List S126), 3 ≤ d → d ≤ 65537 → d % 2 = 1 → 65537 - d = m → 1 ≤ n → n ≤ 2147483647 → xs.length + 1 + m < 1000000 → Asc d xs → (∀ e, 2 ≤ e → e < d → ¬ e ∣ n) → n * prodF xs = N →
    ∃ ys : List S126, Ev (fun k => residue_factor.l0 k n xs d) ys ∧ prodF ys = N ∧ ∃ b, Asc b ys := by
  intro m
  induction m using Nat.strongRecOn with
  | _ m ih =>
    intro d n xs hd hd2 hodd hm h1 h2 hl hA hn hN
    have hdd : 9 ≤ d * d ∧ d * d ≤ 4295098369 := ⟨Int.mul_le_mul hd hd (by omega) (by omega), Int.mul_le_mul hd2 hd2 (by omega) (by omega)⟩
    by_cases c : d * d ≤ n
    · have hd3 : d < 65537 := by
        rcases Int.lt_or_le d 65537 with h | h
        · exact h
        · have : d = 65537 := by omega
          rw [this] at c; omega
      obtain ⟨n', ys, hy, e1, e2, e3, e4, e5, e6, e7⟩ := trial_is (by omega) h1 h2 (by omega) hA hn
      obtain ⟨zs, hz, z1, z2⟩ := ih (m - 2) (by omega) (d + 2) n' ys (by omega) (by omega) (by omega) (by omega) e2 (by omega) (by omega) (e6.mono (by omega)) (fun e he hed hdv => by
        have hdn := Int.dvd_trans hdv e4
        by_cases g1 : e < d
        · exact hn e he g1 hdn
        · by_cases g2 : e = d
          · rw [g2] at hdv; exact e5 hdv
          · have : e = d + 1 := by omega
            have h2e : (2 : Int) ∣ e := ⟨(d + 1) / 2, by omega⟩
            exact hn 2 (by omega) (by omega) (Int.dvd_trans h2e hdn)) (by rw [e1]; exact hN)
      refine ⟨zs, ?_, z1, z2⟩
      refine Ev.succ ?_
      simp only [residue_factor.l0]
      rw [w64 (by omega) (by omega), w64 (by omega) (by omega)]
      exact Ev.pos c (Ev.bind hy hz)
    · by_cases g : n > 1
      · have hpn : Prime n := prime_of (by omega) (by omega) hn (by omega)
        have hdn : d ≤ n := by
          rcases Int.lt_or_le n d with h | h
          · exact absurd (Int.dvd_refl n) (hn n (by omega) h)
          · exact h
        obtain ⟨n', ys, hy, e1, e2, e3, e4, e5, e6, e7⟩ := trial_is (d := n) (by omega) h1 h2 (by omega) (hA.mono hdn) (fun e he hed => hpn.2 e he hed)
        refine ⟨ys, ?_, ?_, _, e6⟩
        · refine Ev.succ ?_
          simp only [residue_factor.l0]
          rw [w64 (by omega) (by omega)]
          exact Ev.neg c (Ev.pos g (Ev.bind hy (Ev.con rfl)))
        · have : n' = 1 := by
            rcases Int.lt_or_le n' 2 with h | h
            · omega
            · rcases Int.lt_or_le n' n with h3 | h3
              · exact absurd e4 (hpn.2 n' h h3)
              · have : n' = n := by omega
                rw [this] at e5; exact absurd (Int.dvd_refl n) e5
          rw [this, Int.one_mul] at e1
          rw [e1, hN]
      · refine ⟨xs, ?_, ?_, _, hA⟩
        · refine Ev.succ ?_
          simp only [residue_factor.l0]
          rw [w64 (by omega) (by omega)]
          exact Ev.neg c (Ev.neg g (Ev.con rfl))
        · have : n = 1 := by omega
          rw [this, Int.one_mul] at hN; exact hN
theorem factor_is {n : Int} (h1 : 1 ≤ n) (h2 : n ≤ 2147483647) : ∃ ys : List S126, Ev (fun k => residue_factor.f k n) ys ∧ prodF ys = n ∧ ∃ b, Asc b ys := by
  obtain ⟨n', ys, hy, e1, e2, e3, e4, e5, e6, e7⟩ := trial_is (d := 2) (n := n) (xs := []) (by omega) h1 h2 (by simp) trivial (fun e h3 h4 => by omega)
  obtain ⟨zs, hz, z1, z2⟩ := factor_loop n 65534 3 n' ys (by omega) (by omega) (by omega) (by omega) e2 (by omega) (by simp at e7; omega) (e6.mono (by omega)) (fun e h3 h4 h5 => by
    have : e = 2 := by omega
    rw [this] at h5; exact e5 h5) (by rw [e1]; simp [prodF])
  exact ⟨zs, Ev.bind hy hz, z1, z2⟩
theorem prodF_pos {b : Int} {l : List S126} (h : Asc b l) : 1 ≤ prodF l := by
  induction l with
  | nil => exact Int.le_refl _
  | cons x l ih =>
    have h1 : 0 < x.f0 ^ x.f1.toNat := Int.pow_pos (by have := h.1.1; omega)
    have h2 := ih h.2.2.2.2
    have := Int.mul_le_mul (show 1 ≤ x.f0 ^ x.f1.toNat from h1) h2 (by omega) (by omega)
    simpa [prodF] using this
theorem prime_factors {n b : Int} {l : List S126} (hp : Prime n) (h : prodF l = n) (hA : Asc b l) : l = [⟨n, 1⟩] := by
  cases l with
  | nil => simp only [prodF] at h; have := hp.1; omega
  | cons x l =>
    have hx := hA.1
    have he := hA.2.1
    obtain ⟨j, hj⟩ : ∃ j : Nat, x.f1.toNat = j + 1 := ⟨x.f1.toNat - 1, by omega⟩
    have hr := prodF_pos hA.2.2.2.2
    have hq : 0 < x.f0 ^ j := Int.pow_pos (by have := hx.1; omega)
    simp only [prodF, hj, Int.pow_succ] at h
    have hdv : x.f0 ∣ n := ⟨x.f0 ^ j * prodF l, by rw [← h, Int.mul_comm (x.f0 ^ j), Int.mul_assoc]⟩
    have hxn : x.f0 = n := by
      have hle : x.f0 ≤ n := Int.le_of_dvd (by have := hp.1; omega) hdv
      rcases Int.lt_or_le x.f0 n with h3 | h3
      · exact absurd hdv (hp.2 _ hx.1 h3)
      · omega
    have hpr : x.f0 ^ j * prodF l = 1 := by
      have h4 : n * (x.f0 ^ j * prodF l) = n * 1 := by
        rw [← hxn]; rw [← hxn] at h
        rw [Int.mul_one, ← Int.mul_assoc, Int.mul_comm x.f0]; exact h
      exact Int.eq_of_mul_eq_mul_left (by have := hp.1; omega) h4
    have hj0 : j = 0 := by
      cases j with
      | zero => rfl
      | succ j =>
        have h5 : 0 < x.f0 ^ j := Int.pow_pos (by have := hx.1; omega)
        have h6 : 2 * 1 ≤ x.f0 ^ (j + 1) := by
          rw [Int.pow_succ, Int.mul_comm (x.f0 ^ j)]; exact Int.mul_le_mul hx.1 h5 (by omega) (by have := hx.1; omega)
        have h7 : x.f0 ^ (j + 1) * 1 ≤ x.f0 ^ (j + 1) * prodF l := Int.mul_le_mul_of_nonneg_left hr (by omega)
        omega
    have hx1 : x.f1 = 1 := by omega
    have hl : l = [] := by
      cases l with
      | nil => rfl
      | cons y l =>
        rw [hj0] at hpr
        simp only [Int.pow_zero, Int.one_mul, prodF] at hpr
        have hy := hA.2.2.2.2
        obtain ⟨i, hi⟩ : ∃ i : Nat, y.f1.toNat = i + 1 := ⟨y.f1.toNat - 1, by have := hy.2.1; omega⟩
        have h5 : 0 < y.f0 ^ i := Int.pow_pos (by have := hy.1.1; omega)
        have h6 : 2 * 1 ≤ y.f0 ^ y.f1.toNat := by
          rw [hi, Int.pow_succ, Int.mul_comm (y.f0 ^ i)]; exact Int.mul_le_mul hy.1.1 h5 (by omega) (by have := hy.1.1; omega)
        have h7 : y.f0 ^ y.f1.toNat * 1 ≤ y.f0 ^ y.f1.toNat * prodF l := Int.mul_le_mul_of_nonneg_left (prodF_pos hy.2.2.2.2) (by omega)
        omega
    rw [hl]
    cases x
    simp only at hxn hx1
    rw [hxn, hx1]
theorem residue_prime_is {n : Int} (h1 : 1 ≤ n) (h2 : n ≤ 2147483647) : Ev (fun k => residue_prime.f k n) (pr n) := by
  obtain ⟨ys, hy, e1, b, hb⟩ := factor_is h1 h2
  unfold residue_prime.f
  refine Ev.bind hy ?_
  by_cases hp : Prime n
  · have := prime_factors hp e1 hb
    subst this
    exact Ev.pos (by simp) (Ev.pos (by simp) (Ev.con (by rw [pr_true hp]; rfl)))
  · rw [pr_false hp]
    by_cases hl : (ys.length : Int) = 1
    · refine Ev.pos hl (Ev.pos (by omega) (Ev.con ?_))
      congr 1
      match ys, hl, hb, e1 with
      | [x], _, hb, e1 =>
        show (x.f1 == 1) = false
        rw [beq_eq_false_iff_ne]
        intro h
        simp only [prodF, h, Int.mul_one] at e1
        have : x.f0 = n := by rw [← e1]; exact (Int.pow_one _).symm
        have h9 : Prime x.f0 := hb.1
        rw [this] at h9
        exact hp h9
    · exact Ev.neg hl (Ev.con rfl)
theorem residue_IsPrime_is {n : Int} (h1 : 1 ≤ n) (h2 : n ≤ 2147483647) : Ev (fun k => residue_IsPrime.f k n) (pr n, 0) := by
  unfold residue_IsPrime.f
  refine Ev.bind (Ev.con (show residue_bad.f 0 [n] = some false from ?_)) (Ev.neg (by simp) (Ev.bind (residue_prime_is h1 h2) (Ev.con rfl)))
  simp [residue_bad.f]; omega
theorem polymod_prime_is (p : Int) : Ev (fun k => polymod_prime.f k p) (if pm p = true then 0 else 7) := by
  have hj : ∀ b : Bool, (b = true → ¬ MoP p) → (b = false → Mo p) → Ev (fun k => polymod_prime.j0 k p b) (if pm p = true then 0 else 7) := by
    intro b h1 h2
    refine Ev.succ ?_
    simp only [polymod_prime.j0]
    cases b with
    | true => exact Ev.pos rfl (Ev.con (by rw [pm_not (h1 rfl)]; rfl))
    | false =>
      have hm := h2 rfl
      refine Ev.neg (by simp) (Ev.bind (residue_IsPrime_is (by have := hm.lo; omega) (by have := hm.hi; omega)) (Ev.pos rfl ?_))
      by_cases hp : Prime p
      · exact Ev.pos (pr_true hp) (Ev.con (by rw [pm_iff.2 ⟨hm, hp⟩]; rfl))
      · exact Ev.neg (by rw [pr_false hp]; simp) (Ev.con (by rw [pm_not (fun h => hp h.2)]; rfl))
  simp only [polymod_prime.f]
  by_cases h1 : p < 2
  · exact Ev.pos h1 (hj true (fun _ h => by have := h.1.lo; omega) (fun h => by cases h))
  · refine Ev.neg h1 (hj _ (fun h hm => ?_) (fun h => ?_))
    · have := of_decide_eq_true h; have := hm.1.hi; omega
    · have := of_decide_eq_false h; exact ⟨by omega, by omega⟩
/-! ### the errors of polynomials -/
def inR (p : Int) (l : List Int) : Prop := ∀ i, i < l.length → 0 ≤ co l i ∧ co l i < p
open Classical in
/-- The error of a list as a polynomial modulo p, as the document has it. -/
noncomputable def chk (p : Int) (l : List Int) : Int := if MoP p then (if l.length > 65 then 4 else if ¬ inR p l then 1 else if 0 < l.length ∧ co l (l.length - 1) = 0 then 1 else 0) else 7
theorem chk_zero {p : Int} {l : List Int} (h : chk p l = 0) : MoP p ∧ l.length ≤ 65 ∧ Val p l := by
  unfold chk at h
  by_cases h1 : MoP p
  · rw [if_pos h1] at h
    by_cases h2 : l.length > 65
    · rw [if_pos h2] at h; exact absurd h (by decide)
    · rw [if_neg h2] at h
      by_cases h3 : inR p l
      · rw [if_neg (not_not_intro h3)] at h
        by_cases h4 : 0 < l.length ∧ co l (l.length - 1) = 0
        · rw [if_pos h4] at h; exact absurd h (by decide)
        · refine ⟨h1, by omega, fun i => ?_, tr_of_last ?_⟩
          · by_cases hi : i < l.length
            · exact h3 i hi
            · rw [co_ge (by omega)]; exact ⟨Int.le_refl _, h1.1.pos⟩
          · by_cases h5 : l = []
            · exact .inl h5
            · exact .inr (fun h6 => h4 ⟨List.length_pos_iff.2 h5, h6⟩)
      · rw [if_pos h3] at h; exact absurd h (by decide)
  · rw [if_neg h1] at h; exact absurd h (by decide)
theorem chk_val {p : Int} {l : List Int} (hp : MoP p) (hl : l.length ≤ 65) (h : Val p l) : chk p l = 0 := by
  unfold chk
  rw [if_pos hp, if_neg (by omega), if_neg (not_not_intro (show inR p l from fun i _ => h.rng i)), if_neg]
  rintro ⟨h1, h2⟩
  exact h.tr.last (List.length_pos_iff.1 h1) h2
theorem chk_range (p : Int) (l : List Int) : chk p l = 0 ∨ chk p l = 1 ∨ chk p l = 4 ∨ chk p l = 7 := by
  unfold chk
  split
  · split
    · simp
    · split
      · simp
      · split <;> simp
  · simp
theorem polymod_Check_is (p : Int) (l : List Int) : Ev (fun k => polymod_Check.f k p l) (chk p l) := by
  unfold polymod_Check.f
  refine Ev.bind (polymod_prime_is p) ?_
  by_cases hp : MoP p
  · rw [pm_iff.2 hp]
    refine Ev.pos rfl (Ev.con ?_)
    congr 1
    unfold polymod_Check.g chk
    rw [if_pos hp]
    by_cases h1 : l.length > 65
    · rw [if_pos (by omega), if_pos h1]
    · rw [if_neg (by omega), if_neg h1]
      by_cases h2 : inR p l
      · rw [if_neg (not_not_intro h2), if_neg]
        · by_cases h3 : 0 < l.length
          · rw [if_pos (by omega), rd_co, show ((l.length : Int) - 1).toNat = l.length - 1 from by omega]
            by_cases h4 : co l (l.length - 1) = 0
            · rw [if_pos h4, if_pos ⟨h3, h4⟩]
            · rw [if_neg h4, if_neg (fun h => h4 h.2)]
          · rw [if_neg (by omega), if_neg (fun h => h3 h.1)]
        · intro h
          obtain ⟨x, hx, h⟩ := List.any_eq_true.1 h
          obtain ⟨i, hi, rfl⟩ := List.getElem_of_mem hx
          have := h2 i hi
          simp only [co, List.getD_eq_getElem?_getD, List.getElem?_eq_getElem hi, Option.getD_some] at this
          simp only [Bool.or_eq_true, decide_eq_true_eq] at h
          omega
      · rw [if_pos h2, if_pos]
        rw [List.any_eq_true]
        have : ∃ i, i < l.length ∧ ¬ (0 ≤ co l i ∧ co l i < p) := by
          apply Classical.byContradiction
          intro hc
          exact h2 (fun i hi => Classical.byContradiction fun h => hc ⟨i, hi, h⟩)
        obtain ⟨i, hi, h⟩ := this
        refine ⟨co l i, co_mem hi, ?_⟩
        simp only [Bool.or_eq_true, decide_eq_true_eq]
        omega
  · rw [pm_not hp]
    refine Ev.neg (by decide) (Ev.con ?_)
    unfold chk
    rw [if_neg hp]; rfl
theorem ref_Check_loop {p : Int} {l : List Int} (hl : l.length ≤ 65) : ∀ (d i : Nat), i + d = l.length → (∀ j, j < i → 0 ≤ co l j ∧ co l j < p) →
    Ev (fun k => galoisref09_Check.l0 k p l (i : Int)) (open Classical in if ¬ inR p l then 1 else if 0 < l.length ∧ co l (l.length - 1) = 0 then 1 else 0) := by
  intro d
  induction d with
  | zero =>
    intro i hi h
    have hin : inR p l := fun j hj => h j (by omega)
    rw [if_neg (not_not_intro hin)]
    refine Ev.succ ?_
    simp only [galoisref09_Check.l0]
    refine Ev.neg (by omega) ?_
    by_cases h3 : 0 < l.length
    · rw [w64 (by omega) (by omega)]
      refine Ev.pos (by omega) (Ev.pos (by omega) (Ev.pos (by omega) ?_))
      rw [rd_co, show ((l.length : Int) - 1).toNat = l.length - 1 from by omega]
      by_cases h4 : co l (l.length - 1) = 0
      · exact Ev.pos h4 (Ev.con (by rw [if_pos ⟨h3, h4⟩]))
      · exact Ev.neg h4 (Ev.con (by rw [if_neg (fun h => h4 h.2)]))
    · exact Ev.neg (by omega) (Ev.con (by rw [if_neg (fun h => h3 h.1)]))
  | succ d ih =>
    intro i hi h
    refine Ev.succ ?_
    simp only [galoisref09_Check.l0]
    refine Ev.pos (by omega) (Ev.pos (by omega) ?_)
    rw [rd_co, Int.toNat_natCast, w64 (by omega) (by omega)]
    have hno : (¬ (0 ≤ co l i ∧ co l i < p)) → ¬ inR p l := fun hc hin => hc (hin i (by omega))
    by_cases h1 : co l i < 0
    · exact Ev.pos h1 (Ev.con (by rw [if_pos (hno (by omega))]))
    · refine Ev.neg h1 ?_
      by_cases h2 : co l i ≥ p
      · exact Ev.pos h2 (Ev.con (by rw [if_pos (hno (by omega))]))
      · refine Ev.neg h2 (ih (i + 1) (by omega) (fun j hj => ?_))
        by_cases e : j = i
        · rw [e]; omega
        · exact h j (by omega)
theorem ref_Check_is (p : Int) (l : List Int) : Ev (fun k => galoisref09_Check.f k p l) (chk p l) := by
  unfold galoisref09_Check.f
  refine Ev.bind (ref09_IsPrime_is p) ?_
  unfold chk
  by_cases hp : MoP p
  · rw [if_pos hp]
    refine Ev.pos (pm_iff.2 hp) ?_
    by_cases h1 : l.length > 65
    · exact Ev.pos (by omega) (Ev.con (by rw [if_pos h1]))
    · rw [if_neg h1]
      exact Ev.neg (by omega) (ref_Check_loop (by omega) l.length 0 (by omega) (fun j hj => by omega))
  · rw [if_neg hp]
    exact Ev.neg (by rw [pm_not hp]; simp) (Ev.con rfl)
theorem first1_is (p : Int) (f : List Int) : Ev (fun k => polymod_first.f k p [f]) (chk p f) := by
  unfold polymod_first.f
  refine Ev.succ ?_
  simp only [polymod_first.l0]
  refine Ev.pos (by simp) (Ev.pos (by omega) (Ev.pos (by simp) (Ev.bind (polymod_Check_is p f) ?_)))
  by_cases h1 : chk p f = 0
  · refine Ev.pos h1 ?_
    rw [h1, w64 (by omega) (by omega)]
    refine Ev.succ ?_
    simp only [polymod_first.l0]
    exact Ev.neg (by simp) (Ev.con rfl)
  · exact Ev.neg h1 (Ev.con rfl)
theorem first2_is (p : Int) (f g : List Int) : Ev (fun k => polymod_first.f k p [f, g]) (if chk p f = 0 then chk p g else chk p f) := by
  unfold polymod_first.f
  refine Ev.succ ?_
  simp only [polymod_first.l0]
  refine Ev.pos (by simp) (Ev.pos (by omega) (Ev.pos (by simp) (Ev.bind (polymod_Check_is p f) ?_)))
  by_cases h1 : chk p f = 0
  · refine Ev.pos h1 ?_
    rw [if_pos h1, w64 (by omega) (by omega)]
    refine Ev.succ ?_
    simp only [polymod_first.l0]
    refine Ev.pos (by simp) (Ev.pos (by omega) (Ev.pos (by simp) (Ev.bind (polymod_Check_is p g) ?_)))
    by_cases h2 : chk p g = 0
    · refine Ev.pos h2 ?_
      rw [h2, w64 (by omega) (by omega)]
      refine Ev.succ ?_
      simp only [polymod_first.l0]
      exact Ev.neg (by simp) (Ev.con rfl)
    · exact Ev.neg h2 (Ev.con rfl)
  · exact Ev.neg h1 (Ev.con (by rw [if_neg h1]))
theorem Same_loop {f g : List Int} (hl : f.length = g.length) (hb : (f.length : Int) ≤ 1000000) : ∀ (d i : Nat), i + d = f.length → (∀ j, j < i → co f j = co g j) → Ev (fun k => galoisref09_Same.l0 k f g (i : Int)) (decide (f = g)) := by
  intro d
  induction d with
  | zero =>
    intro i hi h
    refine Ev.succ ?_
    simp only [galoisref09_Same.l0]
    refine Ev.neg (by omega) (Ev.con ?_)
    rw [decide_eq_true]
    apply List.ext_getElem hl
    intro j h1 h2
    have := h j (by omega)
    simpa [co, h1, h2] using this
  | succ d ih =>
    intro i hi h
    refine Ev.succ ?_
    simp only [galoisref09_Same.l0]
    refine Ev.pos (by omega) (Ev.pos (by omega) (Ev.pos (by omega) ?_))
    rw [rd_co, rd_co, Int.toNat_natCast, w64 (by omega) (by omega)]
    by_cases e : co f i = co g i
    · refine Ev.pos e (ih (i + 1) (by omega) (fun j hj => ?_))
      by_cases e2 : j = i
      · rw [e2]; exact e
      · exact h j (by omega)
    · refine Ev.neg e (Ev.con ?_)
      rw [decide_eq_false (fun h2 => e (by rw [h2]))]
theorem Same_is {f g : List Int} (hb : (f.length : Int) ≤ 1000000) : Ev (fun k => galoisref09_Same.f k f g) (decide (f = g)) := by
  unfold galoisref09_Same.f
  by_cases h : (f.length : Int) = (g.length : Int)
  · exact Ev.pos h (Same_loop (by omega) hb f.length 0 (by omega) (fun j hj => by omega))
  · exact Ev.neg h (Ev.con (by rw [decide_eq_false (fun e => h (by rw [e]))]))
end Go.Proofs.Ytmknclgamadphaa.MPolymodPrimes
