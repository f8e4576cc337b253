import Derived.Test.YtmknclgamadphaaPPolymodReducesx5
namespace Go.Proofs.Ytmknclgamadphaa.MPolymodReduces
open Go.RowKit Go.Proofs.Ytmknclgamadphaa.PPolymodReduces Go.Proofs.YtmknclgamadphaaW.PrintWords Go.Proofs.YtmknclgamadphaaW.PrintLast Go.Proofs.YtmknclgamadphaaW.PrintMore
set_option linter.unusedVariables false
set_option linter.unusedSimpArgs false
theorem Ev.succ {α : Type} {g : Nat → Option α} {r : α} (h : Ev (fun k => g (k + 1)) r) : Ev g r := Ev.step (fun _ => rfl) h
theorem Ev.pos {α : Type} {c : Prop} [Decidable c] {A B : Nat → Option α} {r : α} (hc : c) (h : Ev A r) : Ev (fun n => if c then A n else B n) r := by
  simpa only [if_pos hc] using h
theorem Ev.neg {α : Type} {c : Prop} [Decidable c] {A B : Nat → Option α} {r : α} (hc : ¬ c) (h : Ev B r) : Ev (fun n => if c then A n else B n) r := by
  simpa only [if_neg hc] using h
theorem Ev.con {α : Type} {a : Option α} {r : α} (h : a = some r) : Ev (fun _ => a) r := ⟨0, fun _ _ => h⟩
theorem Ev.cbind {α β : Type} {a : Option α} {x : α} {f : Nat → α → Option β} {r : β} (h : a = some x) (k : Ev (fun n => f n x) r) : Ev (fun n => a.bind (f n)) r := Ev.bind (Ev.con h) k
theorem Ev.eq {α : Type} {g : Nat → Option α} {r r' : α} (h : Ev g r) (e : r = r') : Ev g r' := e ▸ h
theorem w64 {x : Int} (h0 : -9223372036854775808 ≤ x) (h1 : x ≤ 9223372036854775807) : wrap64 x = x := by unfold wrap64; omega
def co (l : List Int) (i : Nat) : Int := l.getD i 0
theorem rd_co (l : List Int) (i : Int) : rd l i = co l i.toNat := rfl
theorem co_ge {l : List Int} {i : Nat} (h : l.length ≤ i) : co l i = 0 := by simp [co, h]
theorem co_nil (i : Nat) : co [] i = 0 := rfl
theorem co_zero (a : Int) (l : List Int) : co (a :: l) 0 = a := rfl
theorem co_succ (a : Int) (l : List Int) (i : Nat) : co (a :: l) (i + 1) = co l i := rfl
theorem co_set (l : List Int) (i : Nat) (x : Int) (j : Nat) : co (l.set i x) j = if i = j ∧ i < l.length then x else co l j := by
  by_cases h : i = j
  · subst h
    by_cases hl : i < l.length
    · simp [co, hl]
    · simp [co, hl]
  · simp [co, h]
theorem co_replicate (n i : Nat) : co (List.replicate n 0) i = 0 := by
  by_cases h : i < n <;> simp [co, h]
def tab (n : Nat) (F : Nat → Int) : List Int := (List.range n).map F
theorem tab_length (n : Nat) (F : Nat → Int) : (tab n F).length = n := by simp [tab]
theorem co_tab (n : Nat) (F : Nat → Int) (i : Nat) : co (tab n F) i = if i < n then F i else 0 := by
  by_cases h : i < n <;> simp [tab, co, h]
theorem co_append_left {l m : List Int} {i : Nat} (h : i < l.length) : co (l ++ m) i = co l i := by simp [co, List.getElem?_append_left h]
theorem co_take (l : List Int) (n i : Nat) : co (l.take n) i = if i < n then co l i else 0 := by
  by_cases h : i < n <;> simp [co, List.getElem?_take, h]
theorem co_trimZ (l : List Int) : ∀ i, co (trimZ l) i = co l i := by
  induction l with
  | nil => intro i; rfl
  | cons a l ih =>
    intro i
    unfold trimZ
    cases h : trimZ l with
    | nil =>
      rw [h] at ih
      by_cases ha : a = 0
      · simp only [ha, if_true]
        cases i with
        | zero => rfl
        | succ i => rw [co_succ, ← ih i]; rfl
      · simp only [ha, if_false]
        cases i with
        | zero => rfl
        | succ i => rw [co_succ, co_succ, ih i]
    | cons b t =>
      rw [h] at ih
      cases i with
      | zero => rfl
      | succ i => rw [co_succ, co_succ, ih i]
theorem trimZ_zero {l : List Int} (h : ∀ i, co l i = 0) : trimZ l = [] := by
  induction l with
  | nil => rfl
  | cons a l ih =>
    have h0 : a = 0 := h 0
    unfold trimZ
    rw [ih (fun i => h (i + 1))]
    simp [h0]
theorem trimZ_ext {l m : List Int} (h : ∀ i, co l i = co m i) : trimZ l = trimZ m := by
  induction l generalizing m with
  | nil => exact (trimZ_zero (fun i => (h i).symm)).symm
  | cons a l ih =>
    cases m with
    | nil => exact trimZ_zero h
    | cons b m =>
      have h0 : a = b := h 0
      unfold trimZ
      rw [ih (m := m) (fun i => h (i + 1)), h0]
def Tr (l : List Int) : Prop := trimZ l = l
theorem tr_trimZ (l : List Int) : Tr (trimZ l) := trimZ_ext (co_trimZ l)
theorem Tr.ext {l m : List Int} (hl : Tr l) (hm : Tr m) (h : ∀ i, co l i = co m i) : l = m := hl ▸ hm ▸ trimZ_ext h
theorem trimZ_len (l : List Int) : (trimZ l).length ≤ l.length := by
  induction l with
  | nil => exact Nat.le_refl _
  | cons a l ih =>
    unfold trimZ
    cases h : trimZ l with
    | nil => by_cases ha : a = 0 <;> simp [ha]
    | cons b t => rw [h] at ih; simp only [List.length_cons] at ih ⊢; omega
theorem trimZ_last {l : List Int} (h : trimZ l ≠ []) : co (trimZ l) ((trimZ l).length - 1) ≠ 0 := by
  induction l with
  | nil => exact absurd rfl h
  | cons a l ih =>
    unfold trimZ at h ⊢
    cases e : trimZ l with
    | nil =>
      rw [e] at h
      by_cases ha : a = 0
      · simp [ha] at h
      · simp [ha, co]
    | cons b t =>
      have := ih (by rw [e]; simp)
      rw [e] at this
      simpa [co] using this
theorem tr_of_last {l : List Int} (h : l = [] ∨ co l (l.length - 1) ≠ 0) : Tr l := by
  induction l with
  | nil => rfl
  | cons a l ih =>
    cases l with
    | nil => rcases h with h | h; · simp at h
             · have : a ≠ 0 := by simpa [co] using h
               simp [Tr, trimZ, this]
    | cons b t =>
      have h2 := ih (.inr (by rcases h with h | h; · simp at h
                              · simpa [co] using h))
      unfold Tr at h2 ⊢
      rw [trimZ, h2]
theorem Tr.last {l : List Int} (h : Tr l) (hn : l ≠ []) : co l (l.length - 1) ≠ 0 := by
  have := trimZ_last (l := l) (by rw [h]; exact hn)
  rwa [h] at this
theorem Tr.len_le {l : List Int} (h : Tr l) {n : Nat} (hz : ∀ i, n ≤ i → co l i = 0) : l.length ≤ n := by
  cases l with
  | nil => exact Nat.zero_le _
  | cons a l =>
    have := h.last (by simp)
    have h2 : ¬ n ≤ (a :: l).length - 1 := fun hn => this (hz _ hn)
    omega
def ofF (n : Nat) (F : Nat → Int) : List Int := trimZ (tab n F)
theorem ofF_len (n : Nat) (F : Nat → Int) : (ofF n F).length ≤ n := Nat.le_trans (trimZ_len _) (by rw [tab_length]; exact Nat.le_refl _)
theorem trimZ_ofF {l : List Int} {n : Nat} {F : Nat → Int} (hl : l.length = n) (h : ∀ i, i < n → co l i = F i) : trimZ l = ofF n F :=
  trimZ_ext fun i => by
    rw [co_tab]
    by_cases hi : i < n
    · rw [if_pos hi, h i hi]
    · rw [if_neg hi, co_ge (by omega)]
structure Val (p : Int) (l : List Int) : Prop where
  rng : ∀ i, 0 ≤ co l i ∧ co l i < p
  tr : Tr l
theorem Val.ext {p : Int} {l m : List Int} (hl : Val p l) (hm : Val p m) (h : ∀ i, co l i = co m i) : l = m := hl.tr.ext hm.tr h
structure Mo (p : Int) : Prop where
  lo : 2 ≤ p
  hi : p ≤ 65521
theorem Mo.pos {p : Int} (h : Mo p) : 0 < p := by have := h.lo; omega
theorem tmod_pos {a b : Int} (h : 0 ≤ a) : Int.tmod a b = a % b := Int.tmod_eq_emod_of_nonneg h
theorem trim_ev (l : List Int) : ∀ k, fp_Trim.f k l = some (trimZ l) := fun _ => rfl
theorem fp_Mod_is {p a : Int} (hp : Mo p) : fp_Mod.f p a = some (a % p) := by
  have := hp.lo
  unfold fp_Mod.f
  rw [if_neg (by omega)]
  have h2 := Int.emod_nonneg a (b := p) (by omega)
  have h3 := Int.emod_lt_of_pos a (b := p) (by omega)
  by_cases h : Int.tmod a p < 0
  · rw [if_pos h]
    by_cases ha : 0 ≤ a
    · rw [tmod_pos ha] at h; omega
    · have e : Int.tmod a p = a % p - p := by
        have h4 := Int.tmod_eq_emod (a := a) (b := p)
        rw [h4]
        have : ¬ (0 ≤ a ∨ p ∣ a) := by
          rintro (h5 | h5)
          · exact ha h5
          · rw [h4, if_pos (.inr h5)] at h
            rw [Int.emod_eq_zero_of_dvd h5] at h
            omega
        rw [if_neg this]
        omega
      rw [e, w64 (by have := hp.hi; omega) (by have := hp.hi; omega)]
      congr 1; omega
  · rw [if_neg h]
    by_cases ha : 0 ≤ a
    · rw [tmod_pos ha]
    · have h4 := Int.tmod_eq_emod (a := a) (b := p)
      by_cases h5 : p ∣ a
      · rw [h4, if_pos (.inr h5)]; simp
      · have : ¬ (0 ≤ a ∨ p ∣ a) := by rintro (h6 | h6); exact ha h6; exact h5 h6
        rw [h4, if_neg this] at h
        have : (p.natAbs : Int) = p := Int.natAbs_of_nonneg (by omega)
        omega
theorem ref_Mod_is {p a : Int} (hp : Mo p) : galoisref04_Mod.f a p = some (a % p) := by
  have := hp.lo
  have := hp.hi
  unfold galoisref04_Mod.f
  rw [if_neg (by omega)]
  have h2 := Int.emod_nonneg a (b := p) (by omega)
  have h3 := Int.emod_lt_of_pos a (b := p) (by omega)
  have h4 := Int.tmod_eq_emod (a := a) (b := p)
  have hb : -p < Int.tmod a p ∧ Int.tmod a p < p := by
    rw [h4]; split <;> omega
  rw [w64 (by omega) (by omega), tmod_pos (by omega)]
  congr 1
  rw [h4]
  have : (p.natAbs : Int) = p := Int.natAbs_of_nonneg (by omega)
  split
  · simp
  · rw [this, show a % p - p + p = a % p from by omega, Int.emod_emod_of_dvd _ (Int.dvd_refl p)]
def Prime (p : Int) : Prop := 2 ≤ p ∧ ∀ d, 2 ≤ d → d < p → ¬ d ∣ p
open Classical in
noncomputable def pr (n : Int) : Bool := decide (Prime n)
theorem pr_true {n : Int} (h : Prime n) : pr n = true := by simp [pr, h]
theorem pr_false {n : Int} (h : ¬ Prime n) : pr n = false := by simp [pr, h]
theorem prime_of {n d : Int} (hn : 2 ≤ n) (hd : 2 ≤ d) (h : ∀ e, 2 ≤ e → e < d → ¬ e ∣ n) (hdd : n < d * d) : Prime n := by
  refine ⟨hn, fun e he hen hdv => ?_⟩
  by_cases h1 : e < d
  · exact h e he h1 hdv
  · obtain ⟨q, hq⟩ := hdv
    have hq0 : 0 < q := by
      rcases Int.lt_or_le 0 q with h2 | h2
      · exact h2
      · have := Int.mul_nonneg (show 0 ≤ e by omega) (show 0 ≤ -q by omega)
        rw [Int.mul_neg] at this; omega
    have hqd : q < d := by
      rcases Int.lt_or_le q d with h2 | h2
      · exact h2
      · have h3 : d * d ≤ e * q := Int.mul_le_mul (by omega) h2 (by omega) (by omega)
        omega
    have hq2 : 2 ≤ q := by
      rcases Int.lt_or_le q 2 with h2 | h2
      · have : q = 1 := by omega
        rw [this] at hq; omega
      · exact h2
    exact h q hq2 hqd ⟨e, by rw [hq, Int.mul_comm]⟩
theorem not_prime_of {n d : Int} (hd : 2 ≤ d) (hdn : d < n) (h : d ∣ n) : ¬ Prime n := fun hp => hp.2 d hd hdn h
theorem tmod_zero_iff {a b : Int} : Int.tmod a b = 0 ↔ b ∣ a := (Int.dvd_iff_tmod_eq_zero ).symm
theorem ref_IsPrime_loop {n : Int} (h1 : 2 ≤ n) (h2 : n ≤ 2147483647) : ∀ (m : Nat) (d : Int), 2 ≤ d → d ≤ 65536 → 65536 - d = m → (∀ e, 2 ≤ e → e < d → ¬ e ∣ n) → Ev (fun k => galoisref04_IsPrime.l0 k n d) (pr n) := by
  intro m
  induction m with
  | zero =>
    intro d hd hd2 hm h
    have : d = 65536 := by omega
    subst this
    refine Ev.succ ?_
    simp only [galoisref04_IsPrime.l0]
    rw [w64 (by omega) (by omega)]
    refine Ev.neg (by omega) (Ev.con ?_)
    rw [pr_true (prime_of h1 hd h (by omega))]
    rw [decide_eq_true (by omega)]
  | succ m ih =>
    intro d hd hd2 hm h
    have hdd : 4 ≤ d * d ∧ d * d ≤ 4294967296 := ⟨Int.mul_le_mul hd hd (by omega) (by omega), Int.mul_le_mul hd2 hd2 (by omega) (by omega)⟩
    refine Ev.succ ?_
    simp only [galoisref04_IsPrime.l0]
    rw [w64 (by omega) (by omega), w64 (by omega) (by omega)]
    by_cases c : d * d ≤ n
    · refine Ev.pos c (Ev.neg (by omega) ?_)
      by_cases t : Int.tmod n d = 0
      · refine Ev.pos t (Ev.con ?_)
        have hdn : d < n := by
          have : d * 2 ≤ d * d := Int.mul_le_mul_of_nonneg_left hd (by omega)
          omega
        rw [pr_false (not_prime_of hd hdn (tmod_zero_iff.1 t))]
      · refine Ev.neg t (ih (d + 1) (by omega) (by omega) (by omega) (fun e he hed => ?_))
        by_cases e1 : e = d
        · rw [e1]; exact fun hc => t (tmod_zero_iff.2 hc)
        · exact h e he (by omega)
    · refine Ev.neg c (Ev.con ?_)
      rw [pr_true (prime_of h1 hd h (by omega)), decide_eq_true (by omega)]
theorem ref_IsPrime_is {n : Int} (h1 : 2 ≤ n) (h2 : n ≤ 2147483647) : Ev (fun k => galoisref04_IsPrime.f k n) (pr n) :=
  ref_IsPrime_loop h1 h2 65534 2 (by omega) (by omega) (by omega) (fun e h3 h4 => by omega)
def MoP (p : Int) : Prop := Mo p ∧ Prime p
open Classical in
noncomputable def pm (p : Int) : Bool := decide (MoP p)
theorem pm_iff {p : Int} : pm p = true ↔ MoP p := by simp [pm]
theorem pm_not {p : Int} (h : ¬ MoP p) : pm p = false := by simp [pm, h]
theorem ref09_IsPrime_is (p : Int) : Ev (fun k => galoisref09_IsPrime.f k p) (pm p) := by
  simp only [galoisref09_IsPrime.f]
  by_cases h1 : p ≥ 2
  · refine Ev.pos h1 ?_
    by_cases h2 : p ≤ 65521
    · refine Ev.pos h2 (Ev.bind (ref_IsPrime_is h1 (by omega)) (Ev.con ?_))
      have : pr p = pm p := by
        by_cases h : Prime p
        · rw [pr_true h, pm_iff.2 ⟨⟨h1, h2⟩, h⟩]
        · rw [pr_false h, pm_not (fun hm => h hm.2)]
      rw [this]
    · exact Ev.neg h2 (Ev.con (by rw [pm_not (fun hm => h2 hm.1.hi)]))
  · exact Ev.neg h1 (Ev.con (by rw [pm_not (fun hm => h1 hm.1.lo)]))
def prodF : List S126 → Int
  | [] => 1
  | x :: l => x.f0 ^ x.f1.toNat * prodF l
theorem prodF_append (l m : List S126) : prodF (l ++ m) = prodF l * prodF m := by
  induction l with
  | nil => simp [prodF]
  | cons x l ih => simp only [List.cons_append, prodF, ih, Int.mul_assoc]
def Asc (d : Int) : List S126 → Prop
  | [] => True
  | x :: l => Prime x.f0 ∧ 1 ≤ x.f1 ∧ x.f0 < d ∧ (∀ y ∈ l, x.f0 < y.f0) ∧ Asc d l
theorem Asc.mono {d e : Int} {l : List S126} (h : Asc d l) (hde : d ≤ e) : Asc e l := by
  induction l with
  | nil => trivial
  | cons x l ih => exact ⟨h.1, h.2.1, by have := h.2.2.1; omega, h.2.2.2.1, ih h.2.2.2.2⟩
theorem Asc.snoc {d : Int} {l : List S126} (h : Asc d l) {x : S126} (hp : Prime x.f0) (he : 1 ≤ x.f1) (hd : d ≤ x.f0) : Asc (x.f0 + 1) (l ++ [x]) := by
  induction l with
  | nil => exact ⟨hp, he, by omega, (fun y hy => by cases hy), trivial⟩
  | cons y l ih =>
    refine ⟨h.1, h.2.1, by have := h.2.2.1; omega, fun z hz => ?_, ih h.2.2.2.2⟩
    rcases List.mem_append.1 hz with hz | hz
    · exact h.2.2.2.1 z hz
    · rw [List.mem_singleton.1 hz]; have := h.2.2.1; omega
theorem step_is {d : Int} (hd : 2 ≤ d) : ∀ (m : Nat) (n c : Int), 1 ≤ n → n ≤ 2147483647 → n.toNat ≤ m → 0 ≤ c → c + m ≤ 9223372036854775000 →
    ∃ (n' : Int) (j : Nat), Ev (fun k => residue_factor.step k d n c) (n', c + j) ∧ n = n' * d ^ j ∧ 1 ≤ n' ∧ n' ≤ n ∧ ¬ d ∣ n' := by
  intro m
  induction m with
  | zero => intro n c h1 h2 h3; omega
  | succ m ih =>
    intro n c h1 h2 h3 hc hcm
    by_cases t : Int.tmod n d = 0
    · obtain ⟨q, hq⟩ := tmod_zero_iff.1 t
      have hq1 : 1 ≤ q := by
        rcases Int.lt_or_le q 1 with h | h
        · have := Int.mul_nonneg (show 0 ≤ d by omega) (show 0 ≤ -q by omega)
          rw [Int.mul_neg] at this; omega
        · exact h
      have hqn : q < n := by
        have : 2 * q ≤ d * q := Int.mul_le_mul_of_nonneg_right hd (by omega)
        omega
      have e : Int.tdiv n d = q := by rw [hq, Int.mul_tdiv_cancel_left _ (by omega)]
      obtain ⟨n', j, hj, h4, h5, h6, h7⟩ := ih q (c + 1) hq1 (by omega) (by omega) (by omega) (by omega)
      refine ⟨n', j + 1, ?_, ?_, h5, by omega, h7⟩
      · refine Ev.succ ?_
        simp only [residue_factor.step]
        refine Ev.neg (by omega) (Ev.pos t ?_)
        rw [e, w64 (by omega) (by omega), w64 (by omega) (by omega)]
        exact Ev.eq hj (by congr 1; push_cast; omega)
      · rw [hq, h4, Int.pow_succ, Int.mul_comm d, Int.mul_assoc]
    · refine ⟨n, 0, ?_, by simp, h1, Int.le_refl _, fun h => t (tmod_zero_iff.2 h)⟩
      refine Ev.succ ?_
      simp only [residue_factor.step]
      exact Ev.neg (by omega) (Ev.neg t (Ev.con (by simp)))
theorem trial_is {d n : Int} (hd : 2 ≤ d) (h1 : 1 ≤ n) (h2 : n ≤ 2147483647) {xs : List S126} (hl : xs.length < 1000000) (hA : Asc d xs) (hm : ∀ e, 2 ≤ e → e < d → ¬ e ∣ n) :
    ∃ (n' : Int) (ys : List S126), Ev (fun k => residue_factor.trial k d n xs) (n', ys) ∧ n' * prodF ys = n * prodF xs ∧ 1 ≤ n' ∧ n' ≤ n ∧ n' ∣ n ∧ ¬ d ∣ n' ∧ Asc (d + 1) ys ∧ ys.length ≤ xs.length + 1 := by
  obtain ⟨n', j, hj, h4, h5, h6, h7⟩ := step_is hd n.toNat n 0 h1 h2 (Nat.le_refl _) (by omega) (by omega)
  simp only [Int.zero_add] at hj
  by_cases j0 : 0 < j
  · have hdn : d ∣ n := by
      obtain ⟨i, rfl⟩ : ∃ i, j = i + 1 := ⟨j - 1, by omega⟩
      exact ⟨n' * d ^ i, by rw [h4, Int.pow_succ, Int.mul_comm d, Int.mul_assoc]⟩
    have hpd : Prime d := ⟨hd, fun e he hed hdv => hm e he hed (Int.dvd_trans hdv hdn)⟩
    refine ⟨n', xs ++ [⟨d, j⟩], ?_, ?_, h5, h6, ⟨_, h4⟩, h7, hA.snoc (x := ⟨d, j⟩) hpd (by show (1 : Int) ≤ j; omega) (Int.le_refl _), by simp⟩
    · unfold residue_factor.trial
      refine Ev.bind hj (Ev.pos (by show (j : Int) > 0; omega) (Ev.pos (by omega) (Ev.con rfl)))
    · rw [prodF_append, h4]
      simp only [prodF, Int.mul_one, Int.toNat_natCast]
      rw [Int.mul_comm (prodF xs), Int.mul_assoc]
  · have : j = 0 := by omega
    subst this
    refine ⟨n', xs, ?_, by rw [h4]; simp, h5, h6, ⟨_, h4⟩, h7, hA.mono (by omega), by omega⟩
    unfold residue_factor.trial
    exact Ev.bind hj (Ev.neg (by simp) (Ev.con rfl))
theorem factor_loop (N : Int) : ∀ (m : Nat) (d n : Int) (xs : List S126), 3 ≤ d → d ≤ 65537 → d % 2 = 1 → 65537 - d = m → 1 ≤ n → n ≤ 2147483647 → xs.length + 1 + m < 1000000 → Asc d xs → (∀ e, 2 ≤ e → e < d → ¬ e ∣ n) → n * prodF xs = N →
    ∃ ys : List S126, Ev (fun k => residue_factor.l0 k n xs d) ys ∧ prodF ys = N ∧ ∃ b, Asc b ys := by
  intro m
  induction m using Nat.strongRecOn with
  | _ m ih =>
    intro d n xs hd hd2 hodd hm h1 h2 hl hA hn hN
    have hdd : 9 ≤ d * d ∧ d * d ≤ 4295098369 := ⟨Int.mul_le_mul hd hd (by omega) (by omega), Int.mul_le_mul hd2 hd2 (by omega) (by omega)⟩
    by_cases c : d * d ≤ n
    · have hd3 : d < 65537 := by
        rcases Int.lt_or_le d 65537 with h | h
        · exact h
        · have : d = 65537 := by omega
          rw [this] at c; omega
      obtain ⟨n', ys, hy, e1, e2, e3, e4, e5, e6, e7⟩ := trial_is (by omega) h1 h2 (by omega) hA hn
      obtain ⟨zs, hz, z1, z2⟩ := ih (m - 2) (by omega) (d + 2) n' ys (by omega) (by omega) (by omega) (by omega) e2 (by omega) (by omega) (e6.mono (by omega)) (fun e he hed hdv => by
        have hdn := Int.dvd_trans hdv e4
        by_cases g1 : e < d
        · exact hn e he g1 hdn
        · by_cases g2 : e = d
          · rw [g2] at hdv; exact e5 hdv
          · have : e = d + 1 := by omega
            have h2e : (2 : Int) ∣ e := ⟨(d + 1) / 2, by omega⟩
            exact hn 2 (by omega) (by omega) (Int.dvd_trans h2e hdn)) (by rw [e1]; exact hN)
      refine ⟨zs, ?_, z1, z2⟩
      refine Ev.succ ?_
      simp only [residue_factor.l0]
      rw [w64 (by omega) (by omega), w64 (by omega) (by omega)]
      exact Ev.pos c (Ev.bind hy hz)
    · by_cases g : n > 1
      · have hpn : Prime n := prime_of (by omega) (by omega) hn (by omega)
        have hdn : d ≤ n := by
          rcases Int.lt_or_le n d with h | h
          · exact absurd (Int.dvd_refl n) (hn n (by omega) h)
          · exact h
        obtain ⟨n', ys, hy, e1, e2, e3, e4, e5, e6, e7⟩ := trial_is (d := n) (by omega) h1 h2 (by omega) (hA.mono hdn) (fun e he hed => hpn.2 e he hed)
        refine ⟨ys, ?_, ?_, _, e6⟩
        · refine Ev.succ ?_
          simp only [residue_factor.l0]
          rw [w64 (by omega) (by omega)]
          exact Ev.neg c (Ev.pos g (Ev.bind hy (Ev.con rfl)))
        · have : n' = 1 := by
            rcases Int.lt_or_le n' 2 with h | h
            · omega
            · rcases Int.lt_or_le n' n with h3 | h3
              · exact absurd e4 (hpn.2 n' h h3)
              · have : n' = n := by omega
                rw [this] at e5; exact absurd (Int.dvd_refl n) e5
          rw [this, Int.one_mul] at e1
          rw [e1, hN]
      · refine ⟨xs, ?_, ?_, _, hA⟩
        · refine Ev.succ ?_
          simp only [residue_factor.l0]
          rw [w64 (by omega) (by omega)]
          exact Ev.neg c (Ev.neg g (Ev.con rfl))
        · have : n = 1 := by omega
          rw [this, Int.one_mul] at hN; exact hN
theorem factor_is {n : Int} (h1 : 1 ≤ n) (h2 : n ≤ 2147483647) : ∃ ys : List S126, Ev (fun k => residue_factor.f k n) ys ∧ prodF ys = n ∧ ∃ b, Asc b ys := by
  obtain ⟨n', ys, hy, e1, e2, e3, e4, e5, e6, e7⟩ := trial_is (d := 2) (n := n) (xs := []) (by omega) h1 h2 (by simp) trivial (fun e h3 h4 => by omega)
  obtain ⟨zs, hz, z1, z2⟩ := factor_loop n 65534 3 n' ys (by omega) (by omega) (by omega) (by omega) e2 (by omega) (by simp at e7; omega) (e6.mono (by omega)) (fun e h3 h4 h5 => by
    have : e = 2 := by omega
    rw [this] at h5; exact e5 h5) (by rw [e1]; simp [prodF])
  exact ⟨zs, Ev.bind hy hz, z1, z2⟩
theorem prodF_pos {b : Int} {l : List S126} (h : Asc b l) : 1 ≤ prodF l := by
  induction l with
  | nil => exact Int.le_refl _
  | cons x l ih =>
    have h1 : 0 < x.f0 ^ x.f1.toNat := Int.pow_pos (by have := h.1.1; omega)
    have h2 := ih h.2.2.2.2
    have := Int.mul_le_mul (show 1 ≤ x.f0 ^ x.f1.toNat from h1) h2 (by omega) (by omega)
    simpa [prodF] using this
theorem prime_factors {n b : Int} {l : List S126} (hp : Prime n) (h : prodF l = n) (hA : Asc b l) : l = [⟨n, 1⟩] := by
  cases l with
  | nil => simp only [prodF] at h; have := hp.1; omega
  | cons x l =>
    have hx := hA.1
    have he := hA.2.1
    obtain ⟨j, hj⟩ : ∃ j : Nat, x.f1.toNat = j + 1 := ⟨x.f1.toNat - 1, by omega⟩
    have hr := prodF_pos hA.2.2.2.2
    have hq : 0 < x.f0 ^ j := Int.pow_pos (by have := hx.1; omega)
    simp only [prodF, hj, Int.pow_succ] at h
    have hdv : x.f0 ∣ n := ⟨x.f0 ^ j * prodF l, by rw [← h, Int.mul_comm (x.f0 ^ j), Int.mul_assoc]⟩
    have hxn : x.f0 = n := by
      have hle : x.f0 ≤ n := Int.le_of_dvd (by have := hp.1; omega) hdv
      rcases Int.lt_or_le x.f0 n with h3 | h3
      · exact absurd hdv (hp.2 _ hx.1 h3)
      · omega
    have hpr : x.f0 ^ j * prodF l = 1 := by
      have h4 : n * (x.f0 ^ j * prodF l) = n * 1 := by
        rw [← hxn]; rw [← hxn] at h
        rw [Int.mul_one, ← Int.mul_assoc, Int.mul_comm x.f0]; exact h
      exact Int.eq_of_mul_eq_mul_left (by have := hp.1; omega) h4
    have hj0 : j = 0 := by
      cases j with
      | zero => rfl
      | succ j =>
        have h5 : 0 < x.f0 ^ j := Int.pow_pos (by have := hx.1; omega)
        have h6 : 2 * 1 ≤ x.f0 ^ (j + 1) := by
          rw [Int.pow_succ, Int.mul_comm (x.f0 ^ j)]; exact Int.mul_le_mul hx.1 h5 (by omega) (by have := hx.1; omega)
        have h7 : x.f0 ^ (j + 1) * 1 ≤ x.f0 ^ (j + 1) * prodF l := Int.mul_le_mul_of_nonneg_left hr (by omega)
        omega
    have hx1 : x.f1 = 1 := by omega
    have hl : l = [] := by
      cases l with
      | nil => rfl
      | cons y l =>
        rw [hj0] at hpr
        simp only [Int.pow_zero, Int.one_mul, prodF] at hpr
        have hy := hA.2.2.2.2
        obtain ⟨i, hi⟩ : ∃ i : Nat, y.f1.toNat = i + 1 := ⟨y.f1.toNat - 1, by have := hy.2.1; omega⟩
        have h5 : 0 < y.f0 ^ i := Int.pow_pos (by have := hy.1.1; omega)
        have h6 : 2 * 1 ≤ y.f0 ^ y.f1.toNat := by
          rw [hi, Int.pow_succ, Int.mul_comm (y.f0 ^ i)]; exact Int.mul_le_mul hy.1.1 h5 (by omega) (by have := hy.1.1; omega)
        have h7 : y.f0 ^ y.f1.toNat * 1 ≤ y.f0 ^ y.f1.toNat * prodF l := Int.mul_le_mul_of_nonneg_left (prodF_pos hy.2.2.2.2) (by omega)
        omega
    rw [hl]
    cases x
    simp only at hxn hx1
    rw [hxn, hx1]
theorem residue_prime_is {n : Int} (h1 : 1 ≤ n) (h2 : n ≤ 2147483647) : Ev (fun k => residue_prime.f k n) (pr n) := by
  obtain ⟨ys, hy, e1, b, hb⟩ := factor_is h1 h2
  unfold residue_prime.f
  refine Ev.bind hy ?_
  by_cases hp : Prime n
  · have := prime_factors hp e1 hb
    subst this
    exact Ev.pos (by simp) (Ev.pos (by simp) (Ev.con (by rw [pr_true hp]; rfl)))
  · rw [pr_false hp]
    by_cases hl : (ys.length : Int) = 1
    · refine Ev.pos hl (Ev.pos (by omega) (Ev.con ?_))
      congr 1
      match ys, hl, hb, e1 with
      | [x], _, hb, e1 =>
        show (x.f1 == 1) = false
        rw [beq_eq_false_iff_ne]
        intro h
        simp only [prodF, h, Int.mul_one] at e1
        have : x.f0 = n := by rw [← e1]; exact (Int.pow_one _).symm
        have h9 : Prime x.f0 := hb.1
        rw [this] at h9
        exact hp h9
    · exact Ev.neg hl (Ev.con rfl)
theorem residue_IsPrime_is {n : Int} (h1 : 1 ≤ n) (h2 : n ≤ 2147483647) : Ev (fun k => residue_IsPrime.f k n) (pr n, 0) := by
  unfold residue_IsPrime.f
  refine Ev.bind (Ev.con (show residue_bad.f 0 [n] = some false from ?_)) (Ev.neg (by simp) (Ev.bind (residue_prime_is h1 h2) (Ev.con rfl)))
  simp [residue_bad.f]; omega
theorem polymod_prime_is (p : Int) : Ev (fun k => polymod_prime.f k p) (if pm p = true then 0 else 7) := by
  have hj : ∀ b : Bool, (b = true → ¬ MoP p) → (b = false → Mo p) → Ev (fun k => polymod_prime.j0 k p b) (if pm p = true then 0 else 7) := by
    intro b h1 h2
    refine Ev.succ ?_
    simp only [polymod_prime.j0]
    cases b with
    | true => exact Ev.pos rfl (Ev.con (by rw [pm_not (h1 rfl)]; rfl))
    | false =>
      have hm := h2 rfl
      refine Ev.neg (by simp) (Ev.bind (residue_IsPrime_is (by have := hm.lo; omega) (by have := hm.hi; omega)) (Ev.pos rfl ?_))
      by_cases hp : Prime p
      · exact Ev.pos (pr_true hp) (Ev.con (by rw [pm_iff.2 ⟨hm, hp⟩]; rfl))
      · exact Ev.neg (by rw [pr_false hp]; simp) (Ev.con (by rw [pm_not (fun h => hp h.2)]; rfl))
  simp only [polymod_prime.f]
  by_cases h1 : p < 2
  · exact Ev.pos h1 (hj true (fun _ h => by have := h.1.lo; omega) (fun h => by cases h))
  · refine Ev.neg h1 (hj _ (fun h hm => ?_) (fun h => ?_))
    · have := of_decide_eq_true h; have := hm.1.hi; omega
    · have := of_decide_eq_false h; exact ⟨by omega, by omega⟩
def inR (p : Int) (l : List Int) : Prop := ∀ i, i < l.length → 0 ≤ co l i ∧ co l i < p
open Classical in
noncomputable def chk (p : Int) (l : List Int) : Int := if MoP p then (if l.length > 65 then 4 else if ¬ inR p l then 1 else if 0 < l.length ∧ co l (l.length - 1) = 0 then 1 else 0) else 7
theorem Same_loop {f g : List Int} (hl : f.length = g.length) (hb : (f.length : Int) ≤ 1000000) : ∀ (d i : Nat), i + d = f.length → (∀ j, j < i → co f j = co g j) → Ev (fun k => galoisref09_Same.l0 k f g (i : Int)) (decide (f = g)) := by
  intro d
  induction d with
  | zero =>
    intro i hi h
    refine Ev.succ ?_
    simp only [galoisref09_Same.l0]
    refine Ev.neg (by omega) (Ev.con ?_)
    rw [decide_eq_true]
    apply List.ext_getElem hl
    intro j h1 h2
    have := h j (by omega)
    simpa [co, h1, h2] using this
  | succ d ih =>
    intro i hi h
    refine Ev.succ ?_
    simp only [galoisref09_Same.l0]
    refine Ev.pos (by omega) (Ev.pos (by omega) (Ev.pos (by omega) ?_))
    rw [rd_co, rd_co, Int.toNat_natCast, w64 (by omega) (by omega)]
    by_cases e : co f i = co g i
    · refine Ev.pos e (ih (i + 1) (by omega) (fun j hj => ?_))
      by_cases e2 : j = i
      · rw [e2]; exact e
      · exact h j (by omega)
    · refine Ev.neg e (Ev.con ?_)
      rw [decide_eq_false (fun h2 => e (by rw [h2]))]
theorem Same_is {f g : List Int} (hb : (f.length : Int) ≤ 1000000) : Ev (fun k => galoisref09_Same.f k f g) (decide (f = g)) := by
  unfold galoisref09_Same.f
  by_cases h : (f.length : Int) = (g.length : Int)
  · exact Ev.pos h (Same_loop (by omega) hb f.length 0 (by omega) (fun j hj => by omega))
  · exact Ev.neg h (Ev.con (by rw [decide_eq_false (fun e => h (by rw [e]))]))
theorem right_err {x : List Int} {e e0 : Int} {w : List Int} (h0 : e0 ≠ 0) (hx : x = []) (he : e = e0) : Ev (fun k => galoislaw09_right.f k x e e0 w) true := by
  unfold galoislaw09_right.f
  refine Ev.neg h0 (Ev.pos (by rw [hx]; rfl) (Ev.con ?_))
  rw [he]; simp
theorem right_large {x : List Int} {e : Int} {w : List Int} (hw : 65 < w.length) (hx : x = []) (he : e = 4) : Ev (fun k => galoislaw09_right.f k x e 0 w) true := by
  unfold galoislaw09_right.f
  refine Ev.pos rfl (Ev.bind (Ev.con (show galoisref09_Large.f w = some 4 from ?_)) (Ev.neg (by decide) (Ev.pos (by rw [hx]; rfl) (Ev.con (by rw [he]; rfl)))))
  unfold galoisref09_Large.f
  rw [if_pos (by omega)]
theorem right_ok {x : List Int} {e : Int} {w : List Int} (hw : w.length ≤ 65) (hx : x = w) (he : e = 0) : Ev (fun k => galoislaw09_right.f k x e 0 w) true := by
  unfold galoislaw09_right.f
  refine Ev.pos rfl (Ev.bind (Ev.con (show galoisref09_Large.f w = some 0 from ?_)) (Ev.pos rfl ?_))
  · unfold galoisref09_Large.f
    rw [if_neg (by omega)]
  · subst hx
    refine Ev.bind (Same_is (by omega)) (Ev.pos (by simp) (Ev.con (by rw [he]; rfl)))
theorem set_pref {out : List Int} {i : Nat} {x : Int} {F : Nat → Int} (hi : i < out.length) (hx : x = F i) (h : ∀ j, j < i → co out j = F j) : ∀ j, j < i + 1 → co (out.set i x) j = F j := by
  intro j hj
  rw [co_set]
  by_cases e : i = j
  · rw [if_pos ⟨e, hi⟩, hx, e]
  · rw [if_neg (fun h => e h.1), h j (by omega)]
theorem ref_Trim_is : ∀ (m : Nat) (l : List Int), l.length = m → m ≤ 1000000 → Ev (fun k => galoisref09_Trim.l0 k l) (trimZ l) := by
  intro m
  induction m with
  | zero =>
    intro l hl hm
    have : l = [] := List.length_eq_zero_iff.1 hl
    subst this
    refine Ev.succ ?_
    simp only [galoisref09_Trim.l0]
    exact Ev.neg (by simp) (Ev.con rfl)
  | succ m ih =>
    intro l hl hm
    refine Ev.succ ?_
    simp only [galoisref09_Trim.l0]
    rw [w64 (by omega) (by omega)]
    refine Ev.pos (by omega) (Ev.pos (by omega) (Ev.pos (by omega) ?_))
    rw [rd_co, show ((l.length : Int) - 1).toNat = m from by omega]
    have hs : l = l.take m ++ [co l m] := by
      have h1 : l.take (m + 1) = l := List.take_of_length_le (by omega)
      have h2 := List.take_succ_eq_append_getElem (l := l) (i := m) (by omega)
      rw [h1] at h2
      have h3 : co l m = l[m] := by simp [co, show m < l.length from by omega]
      rw [h3]; exact h2
    by_cases e : co l m = 0
    · refine Ev.pos e (Ev.pos (by omega) ?_)
      have h1 : trimZ l = trimZ (l.take m) := trimZ_ext fun i => by
        rw [co_take]
        by_cases hi : i < m
        · rw [if_pos hi]
        · rw [if_neg hi]
          by_cases e2 : i = m
          · rw [e2]; exact e
          · exact co_ge (by omega)
      rw [h1]
      exact ih _ (by rw [List.length_take]; omega) (by omega)
    · refine Ev.neg e (Ev.con ?_)
      have h1 : Tr l := tr_of_last (.inr (by rw [hl]; exact e))
      rw [h1]
theorem ref_Trim_ev {l : List Int} (h : l.length ≤ 1000000) : Ev (fun k => galoisref09_Trim.f k l) (trimZ l) := by
  unfold galoisref09_Trim.f
  exact ref_Trim_is _ l rfl h
def vl (B : Nat) : List Int → Nat
  | [] => 0
  | a :: l => a.toNat + B * vl B l
def Wd (B : Nat) (l : List Int) : Prop := ∀ i, 0 ≤ co l i ∧ co l i < (B : Int)
theorem Wd.tail {B : Nat} {a : Int} {l : List Int} (h : Wd B (a :: l)) : Wd B l := fun i => h (i + 1)
theorem Wd.cons {B : Nat} {a : Int} {l : List Int} (h0 : 0 ≤ a) (h1 : a < (B : Int)) (h : Wd B l) : Wd B (a :: l) := fun i => by
  cases i with
  | zero => exact ⟨h0, h1⟩
  | succ i => exact h i
theorem wd_nil {B : Nat} (hB : 0 < B) : Wd B [] := fun i => by rw [co_nil]; omega
theorem vl_digit {B : Nat} (hB : 0 < B) : ∀ (i : Nat) (l : List Int), Wd B l → co l i = ((vl B l / B ^ i % B : Nat) : Int) := by
  intro i
  induction i with
  | zero =>
    intro l h
    cases l with
    | nil => simp [vl, co_nil]
    | cons a l =>
      have := h 0
      rw [co_zero] at this ⊢
      rw [Nat.pow_zero, Nat.div_one]
      show a = ((a.toNat + B * vl B l) % B : Nat)
      rw [Nat.add_mul_mod_self_left, Nat.mod_eq_of_lt (by omega)]
      omega
  | succ i ih =>
    intro l h
    cases l with
    | nil => simp [vl, co_nil]
    | cons a l =>
      have := h 0
      rw [co_zero] at this
      rw [co_succ, ih l h.tail, Nat.pow_succ, Nat.mul_comm (B ^ i) B, ← Nat.div_div_eq_div_mul]
      show _ = (((a.toNat + B * vl B l) / B / B ^ i % B : Nat) : Int)
      have e0 : a.toNat / B = 0 := Nat.div_eq_of_lt (by omega)
      rw [Nat.add_mul_div_left _ _ hB, e0, Nat.zero_add]
theorem vl_lt {B : Nat} (hB : 0 < B) : ∀ l : List Int, Wd B l → vl B l < B ^ l.length := by
  intro l
  induction l with
  | nil => intro _; exact Nat.one_pos
  | cons a l ih =>
    intro h
    have h0 := h 0
    rw [co_zero] at h0
    have h1 := ih h.tail
    show a.toNat + B * vl B l < B ^ (l.length + 1)
    have : B * (vl B l + 1) ≤ B * B ^ l.length := Nat.mul_le_mul_left _ h1
    rw [Nat.mul_add, Nat.mul_one] at this
    rw [Nat.pow_succ, Nat.mul_comm (B ^ l.length) B]
    omega
theorem vl_inj {B : Nat} (hB : 0 < B) {l m : List Int} (hl : Tr l) (hm : Tr m) (wl : Wd B l) (wm : Wd B m) (h : vl B l = vl B m) : l = m :=
  hl.ext hm fun i => by rw [vl_digit hB i l wl, vl_digit hB i m wm, h]
theorem vl_ext {B : Nat} : ∀ (l m : List Int), (∀ i, co l i = co m i) → vl B l = vl B m := by
  have hz : ∀ l : List Int, (∀ i, co l i = 0) → vl B l = 0 := by
    intro l
    induction l with
    | nil => intro _; rfl
    | cons a l ih =>
      intro h
      have h0 := h 0
      rw [co_zero] at h0
      show a.toNat + B * vl B l = 0
      rw [h0, ih fun i => h (i + 1)]; rfl
  intro l
  induction l with
  | nil => intro m h; exact (hz m fun i => (h i).symm).symm
  | cons a l ih =>
    intro m h
    cases m with
    | nil => exact hz _ h
    | cons b m =>
      have h0 := h 0
      rw [co_zero, co_zero] at h0
      show a.toNat + B * vl B l = b.toNat + B * vl B m
      rw [h0, ih m fun i => h (i + 1)]
theorem vl_trimZ {B : Nat} (l : List Int) : vl B (trimZ l) = vl B l := vl_ext _ _ (co_trimZ l)
theorem Wd.trimZ {B : Nat} {l : List Int} (h : Wd B l) : Wd B (trimZ l) := fun i => by rw [co_trimZ]; exact h i
theorem vl_len {B : Nat} (hB : 1 < B) {l : List Int} (hl : Tr l) (wl : Wd B l) {n : Nat} (h : vl B l < B ^ n) : l.length ≤ n := hl.len_le fun i hi => by
  rw [vl_digit (by omega) i l wl, Nat.div_eq_of_lt (Nat.lt_of_lt_of_le h (Nat.pow_le_pow_right (by omega) hi))]
  simp
theorem vl_zero_iff {B : Nat} (hB : 1 < B) {l : List Int} (hl : Tr l) (wl : Wd B l) : vl B l = 0 ↔ l = [] := by
  constructor
  · intro h
    exact List.length_eq_zero_iff.1 (Nat.le_zero.1 (vl_len hB hl wl (n := 0) (by rw [h]; exact Nat.one_pos)))
  · intro h; rw [h]; rfl
def numB (e : ByteArray) : Nat → Nat
  | 0 => 0
  | i + 1 => numB e i * 256 + (bt e (i : Int)).toNat
def nb (e : ByteArray) : Nat := numB e e.size
theorem numB_lt (e : ByteArray) : ∀ i, numB e i < 256 ^ i := by
  intro i
  induction i with
  | zero => exact Nat.one_pos
  | succ i ih =>
    have := bt_range e (i : Int)
    show numB e i * 256 + (bt e (i : Int)).toNat < 256 ^ (i + 1)
    rw [Nat.pow_succ]
    omega
def Nf (e : ByteArray) : Prop := 0 < e.size → bt e 0 ≠ 0
theorem numB_ge {e : ByteArray} (h : Nf e) : ∀ i, i < e.size → 256 ^ i ≤ numB e (i + 1) := by
  intro i
  induction i with
  | zero =>
    intro hi
    have := bt_range e 0
    have := h hi
    show 1 ≤ 0 * 256 + (bt e ((0 : Nat) : Int)).toNat
    have e0 : ((0 : Nat) : Int) = 0 := rfl
    rw [e0]
    omega
  | succ i ih =>
    intro hi
    have := ih (by omega)
    show _ ≤ numB e (i + 1) * 256 + _
    rw [Nat.pow_succ]
    omega
theorem nb_pos {e : ByteArray} (h : Nf e) (hs : 0 < e.size) : 0 < nb e := by
  have := numB_ge h (e.size - 1) (by omega)
  rw [show e.size - 1 + 1 = e.size from by omega] at this
  have h2 : 0 < 256 ^ (e.size - 1) := Nat.pow_pos (by omega)
  unfold nb
  omega
theorem nb_zero {e : ByteArray} (hs : e.size = 0) : nb e = 0 := by unfold nb; rw [hs]; rfl
theorem nb_size {e : ByteArray} (h : Nf e) {n : Nat} (hv : nb e < 256 ^ n) : e.size ≤ n := Nat.le_of_not_lt fun hlt => by
  have := numB_ge h (e.size - 1) (by omega)
  rw [show e.size - 1 + 1 = e.size from by omega] at this
  have h2 : 256 ^ n ≤ 256 ^ (e.size - 1) := Nat.pow_le_pow_right (by omega) (by omega)
  unfold nb at hv
  omega
theorem toList_loop_ (bs : ByteArray) : ∀ (n i : Nat) (r : List UInt8), bs.size - i = n → (ByteArray.toList.loop bs i r).length = r.length + n := by
  intro n
  induction n with
  | zero => intro i r h; rw [ByteArray.toList.loop, if_neg (by omega), List.length_reverse]; rfl
  | succ n ih => intro i r h; rw [ByteArray.toList.loop, if_pos (by omega), ih _ _ (by omega), List.length_cons]; omega
theorem toList_nil (bs : ByteArray) : bs.toList = [] ↔ bs.size = 0 := by
  have h : bs.toList.length = bs.size := by
    unfold ByteArray.toList
    rw [toList_loop_ bs bs.size 0 [] (by omega)]; simp
  rw [← List.length_eq_zero_iff, h]
theorem bt_strOfNums {l : List Int} (h : ∀ i, 0 ≤ co l i ∧ co l i < 256) (i : Nat) : bt (strOfNums l) (i : Int) = co l i := by
  unfold bt
  by_cases hi : i < l.length
  · have hs : ((i : Int)).toNat < (strOfNums l).size := by rw [strOfNums_size]; exact hi
    rw [dif_pos hs]
    have e : (strOfNums l)[((i : Int)).toNat]'hs = UInt8.ofNat (co l i).toNat := by
      show (strOfNums l).data[((i : Int)).toNat]'hs = _
      simp only [strOfNums, Int.toNat_natCast, List.getElem_toArray, List.getElem_map]
      congr 2
      simp [co, hi]
    rw [e, UInt8.toNat_ofNat']
    have := h i
    rw [Nat.mod_eq_of_lt (by omega)]
    omega
  · rw [dif_neg (by rw [strOfNums_size]; exact hi), co_ge (by omega)]
end Go.Proofs.Ytmknclgamadphaa.MPolymodReduces
