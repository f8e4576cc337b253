/- Numbers: primes, and what trial division leaves. No program in sight. -/
import Derived.Test.YtohmfjmgeecfkaaGreatR54
import Derived.Test.YtohmfjmgeecfkaaGreatVLM
namespace Go.AM
def PrimeN (n : Nat) : Prop := 2 ≤ n ∧ ∀ d, 2 ≤ d → d < n → ¬ d ∣ n
open Classical in
noncomputable def isP (n : Nat) : Bool := decide (PrimeN n)
theorem isP_iff {n : Nat} : isP n = true ↔ PrimeN n := by simp [isP]
def prodN : List (Nat × Nat) → Nat
  | [] => 1
  | x :: l => x.1 ^ x.2 * prodN l
theorem prodN_append (l m : List (Nat × Nat)) : prodN (l ++ m) = prodN l * prodN m := by
  induction l with
  | nil => simp [prodN]
  | cons x l ih => simp only [List.cons_append, prodN, ih, Nat.mul_assoc]
theorem primeN_of {n d : Nat} (hn : 2 ≤ n) (h : ∀ e, 2 ≤ e → e < d → ¬ e ∣ n) (hdd : n < d * d) : PrimeN n := by
  refine ⟨hn, fun e he hen hdv => ?_⟩
  by_cases h1 : e < d
  · exact h e he h1 hdv
  · obtain ⟨q, hq⟩ := hdv
    have hqd : q < d := by
      rcases Nat.lt_or_ge q d with h2 | h2
      · exact h2
      · have h3 : d * d ≤ e * q := Nat.mul_le_mul (by omega) h2
        omega
    have hq2 : 2 ≤ q := by
      rcases Nat.lt_or_ge q 2 with h2 | h2
      · have : q = 0 ∨ q = 1 := by omega
        rcases this with rfl | rfl <;> omega
      · exact h2
    exact h q hq2 hqd ⟨e, by rw [hq, Nat.mul_comm]⟩
/-- what trial division up to d has found -/
structure Gd (n d m : Nat) (l : List (Nat × Nat)) : Prop where
  pos : 1 ≤ m
  prod : n = m * prodN l
  pr : ∀ x ∈ l, PrimeN x.1 ∧ 1 ≤ x.2
  no : ∀ e, 2 ≤ e → e < d → ¬ e ∣ m
theorem Gd.step {n d m : Nat} {l : List (Nat × Nat)} (h : Gd n d m l) (hd : 2 ≤ d) {m' c : Nat} (hm : m = m' * d ^ c) (hn : ¬ d ∣ m') : Gd n (d + 1) m' (if c = 0 then l else l ++ [(d, c)]) := by
  have hm' : 1 ≤ m' := by
    rcases Nat.eq_zero_or_pos m' with h0 | h0
    · subst h0; exact absurd (Nat.dvd_zero d) hn
    · exact h0
  have hno : ∀ e, 2 ≤ e → e < d + 1 → ¬ e ∣ m' := fun e h1 h2 hv => by
    rcases Nat.lt_or_ge e d with h3 | h3
    · exact h.no e h1 h3 (hm ▸ Nat.dvd_trans hv ⟨d ^ c, rfl⟩)
    · have : e = d := by omega
      exact hn (this ▸ hv)
  by_cases hc : c = 0
  · subst hc
    rw [if_pos rfl]
    have : m = m' := by rw [hm]; simp
    subst this
    exact ⟨hm', h.prod, h.pr, hno⟩
  · rw [if_neg hc]
    refine ⟨hm', ?_, fun x hx => ?_, hno⟩
    · rw [prodN_append, h.prod, hm]; simp only [prodN, Nat.mul_one]
      rw [Nat.mul_assoc, Nat.mul_comm (d ^ c)]
    · rcases List.mem_append.1 hx with hx | hx
      · exact h.pr x hx
      · rw [List.mem_singleton] at hx; subst hx
        refine ⟨⟨hd, fun e h1 h2 hv => h.no e h1 h2 ?_⟩, by show 1 ≤ c; omega⟩
        refine Nat.dvd_trans hv ?_
        obtain ⟨c', rfl⟩ : ∃ c', c = c' + 1 := ⟨c - 1, by omega⟩
        rw [hm]; exact ⟨m' * d ^ c', by rw [Nat.pow_succ, ← Nat.mul_assoc, Nat.mul_comm]⟩
theorem Gd.odd {n d m : Nat} {l : List (Nat × Nat)} (h : Gd n (d + 1) m l) (hd : 2 ≤ d) (ho : d % 2 = 1) : Gd n (d + 2) m l := by
  refine ⟨h.pos, h.prod, h.pr, fun e h1 h2 hv => ?_⟩
  rcases Nat.lt_or_ge e (d + 1) with h3 | h3
  · exact h.no e h1 h3 hv
  · have : e = d + 1 := by omega
    subst this
    exact h.no 2 (by omega) (by omega) (Nat.dvd_trans ⟨(d + 1) / 2, by omega⟩ hv)
theorem prodN_pos {l : List (Nat × Nat)} (h : ∀ x ∈ l, PrimeN x.1 ∧ 1 ≤ x.2) : 1 ≤ prodN l := by
  induction l with
  | nil => exact Nat.le_refl _
  | cons x l ih =>
    have h1 : 0 < x.1 ^ x.2 := Nat.pow_pos (by have := (h x (List.mem_cons_self ..)).1.1; omega)
    exact Nat.mul_pos h1 (ih fun y hy => h y (List.mem_cons_of_mem _ hy))
/-- a full row of factors tells a prime -/
def one1 : List (Nat × Nat) → Bool
  | [x] => x.2 == 1
  | _ => false
theorem one1_iff {n : Nat} {l : List (Nat × Nat)} (hn : 2 ≤ n) (h : n = prodN l) (hp : ∀ x ∈ l, PrimeN x.1 ∧ 1 ≤ x.2) : one1 l = isP n := by
  by_cases hP : PrimeN n
  · rw [isP_iff.2 hP]
    cases l with
    | nil => simp only [prodN] at h; omega
    | cons x l =>
      obtain ⟨hx, he⟩ := hp x (List.mem_cons_self ..)
      have hl : ∀ y ∈ l, PrimeN y.1 ∧ 1 ≤ y.2 := fun y hy => hp y (List.mem_cons_of_mem _ hy)
      have hr := prodN_pos hl
      obtain ⟨j, hj⟩ : ∃ j, x.2 = j + 1 := ⟨x.2 - 1, by omega⟩
      simp only [prodN, hj, Nat.pow_succ] at h
      have hq : 0 < x.1 ^ j := Nat.pow_pos (by have := hx.1; omega)
      have hdv : x.1 ∣ n := ⟨x.1 ^ j * prodN l, by rw [h, Nat.mul_comm (x.1 ^ j), Nat.mul_assoc]⟩
      have hxn : x.1 = n := by
        have hle := Nat.le_of_dvd (by omega) hdv
        rcases Nat.lt_or_ge x.1 n with h3 | h3
        · exact absurd hdv (hP.2 _ hx.1 h3)
        · omega
      have h1 : x.1 ^ j * prodN l = 1 := by
        have h4 : n * (x.1 ^ j * prodN l) = n * 1 := by
          rw [Nat.mul_one]; rw [hxn] at h ⊢; rw [← Nat.mul_assoc, Nat.mul_comm n]; exact h.symm
        exact Nat.eq_of_mul_eq_mul_left (by omega) h4
      have h5 := Nat.eq_one_of_mul_eq_one_right h1
      have h6 := Nat.eq_one_of_mul_eq_one_left h1
      have hj0 : j = 0 := by
        cases j with
        | zero => rfl
        | succ j =>
          have := Nat.eq_one_of_mul_eq_one_left (show x.1 ^ j * x.1 = 1 from h5)
          have := hx.1; omega
      cases l with
      | nil => simp only [one1, hj, hj0]; rfl
      | cons y l =>
        obtain ⟨hy, hy1⟩ := hl y (List.mem_cons_self ..)
        obtain ⟨i, hi⟩ : ∃ i, y.2 = i + 1 := ⟨y.2 - 1, by omega⟩
        simp only [prodN, hi, Nat.pow_succ] at h6
        have := Nat.eq_one_of_mul_eq_one_left (Nat.eq_one_of_mul_eq_one_right h6)
        have := hy.1; omega
  · have e : isP n = false := by cases hb : isP n; rfl; exact absurd (isP_iff.1 hb) hP
    rw [e]
    match l, h, hp with
    | [], h, hp => rfl
    | [x], h, hp =>
      simp only [one1, beq_eq_false_iff_ne]
      intro h1
      simp only [prodN, h1, Nat.pow_one, Nat.mul_one] at h
      exact hP (h ▸ (hp x (List.mem_cons_self ..)).1)
    | _ :: _ :: _, h, hp => rfl
/-- the end of trial division -/
theorem Gd.last {n d m : Nat} {l : List (Nat × Nat)} (h : Gd n d m l) (hm : 2 ≤ m) (hdd : m < d * d) {m' c : Nat} (he : m = m' * m ^ c) (hn : ¬ m ∣ m') : n = prodN (if c = 0 then l else l ++ [(m, c)]) ∧ ∀ x ∈ (if c = 0 then l else l ++ [(m, c)]), PrimeN x.1 ∧ 1 ≤ x.2 := by
  have hc : c = 1 := by
    rcases Nat.lt_or_ge c 1 with h1 | h1
    · have : c = 0 := by omega
      subst this
      rw [Nat.pow_zero, Nat.mul_one] at he
      exact absurd (he ▸ Nat.dvd_refl m) hn
    · rcases Nat.lt_or_ge 1 c with h2 | h2
      · obtain ⟨j, rfl⟩ : ∃ j, c = j + 2 := ⟨c - 2, by omega⟩
        have hm' : 1 ≤ m' := by
          rcases Nat.eq_zero_or_pos m' with h0 | h0
          · subst h0; exact absurd (Nat.dvd_zero m) hn
          · exact h0
        have h3 : m * (m' * m ^ (j + 1)) = m * 1 := by
          rw [Nat.mul_one]; rw [Nat.pow_succ, ← Nat.mul_assoc, Nat.mul_comm] at he; exact he.symm
        have h4 := Nat.eq_of_mul_eq_mul_left (by omega) h3
        have h5 := Nat.eq_one_of_mul_eq_one_left (show m ^ j * m = 1 from Nat.eq_one_of_mul_eq_one_left h4)
        omega
      · omega
  subst hc
  rw [Nat.pow_one] at he
  have hm1 : m' = 1 := by
    have : 1 * m = m' * m := by rw [Nat.one_mul]; exact he
    exact (Nat.eq_of_mul_eq_mul_right (by omega) this).symm
  rw [if_neg (by omega)]
  refine ⟨by rw [prodN_append, h.prod]; simp only [prodN, Nat.pow_one, Nat.mul_one]; exact Nat.mul_comm _ _, fun x hx => ?_⟩
  rcases List.mem_append.1 hx with hx | hx
  · exact h.pr x hx
  · rw [List.mem_singleton] at hx; subst hx
    exact ⟨primeN_of hm h.no hdd, Nat.le_refl 1⟩
end Go.AM

/- residue.IsPrime, told as pure: whether a number up to 65521 is a prime. -/
set_option linter.unusedVariables false
set_option linter.unusedSimpArgs false
set_option maxRecDepth 100000
namespace Go.AM
open Go.Proofs
noncomputable section
abbrev ii (n : Nat) : V := .i .i64 n
def L2 : List (Nat × Nat) → List V
  | [] => []
  | x :: l => ii x.1 :: ii x.2 :: L2 l
theorem L2_append (l m : List (Nat × Nat)) : L2 (l ++ m) = L2 l ++ L2 m := by
  induction l with
  | nil => rfl
  | cons x l ih => simp only [List.cons_append, L2, ih]
theorem L2_length (l : List (Nat × Nat)) : (L2 l).length = l.length * 2 := by
  induction l with
  | nil => rfl
  | cons x l ih => simp only [L2, List.length_cons, ih]; omega
def OutV (S : St) (q1 q2 : Pos) (o : V) (l : List (Nat × Nat)) : Prop :=
  (l = [] ∧ o = .sn) ∨ ∃ id b, l ≠ [] ∧ o = .so id 0 l.length l.length 2 ∧ S.h.get id = some ⟨b, L2 l⟩ ∧ S.fl ≤ b ∧ id ≠ q1 ∧ id ≠ q2
structure IvF (S : St) (q1 q2 : Pos) (m : Nat) (l : List (Nat × Nat)) : Prop where
  ok : SOK S
  ne : q1 ≠ q2
  h1 : ∃ b, S.h.get q1 = some ⟨b, [ii m]⟩ ∧ S.fl ≤ b
  h2 : ∃ o b, S.h.get q2 = some ⟨b, [o]⟩ ∧ S.fl ≤ b ∧ OutV S q1 q2 o l
theorem IvF.set1 {S : St} {q1 q2 : Pos} {m : Nat} {l : List (Nat × Nat)} (h : IvF S q1 q2 m l) {b : Nat} {y : V} (hb : S.h.get q1 = some ⟨b, [y]⟩) (hf : S.fl ≤ b) (m' : Nat) : IvF (S.upd q1 ⟨b, [ii m']⟩) q1 q2 m' l where
  ok := h.ok.upd hb (.inl ⟨rfl, by have := h.ok.fl; show b ≠ 0; omega⟩)
  ne := h.ne
  h1 := ⟨b, St.upd_get _ _, hf⟩
  h2 := by
    obtain ⟨o, b2, h3, h4, h5⟩ := h.h2
    refine ⟨o, b2, by rw [St.upd_get_ne _ h.ne.symm]; exact h3, h4, ?_⟩
    rcases h5 with h5 | ⟨id, b', h6, h7, h8, h9, h10, h11⟩
    · exact .inl h5
    · exact .inr ⟨id, b', h6, h7, by rw [St.upd_get_ne _ h10]; exact h8, h9, h10, h11⟩
def B202 : CS 6 := (cSeq (cSeq (cReg fun kn v0 v1 v2 v3 v4 v5 S => pLd v1 S (fun a0 => pRem a0 v0 (fun a1 => pEql a1 (.i .i64 0) (fun a2 => kn v0 v1 v2 a2 v4 v5 S)))) (cCond (fun x y v0 v1 v2 v3 v4 v5 S => pIf v3 (x v0 v1 v2 v3 v4 v5 S) (y v0 v1 v2 v3 v4 v5 S)) cSkip (cExit 0))) (cBlock 1 (cSeq (cReg fun kn v0 v1 v2 v3 v4 v5 S => pLd v1 S (fun a0 => pQuo a0 v0 (fun a1 => pSt 1 v1 a1 S (fun S => kn v0 v1 v2 v3 v4 v5 S)))) (cReg fun kn v0 v1 v2 v3 v4 v5 S => pAdd v4 (.i .i64 1) (fun a0 => kn v0 v1 v2 v3 a0 v5 S)))))
def E202 : CS 6 := (cSeq (cReg fun kn v0 v1 v2 v3 v4 v5 S => pGtr v4 (.i .i64 0) (fun a0 => kn v0 v1 v2 v3 v4 a0 S)) (cCond (fun x y v0 v1 v2 v3 v4 v5 S => pIf v5 (x v0 v1 v2 v3 v4 v5 S) (y v0 v1 v2 v3 v4 v5 S)) (cReg fun kn v0 v1 v2 v3 v4 v5 S => pLd v2 S (fun a0 => pBuild [(.i .i64 0),(.i .i64 0)] [(0, 1, v0), (1, 1, v4)] (fun a1 => pBsl [(.i .i64 0),(.i .i64 0)] 1 [(0, 2, a1)] S (fun a2 S => pApp 2 a0 a2 S (fun a3 S => pSt 1 v2 a3 S (fun S => kn v0 v1 v2 v3 v4 v5 S)))))) cSkip))
theorem C202_eq : C202 = cSeq (cReg (n := 6) fun kn v0 v1 v2 v3 v4 v5 S => kn v0 v1 v2 v3 (.i .i64 0) v5 S) (cSeq (cBlock 0 (cLoop B202)) E202) := by rfl
theorem it_go (K : Fn 6) (kx : Nat → Fn 6) (kr : Fn 6) (v0 v1 v2 v3 v4 v5 x y z v4' : V) (S S' : St) (h1 : ∀ c, pLd v1 S c = c x) (h2 : ∀ c, pRem x v0 c = c y) (h3 : ∀ c, pEql y (.i .i64 0) c = c (.b true))
    (h4 : ∀ c, pQuo x v0 c = c z) (h5 : ∀ c : St → R, pSt 1 v1 z S c = c S') (h6 : ∀ c, pAdd v4 (.i .i64 1) c = c v4') : B202 K kx kr v0 v1 v2 v3 v4 v5 S = K v0 v1 v2 (.b true) v4' v5 S' := by
  simp only [B202, cSeq, cReg, cCond, cBlock, cSkip, cExit, h1, h2, h3, h4, h5, h6, pIf_t]
theorem it_no (K : Fn 6) (kx : Nat → Fn 6) (kr : Fn 6) (v0 v1 v2 v3 v4 v5 x y : V) (S : St) (h1 : ∀ c, pLd v1 S c = c x) (h2 : ∀ c, pRem x v0 c = c y) (h3 : ∀ c, pEql y (.i .i64 0) c = c (.b false)) : B202 K kx kr v0 v1 v2 v3 v4 v5 S = kx 0 v0 v1 v2 (.b false) v4 v5 S := by
  simp only [B202, cSeq, cReg, cCond, cBlock, cSkip, cExit, h1, h2, h3, pIf_f]
theorem loop202 (d : Nat) (hd : 2 ≤ d) (hd2 : d < 100000) (q1 q2 : Pos) (l : List (Nat × Nat)) : ∀ (N m c : Nat) (S : St), 1 ≤ m → m < N → m < 100000 → c + m < 200000 → IvF S q1 q2 m l →
    ∃ m' c' S', m = m' * d ^ c' ∧ ¬ d ∣ m' ∧ c + c' < 200000 ∧ m' ≤ m ∧ IvF S' q1 q2 m' l ∧ ∀ (kx : Nat → Fn 6) (kr : Fn 6) (v2 v3 v5 : V), loopN B202 kx kr N (ii d) (.p q1 0) v2 v3 (ii c) v5 S = kx 0 (ii d) (.p q1 0) v2 (.b false) (ii (c + c')) v5 S'
  | 0, m, c, S, h1, h2, h3, h4, hI => by omega
  | N + 1, m, c, S, h1, h2, h3, h4, hI => by
    obtain ⟨b, hb, hf⟩ := hI.h1
    have e1 : ∀ c, pLd (.p q1 0) S c = c (ii m) := fun c => pLd_eq hb (by rfl) c
    have e2 : ∀ c, pRem (ii m) (ii d) c = c (ii (m % d)) := fun c => rem_n (by omega) (by omega) (by omega) c
    by_cases hm : m % d = 0
    · have hq : m / d < m := Nat.div_lt_self (by omega) (by omega)
      have hmd : m = m / d * d := by have := Nat.div_add_mod m d; rw [hm, Nat.add_zero, Nat.mul_comm] at this; exact this.symm
      have hq1 : 1 ≤ m / d := by
        rcases Nat.eq_zero_or_pos (m / d) with h0 | h0
        · rw [h0] at hmd; omega
        · exact h0
      obtain ⟨m', c', S', g1, g2, g3, g5, g6, g7⟩ := loop202 d hd hd2 q1 q2 l N (m / d) (c + 1) (S.upd q1 ⟨b, [ii (m / d)]⟩) hq1 (by omega) (by omega) (by omega) (hI.set1 hb hf _)
      refine ⟨m', c' + 1, S', ?_, g2, by omega, by omega, g6, fun kx kr v2 v3 v5 => ?_⟩
      · rw [Nat.pow_succ, ← Nat.mul_assoc, ← g1]; exact hmd
      · refine (it_go (loopN B202 kx kr N) kx kr (ii d) (.p q1 0) v2 v3 (ii c) v5 (ii m) (ii (m % d)) (ii (m / d)) (ii (c + 1)) S _ e1 e2 (fun c => by rw [eql_n, decide_eq_true hm]) (fun c => quo_n (by omega) (by omega) (by omega) c) (fun c => pSt1_eq hb hf (cellsK_i _ _) c) (fun c => add_n (by omega) c)).trans ?_
        rw [g7, show c + 1 + c' = c + (c' + 1) by omega]
    · refine ⟨m, 0, S, by simp, fun hv => hm (Nat.mod_eq_zero_of_dvd hv), by omega, Nat.le_refl _, hI, fun kx kr v2 v3 v5 => ?_⟩
      exact it_no (loopN B202 kx kr N) kx kr (ii d) (.p q1 0) v2 v3 (ii c) v5 (ii m) (ii (m % d)) S e1 e2 (fun c => by rw [eql_n, decide_eq_false hm])
theorem e_no (kn : Fn 6) (kx : Nat → Fn 6) (kr : Fn 6) (v0 v1 v2 v3 v4 v5 : V) (S : St) (h : ∀ c, pGtr v4 (.i .i64 0) c = c (.b false)) : E202 kn kx kr v0 v1 v2 v3 v4 v5 S = kn v0 v1 v2 v3 v4 (.b false) S := by
  simp only [E202, cSeq, cReg, cCond, cSkip, h, pIf_f]
theorem e_go (kn : Fn 6) (kx : Nat → Fn 6) (kr : Fn 6) (v0 v1 v2 v3 v4 v5 o a1 a2 a3 : V) (S S1 S2 S3 : St) (h : ∀ c, pGtr v4 (.i .i64 0) c = c (.b true)) (h1 : ∀ c, pLd v2 S c = c o) (h2 : ∀ c, pBuild [(.i .i64 0),(.i .i64 0)] [(0, 1, v0), (1, 1, v4)] c = c a1)
    (h3 : ∀ c : Cont, pBsl [(.i .i64 0),(.i .i64 0)] 1 [(0, 2, a1)] S c = c a2 S1) (h4 : ∀ c : Cont, pApp 2 o a2 S1 c = c a3 S2) (h5 : ∀ c : St → R, pSt 1 v2 a3 S2 c = c S3) : E202 kn kx kr v0 v1 v2 v3 v4 v5 S = kn v0 v1 v2 v3 v4 (.b true) S3 := by
  simp only [E202, cSeq, cReg, cCond, cSkip, h, h1, h2, h3, h4, h5, pIf_t]
theorem block_loop {n : Nat} (c : CS n) (kn : Fn n) (kx : Nat → Fn n) (kr : Fn n) : ∃ kx' : Nat → Fn n, kx' 0 = kn ∧ cBlock 0 (cLoop c) kn kx kr = loopN c kx' kr 1000000 :=
  ⟨fun id' => Bool.rec (fun kx kn => kx) (fun kx kn => kn) (Nat.beq id' 0) (kx id') kn, rfl, by unfold cBlock cLoop; rfl⟩
theorem f202_eq (v0 v1 v2 : V) (S : St) (k : V → St → R) : F202 v0 v1 v2 S k = cBlock 0 (cLoop B202) (E202 (fun v0 v1 v2 v3 v4 v5 S => k .u S) (fun _ => bot 6) (fun v0 v1 v2 v3 v4 v5 S => k .u S)) (fun _ => bot 6) (fun v0 v1 v2 v3 v4 v5 S => k .u S) v0 v1 v2 .other (.i .i64 0) .other S := by
  have h : ∀ (A B : CS 6) (kn : Fn 6) (kx : Nat → Fn 6) (kr : Fn 6), cSeq (cReg (n := 6) fun kn v0 v1 v2 v3 v4 v5 S => kn v0 v1 v2 v3 (.i .i64 0) v5 S) (cSeq A B) kn kx kr v0 v1 v2 .other .other .other S = A (B kn kx kr) kx kr v0 v1 v2 .other (.i .i64 0) .other S := fun A B kn kx kr => rfl
  unfold F202 G202
  rw [C202_eq, h]
theorem try_ok {S : St} {q1 q2 : Pos} {d m : Nat} {l : List (Nat × Nat)} (hI : IvF S q1 q2 m l) (hd : 2 ≤ d) (hd2 : d < 100000) (hm : 1 ≤ m) (hm2 : m < 100000) (hl : l.length < 1000000) :
    ∃ m' c S', m = m' * d ^ c ∧ ¬ d ∣ m' ∧ m' ≤ m ∧ IvF S' q1 q2 m' (if c = 0 then l else l ++ [(d, c)]) ∧ ∀ k, F202 (ii d) (.p q1 0) (.p q2 0) S k = k .u S' := by
  obtain ⟨m', c, S1, g1, g2, g3, g5, g6, g7⟩ := loop202 d hd hd2 q1 q2 l 1000000 m 0 S hm (by omega) hm2 (by omega) hI
  have run : ∀ k, F202 (ii d) (.p q1 0) (.p q2 0) S k = E202 (fun v0 v1 v2 v3 v4 v5 S => k .u S) (fun _ => bot 6) (fun v0 v1 v2 v3 v4 v5 S => k .u S) (ii d) (.p q1 0) (.p q2 0) (.b false) (ii c) .other S1 := fun k => by
    rw [f202_eq]
    obtain ⟨kx', h1, h2⟩ := block_loop B202 (E202 (fun v0 v1 v2 v3 v4 v5 S => k .u S) (fun _ => bot 6) (fun v0 v1 v2 v3 v4 v5 S => k .u S)) (fun _ => bot 6) (fun v0 v1 v2 v3 v4 v5 S => k .u S)
    rw [h2, g7, h1, Nat.zero_add]
  by_cases hc : c = 0
  · refine ⟨m', c, S1, g1, g2, g5, by rw [if_pos hc]; exact g6, fun k => ?_⟩
    rw [run, e_no _ _ _ _ _ _ _ _ _ _ (fun c' => by rw [gtr_n (by omega) (by omega), decide_eq_false (by omega)])]
  · obtain ⟨b1, hb1, hf1⟩ := g6.h1
    obtain ⟨o, b2, hb2, hf2, ho⟩ := g6.h2
    have nx1 := g6.ok.ne_nx hb1
    have nx2 := g6.ok.ne_nx hb2
    have ok2 := g6.ok.new [ii d, ii c]
    have new2 : (S1.new [ii d, ii c]).h.get S1.nx = some ⟨S1.cnt, [ii d, ii c]⟩ := St.new_get _ _
    have old2 : ∀ {i b}, S1.h.get i = some b → (S1.new [ii d, ii c]).h.get i = some b := fun {i b} h => by rw [St.new_get_ne _ (g6.ok.ne_nx h)]; exact h
    -- the appended row
    obtain ⟨o', id', S2, cs', hA, hS2, hq1, hq2, hid, hfl, hcs, hok, hne1, hne2⟩ : ∃ (o' : V) (id' : Pos) (S2 : St) (b' : Nat), (∀ k : Cont, pApp 2 o (.sl S1.nx 0 1 1) (S1.new [ii d, ii c]) k = k o' S2) ∧ o' = .so id' 0 (l.length + 1) (l.length + 1) 2 ∧
        S2.h.get q1 = some ⟨b1, [ii m']⟩ ∧ S2.h.get q2 = some ⟨b2, [o]⟩ ∧ S2.h.get id' = some ⟨b', L2 (l ++ [(d, c)])⟩ ∧ S2.fl = S1.fl ∧ S1.fl ≤ b' ∧ SOK S2 ∧ id' ≠ q1 ∧ id' ≠ q2 := by
      rcases ho with ⟨rfl, rfl⟩ | ⟨id, b, hl0, rfl, h3, h4, h5, h6⟩
      · refine ⟨_, (S1.new [ii d, ii c]).nx, (S1.new [ii d, ii c]).new [ii d, ii c], S1.cnt + 1, fun k => pApp2_nil new2 k, rfl, ?_, ?_, St.new_get _ _, rfl, ?_, ok2.new _, (ok2.ne_nx (old2 hb1)).symm, (ok2.ne_nx (old2 hb2)).symm⟩
        · rw [St.new_get_ne _ (ok2.ne_nx (old2 hb1))]; exact old2 hb1
        · rw [St.new_get_ne _ (ok2.ne_nx (old2 hb2))]; exact old2 hb2
        · show S1.fl ≤ S1.cnt + 1; have := g6.ok.le; omega
      · have h3' := old2 h3
        have ok3 : SOK ((S1.new [ii d, ii c]).upd id ⟨0, []⟩) := ok2.upd h3' (.inr ⟨rfl, rfl⟩)
        have k1 : ((S1.new [ii d, ii c]).upd id ⟨0, []⟩).h.get q1 = some ⟨b1, [ii m']⟩ := by rw [St.upd_get_ne _ h5.symm]; exact old2 hb1
        have k2 : ((S1.new [ii d, ii c]).upd id ⟨0, []⟩).h.get q2 = some ⟨b2, [.so id 0 l.length l.length 2]⟩ := by rw [St.upd_get_ne _ h6.symm]; exact old2 hb2
        refine ⟨_, ((S1.new [ii d, ii c]).upd id ⟨0, []⟩).nx, ((S1.new [ii d, ii c]).upd id ⟨0, []⟩).new (L2 l ++ [ii d, ii c]), S1.cnt + 1, fun k => pApp2_so new2 h3' (show S1.fl ≤ b from h4) (L2_length l) (by omega) k, rfl, ?_, ?_, ?_, rfl, ?_, ok3.new _, (ok3.ne_nx k1).symm, (ok3.ne_nx k2).symm⟩
        · rw [St.new_get_ne _ (ok3.ne_nx k1)]; exact k1
        · rw [St.new_get_ne _ (ok3.ne_nx k2)]; exact k2
        · rw [L2_append]; exact St.new_get _ _
        · show S1.fl ≤ S1.cnt + 1; have := g6.ok.le; omega
    refine ⟨m', c, S2.upd q2 ⟨b2, [o']⟩, g1, g2, g5, ?_, fun k => ?_⟩
    · rw [if_neg hc]
      refine ⟨hok.upd hq2 (.inl ⟨rfl, by have := g6.ok.fl; show b2 ≠ 0; omega⟩), g6.ne, ⟨b1, by rw [St.upd_get_ne _ g6.ne]; exact hq1, by show S2.fl ≤ b1; omega⟩, o', b2, St.upd_get _ _, by show S2.fl ≤ b2; omega, .inr ⟨id', cs', by simp, by rw [hS2, List.length_append]; rfl, by rw [St.upd_get_ne _ hne2]; exact hid, by show S2.fl ≤ cs'; omega, hne1, hne2⟩⟩
    · rw [run, e_go _ _ _ _ _ _ _ _ _ o (.ag [ii d, ii c]) (.sl S1.nx 0 1 1) o' S1 (S1.new [ii d, ii c]) S2 (S2.upd q2 ⟨b2, [o']⟩) (fun c' => by rw [gtr_n (by omega) (by omega), decide_eq_true (by omega)]) (fun c' => pLd_eq hb2 (by rfl) c') (fun c' => pBuild2_eq (cellsK_i _ _) (cellsK_i _ _) c') (fun c' => pBsl2_eq _ _ _ c') hA (fun c' => pSt1_eq hq2 (by omega) (by rw [hS2]; exact cellsK_so _ _ _ _ _) c')]
def B198 : CS 8 := (cSeq (cSeq (cReg fun kn v0 v1 v2 v3 v4 v5 v6 v7 S => pMul v4 v4 (fun a0 => pLd v1 S (fun a1 => pLeq a0 a1 (fun a2 => kn v0 v1 v2 v3 v4 a2 v6 v7 S)))) (cCond (fun x y v0 v1 v2 v3 v4 v5 v6 v7 S => pIf v5 (x v0 v1 v2 v3 v4 v5 v6 v7 S) (y v0 v1 v2 v3 v4 v5 v6 v7 S)) cSkip (cExit 0))) (cSeq (cBlock 1 (cReg fun kn v0 v1 v2 v3 v4 v5 v6 v7 S => pCallv T198 v3 [v4] S (fun a0 S => kn v0 v1 v2 v3 v4 v5 v6 v7 S))) (cReg fun kn v0 v1 v2 v3 v4 v5 v6 v7 S => pAdd v4 (.i .i64 2) (fun a0 => kn v0 v1 v2 v3 a0 v5 v6 v7 S))))
def E198 : CS 8 := (cSeq (cSeq (cReg fun kn v0 v1 v2 v3 v4 v5 v6 v7 S => pLd v1 S (fun a0 => pGtr a0 (.i .i64 1) (fun a1 => kn v0 v1 v2 v3 v4 v5 a1 v7 S))) (cCond (fun x y v0 v1 v2 v3 v4 v5 v6 v7 S => pIf v6 (x v0 v1 v2 v3 v4 v5 v6 v7 S) (y v0 v1 v2 v3 v4 v5 v6 v7 S)) (cReg fun kn v0 v1 v2 v3 v4 v5 v6 v7 S => pLd v1 S (fun a0 => pCallv T198 v3 [a0] S (fun a1 S => kn v0 v1 v2 v3 v4 v5 v6 v7 S))) cSkip)) (cSeq (cReg fun kn v0 v1 v2 v3 v4 v5 v6 v7 S => pLd v2 S (fun a0 => kn v0 v1 v2 v3 v4 v5 v6 a0 S)) cRet))
def A198 : CS 8 := (cReg fun kn v0 v1 v2 v3 v4 v5 v6 v7 S => pBox v0 S (fun a0 S => kn v0 a0 v2 v3 v4 v5 v6 .sn S))
def A198b : CS 8 := (cReg fun kn v0 v1 v2 v3 v4 v5 v6 v7 S => pAlloc [.sn] S (fun a0 S => kn v0 v1 a0 v3 v4 v5 v6 v7 S))
def A198c : CS 8 := (cReg fun kn v0 v1 v2 v3 v4 v5 v6 v7 S => kn v0 v1 v2 (.f 202 [v1, v2]) v4 v5 v6 v7 S)
def A198d : CS 8 := (cReg fun kn v0 v1 v2 v3 v4 v5 v6 v7 S => pCallv T198 v3 [(.i .i64 2)] S (fun a0 S => kn v0 v1 v2 v3 v4 v5 v6 v7 S))
def A198e : CS 8 := (cReg fun kn v0 v1 v2 v3 v4 v5 v6 v7 S => kn v0 v1 v2 v3 (.i .i64 3) v5 v6 v7 S)
theorem C198_eq : C198 T198 = cSeq A198 (cSeq A198b (cSeq A198c (cSeq A198d (cSeq (cSeq A198e (cBlock 0 (cLoop B198))) E198)))) := by rfl
theorem callv (x a b : V) (S : St) (k : Cont) : pCallv T198 (.f 202 [a, b]) [x] S k = F202 x a b S k := by rfl
theorem b198_go (K : Fn 8) (kx : Nat → Fn 8) (kr : Fn 8) (v0 v1 v2 v3 v4 v5 v6 v7 x y v4' : V) (S S' : St) (h1 : ∀ c, pMul v4 v4 c = c x) (h2 : ∀ c, pLd v1 S c = c y) (h3 : ∀ c, pLeq x y c = c (.b true)) (h4 : ∀ c : Cont, pCallv T198 v3 [v4] S c = c .u S') (h5 : ∀ c, pAdd v4 (.i .i64 2) c = c v4') :
    B198 K kx kr v0 v1 v2 v3 v4 v5 v6 v7 S = K v0 v1 v2 v3 v4' (.b true) v6 v7 S' := by
  simp only [B198, cSeq, cReg, cCond, cBlock, cSkip, cExit, h1, h2, h3, h4, h5, pIf_t]
theorem b198_no (K : Fn 8) (kx : Nat → Fn 8) (kr : Fn 8) (v0 v1 v2 v3 v4 v5 v6 v7 x y : V) (S : St) (h1 : ∀ c, pMul v4 v4 c = c x) (h2 : ∀ c, pLd v1 S c = c y) (h3 : ∀ c, pLeq x y c = c (.b false)) :
    B198 K kx kr v0 v1 v2 v3 v4 v5 v6 v7 S = kx 0 v0 v1 v2 v3 v4 (.b false) v6 v7 S := by
  simp only [B198, cSeq, cReg, cCond, cBlock, cSkip, cExit, h1, h2, h3, pIf_f]
theorem len_of {n d m : Nat} {l : List (Nat × Nat)} (h : Gd n d m l) (hn : n < 100000) : l.length < 100000 := by
  have : ∀ l : List (Nat × Nat), (∀ x ∈ l, PrimeN x.1 ∧ 1 ≤ x.2) → l.length < prodN l := fun l => by
    induction l with
    | nil => intro _; exact Nat.zero_lt_one
    | cons x l ih =>
      intro hx
      have h1 := ih fun y hy => hx y (List.mem_cons_of_mem _ hy)
      obtain ⟨h2, h3⟩ := hx x (List.mem_cons_self ..)
      obtain ⟨j, hj⟩ : ∃ j, x.2 = j + 1 := ⟨x.2 - 1, by omega⟩
      have h4 : 2 ≤ x.1 ^ x.2 := by
        rw [hj, Nat.pow_succ]
        have h5 : 1 ≤ x.1 ^ j := Nat.pow_pos (by have := h2.1; omega)
        calc 2 ≤ 1 * x.1 := by have := h2.1; omega
          _ ≤ x.1 ^ j * x.1 := Nat.mul_le_mul_right _ h5
      have h6 : 2 * prodN l ≤ x.1 ^ x.2 * prodN l := Nat.mul_le_mul_right _ h4
      simp only [List.length_cons, prodN]; omega
  have h1 := this l h.pr
  have h2 := prodN_pos h.pr
  have h3 : 1 * prodN l ≤ m * prodN l := Nat.mul_le_mul_right _ h.pos
  have := h.prod; omega
theorem loop198 (n : Nat) (hn : n < 100000) (q1 q2 : Pos) : ∀ (N d m : Nat) (l : List (Nat × Nat)) (S : St), 3 ≤ d → d % 2 = 1 → 500 ≤ d + N → d < 402 → Gd n d m l → m < 100000 → IvF S q1 q2 m l →
    ∃ d' m' l' S', Gd n d' m' l' ∧ 2 ≤ d' ∧ m' < d' * d' ∧ m' < 100000 ∧ IvF S' q1 q2 m' l' ∧ ∀ (kx : Nat → Fn 8) (kr : Fn 8) (v0 v5 v6 v7 : V), loopN B198 kx kr N v0 (.p q1 0) (.p q2 0) (.f 202 [.p q1 0, .p q2 0]) (ii d) v5 v6 v7 S = kx 0 v0 (.p q1 0) (.p q2 0) (.f 202 [.p q1 0, .p q2 0]) (ii d') (.b false) v6 v7 S'
  | 0, d, m, l, S, h1, h2, h3, h4, hG, hm, hI => by omega
  | N + 1, d, m, l, S, h1, h2, h3, h4, hG, hm, hI => by
    obtain ⟨b, hb, hf⟩ := hI.h1
    have hdd : d * d < 4000000 := by
      calc d * d ≤ 2000 * d := Nat.mul_le_mul_right _ (by omega)
        _ ≤ 2000 * 1999 := Nat.mul_le_mul_left _ (by omega)
        _ < _ := by decide
    have e1 : ∀ c, pMul (ii d) (ii d) c = c (ii (d * d)) := fun c => mul_n (by omega) c
    have e2 : ∀ c, pLd (.p q1 0) S c = c (ii m) := fun c => pLd_eq hb (by rfl) c
    by_cases hc : d * d ≤ m
    · obtain ⟨m', c, S1, g1, g2, g3, g4, g5⟩ := try_ok hI (d := d) (by omega) (by omega) hG.pos hm (by have := len_of hG hn; omega)
      have hG' := (hG.step (by omega) g1 g2).odd (by omega) h2
      have hd4 : d < 320 := by
        rcases Nat.lt_or_ge d 320 with h | h
        · exact h
        · have : 320 * 320 ≤ d * d := Nat.mul_le_mul h h
          omega
      obtain ⟨m', c, S1, g1, g2, g3, g4, g5⟩ := try_ok hI (d := d) (by omega) (by omega) hG.pos hm (by have := len_of hG hn; omega)
      have hG' := (hG.step (by omega) g1 g2).odd (by omega) h2
      obtain ⟨d', m2, l', S', k1, k2, k3, k4, k5, k6⟩ := loop198 n hn q1 q2 N (d + 2) m' _ S1 (by omega) (by omega) (by omega) (by omega) hG' (by omega) g4
      refine ⟨d', m2, l', S', k1, k2, k3, k4, k5, fun kx kr v0 v5 v6 v7 => ?_⟩
      refine (b198_go (loopN B198 kx kr N) kx kr v0 _ _ _ _ v5 v6 v7 (ii (d * d)) (ii m) (ii (d + 2)) S S1 e1 e2 (fun c => by rw [leq_n (by omega) (by omega), decide_eq_true hc]) (fun c => by rw [callv, g5]) (fun c => add_n (by omega) c)).trans ?_
      exact k6 kx kr v0 _ v6 v7
    · refine ⟨d, m, l, S, hG, by omega, by omega, hm, hI, fun kx kr v0 v5 v6 v7 => ?_⟩
      exact b198_no (loopN B198 kx kr N) kx kr v0 _ _ _ _ v5 v6 v7 (ii (d * d)) (ii m) S e1 e2 (fun c => by rw [leq_n (by omega) (by omega), decide_eq_false hc])
theorem e147_go (kn : Fn 8) (kx : Nat → Fn 8) (kr : Fn 8) (v0 v1 v2 v3 v4 v5 v6 v7 x o : V) (S S' : St) (h1 : ∀ c, pLd v1 S c = c x) (h2 : ∀ c, pGtr x (.i .i64 1) c = c (.b true)) (h3 : ∀ c : Cont, pCallv T198 v3 [x] S c = c .u S') (h4 : ∀ c, pLd v2 S' c = c o) :
    E198 kn kx kr v0 v1 v2 v3 v4 v5 v6 v7 S = kr v0 v1 v2 v3 v4 v5 (.b true) o S' := by
  simp only [E198, cSeq, cReg, cCond, cSkip, cRet, h1, h2, h3, h4, pIf_t]
theorem e147_no (kn : Fn 8) (kx : Nat → Fn 8) (kr : Fn 8) (v0 v1 v2 v3 v4 v5 v6 v7 x o : V) (S : St) (h1 : ∀ c, pLd v1 S c = c x) (h2 : ∀ c, pGtr x (.i .i64 1) c = c (.b false)) (h4 : ∀ c, pLd v2 S c = c o) :
    E198 kn kx kr v0 v1 v2 v3 v4 v5 v6 v7 S = kr v0 v1 v2 v3 v4 v5 (.b false) o S := by
  simp only [E198, cSeq, cReg, cCond, cSkip, cRet, h1, h2, h4, pIf_f]
theorem f198_eq (v0 q1 q2 : V) (S S1 S2 S3 : St) (k : V → St → R) (h1 : ∀ c : Cont, pBox v0 S c = c q1 S1) (h2 : ∀ c : Cont, pAlloc [.sn] S1 c = c q2 S2) (h3 : ∀ c : Cont, pCallv T198 (.f 202 [q1, q2]) [(.i .i64 2)] S2 c = c .u S3) :
    F198 v0 S k = cBlock 0 (cLoop B198) (E198 (fun v0 v1 v2 v3 v4 v5 v6 v7 S => k v7 S) (fun _ => bot 8) (fun v0 v1 v2 v3 v4 v5 v6 v7 S => k v7 S)) (fun _ => bot 8) (fun v0 v1 v2 v3 v4 v5 v6 v7 S => k v7 S) v0 q1 q2 (.f 202 [q1, q2]) (.i .i64 3) .other .other .sn S3 := by
  unfold F198 G198
  rw [C198_eq]
  generalize hb : cBlock 0 (cLoop B198) = B
  generalize E198 = E
  simp only [A198, A198b, A198c, A198d, A198e, cSeq, cReg, h1, h2, h3]
theorem factor_ok {S : St} (ok : SOK S) {n : Nat} (h1 : 2 ≤ n) (hn : n < 100000) : ∃ l o S' q1 q2, n = prodN l ∧ (∀ x ∈ l, PrimeN x.1 ∧ 1 ≤ x.2) ∧ OutV S' q1 q2 o l ∧ SOK S' ∧ S'.fl = S'.fl ∧ ∀ k, F198 (ii n) S k = k o S' := by
  have ok1 := ok.new [ii n]
  have ok2 := ok1.new [.sn]
  have g1 : ((S.new [ii n]).new [.sn]).h.get S.nx = some ⟨S.cnt, [ii n]⟩ := by
    rw [St.new_get_ne _ (ok1.ne_nx (St.new_get S [ii n]))]; exact St.new_get _ _
  have hI : IvF ((S.new [ii n]).new [.sn]) S.nx (S.new [ii n]).nx n [] :=
    ⟨ok2, ok1.ne_nx (St.new_get S [ii n]), ⟨_, g1, ok.le⟩, .sn, _, St.new_get _ _, by show S.fl ≤ S.cnt + 1; have := ok.le; omega, .inl ⟨rfl, rfl⟩⟩
  have hG : Gd n 2 n [] := ⟨by omega, by simp [prodN], (fun x hx => by cases hx), fun e h1 h2 => by omega⟩
  obtain ⟨m1, c1, S3, a1, a2, a3, a4, a5⟩ := try_ok hI (d := 2) (by omega) (by omega) (by omega) hn (by simp)
  obtain ⟨d', m', l', S4, b1, b2, b3, b4, b5, b6⟩ := loop198 n hn S.nx (S.new [ii n]).nx 1000000 3 m1 _ S3 (by omega) (by omega) (by omega) (by omega) (hG.step (by omega) a1 a2) (by omega) a4
  have run : ∀ k, F198 (ii n) S k = E198 (fun v0 v1 v2 v3 v4 v5 v6 v7 S => k v7 S) (fun _ => bot 8) (fun v0 v1 v2 v3 v4 v5 v6 v7 S => k v7 S) (ii n) (.p S.nx 0) (.p (S.new [ii n]).nx 0) (.f 202 [.p S.nx 0, .p (S.new [ii n]).nx 0]) (ii d') (.b false) .other .sn S4 := fun k => by
    rw [f198_eq (ii n) (.p S.nx 0) (.p (S.new [ii n]).nx 0) S _ _ S3 k (fun c => pBox_eq (cellsK_i _ _) S c) (fun c => pAlloc_eq _ _ c) (fun c => by rw [callv, a5])]
    obtain ⟨kx', h1, h2⟩ := block_loop B198 (E198 (fun v0 v1 v2 v3 v4 v5 v6 v7 S => k v7 S) (fun _ => bot 8) (fun v0 v1 v2 v3 v4 v5 v6 v7 S => k v7 S)) (fun _ => bot 8) (fun v0 v1 v2 v3 v4 v5 v6 v7 S => k v7 S)
    rw [h2, b6, h1]
  obtain ⟨bq, hb, hf⟩ := b5.h1
  by_cases hm : 1 < m'
  · obtain ⟨m2, c2, S5, d1, d2, d3, d4, d5⟩ := try_ok b5 (d := m') (by omega) (by omega) (by omega) b4 (by have := len_of b1 hn; omega)
    obtain ⟨e1, e2⟩ := b1.last (by omega) b3 d1 d2
    obtain ⟨o, b2', o1, o2, o3⟩ := d4.h2
    refine ⟨_, o, S5, _, _, e1, e2, o3, d4.ok, rfl, fun k => ?_⟩
    rw [run, e147_go _ _ _ _ _ _ _ _ _ _ _ (ii m') o S4 S5 (fun c => pLd_eq hb (by rfl) c) (fun c => by rw [gtr_n (by omega) (by omega), decide_eq_true hm]) (fun c => by rw [callv, d5]) (fun c => pLd_eq o1 (by rfl) c)]
  · have hm1 : m' = 1 := by have := b1.pos; omega
    obtain ⟨o, b2', o1, o2, o3⟩ := b5.h2
    refine ⟨l', o, S4, _, _, ?_, b1.pr, o3, b5.ok, rfl, fun k => ?_⟩
    · have := b1.prod; rw [hm1, Nat.one_mul] at this; exact this
    · rw [run, e147_no _ _ _ _ _ _ _ _ _ _ _ (ii m') o S4 (fun c => pLd_eq hb (by rfl) c) (fun c => by rw [gtr_n (by omega) (by omega), decide_eq_false hm]) (fun c => pLd_eq o1 (by rfl) c)]
def B201 : CS 8 := (cSeq (cReg fun kn v0 v1 v2 v3 v4 v5 v6 v7 S => pLss v2 v3 (fun a0 => kn v0 v1 v2 v3 a0 v5 v6 v7 S)) (cSeq (cCond (fun x y v0 v1 v2 v3 v4 v5 v6 v7 S => pIf v4 (x v0 v1 v2 v3 v4 v5 v6 v7 S) (y v0 v1 v2 v3 v4 v5 v6 v7 S)) cSkip (cExit 0)) (cSeq (cBlock 1 (cSeq (cReg fun kn v0 v1 v2 v3 v4 v5 v6 v7 S => kn v0 v1 v2 v3 v4 v2 v6 v7 S) (cSeq (cReg fun kn v0 v1 v2 v3 v4 v5 v6 v7 S => pIdx 1 v0 v5 (fun a0 => pLd a0 S (fun a1 => pCallv T201 v1 [a1] S (fun a2 S => kn v0 v1 v2 v3 v4 v5 a2 v7 S)))) (cCond (fun x y v0 v1 v2 v3 v4 v5 v6 v7 S => pIf v6 (x v0 v1 v2 v3 v4 v5 v6 v7 S) (y v0 v1 v2 v3 v4 v5 v6 v7 S)) (cSeq (cReg fun kn v0 v1 v2 v3 v4 v5 v6 v7 S => kn v0 v1 v2 v3 v4 v5 v6 v5 S) cRet) cSkip)))) (cReg fun kn v0 v1 v2 v3 v4 v5 v6 v7 S => pAdd v2 (.i .i64 1) (fun a0 => kn v0 v1 a0 v3 v4 v5 v6 v7 S)))))
def A201 : CS 8 := (cReg fun kn v0 v1 v2 v3 v4 v5 v6 v7 S => kn v0 v1 v2 v3 v4 v5 v6 (.i .i64 0) S)
def A201b : CS 8 := (cReg fun kn v0 v1 v2 v3 v4 v5 v6 v7 S => pLen v0 (fun a0 => kn v0 v1 (.i .i64 0) a0 v4 v5 v6 v7 S))
def E201 : CS 8 := (cSeq (cReg fun kn v0 v1 v2 v3 v4 v5 v6 v7 S => kn v0 v1 v2 v3 v4 v5 v6 (.i .i64 18446744073709551615) S) cRet)
theorem C201_eq : C201 T201 = cSeq A201 (cSeq (cSeq A201b (cBlock 0 (cLoop B201))) E201) := by rfl
theorem b201_go (K : Fn 8) (kx : Nat → Fn 8) (kr : Fn 8) (v0 v1 v2 v3 v4 v5 v6 v7 p x v2' : V) (S : St) (h1 : ∀ c, pLss v2 v3 c = c (.b true)) (h2 : ∀ c, pIdx 1 v0 v2 c = c p) (h3 : ∀ c, pLd p S c = c x) (h4 : ∀ c : Cont, pCallv T201 v1 [x] S c = c (.b false) S) (h5 : ∀ c, pAdd v2 (.i .i64 1) c = c v2') :
    B201 K kx kr v0 v1 v2 v3 v4 v5 v6 v7 S = K v0 v1 v2' v3 (.b true) v2 (.b false) v7 S := by
  simp only [B201, cSeq, cReg, cCond, cBlock, cSkip, cExit, h1, h2, h3, h4, h5, pIf_t, pIf_f]
theorem b201_no (K : Fn 8) (kx : Nat → Fn 8) (kr : Fn 8) (v0 v1 v2 v3 v4 v5 v6 v7 : V) (S : St) (h1 : ∀ c, pLss v2 v3 c = c (.b false)) :
    B201 K kx kr v0 v1 v2 v3 v4 v5 v6 v7 S = kx 0 v0 v1 v2 v3 (.b false) v5 v6 v7 S := by
  simp only [B201, cSeq, cReg, cCond, cBlock, cSkip, cExit, h1, pIf_t, pIf_f]
theorem loopN_sucP {n : Nat} (c : CS n) (kx : Nat → Fn n) (kr : Fn n) (N : Nat) : loopN c kx kr (N + 1) = c (loopN c kx kr N) kx kr := by rfl
theorem f201_ok (q : Pos) (v1 x : V) (S : St) (k : Cont) (h3 : ∀ c, pLd (.p q 0) S c = c x) (h4 : ∀ c : Cont, pCallv T201 v1 [x] S c = c (.b false) S) : F201 (.sl q 0 1 1) v1 S k = k (ii 18446744073709551615) S := by
  have h : ∀ (A B E : CS 8) (kn : Fn 8) (kx : Nat → Fn 8) (kr : Fn 8), cSeq A201 (cSeq (cSeq A201b B) E) kn kx kr (.sl q 0 1 1) v1 .other .other .other .other .other .other S = B (E kn kx kr) kx kr (.sl q 0 1 1) v1 (ii 0) (ii 1) .other .other .other (ii 0) S := fun A B E kn kx kr => rfl
  unfold F201 G201
  rw [C201_eq, h B201]
  obtain ⟨kx', h1, h2⟩ := block_loop B201 (E201 (fun v0 v1 v2 v3 v4 v5 v6 v7 S => k v7 S) (fun _ => bot 8) (fun v0 v1 v2 v3 v4 v5 v6 v7 S => k v7 S)) (fun _ => bot 8) (fun v0 v1 v2 v3 v4 v5 v6 v7 S => k v7 S)
  have l2 : ∀ N : Nat, loopN B201 kx' (fun v0 v1 v2 v3 v4 v5 v6 v7 S => k v7 S) (N + 2) (.sl q 0 1 1) v1 (ii 0) (ii 1) .other .other .other (ii 0) S = kx' 0 (.sl q 0 1 1) v1 (ii 1) (ii 1) (.b false) (ii 0) (.b false) (ii 0) S := fun N => by
    rw [loopN_sucP, b201_go _ _ _ _ _ _ _ _ _ _ _ (.p q 0) x (ii 1) S (fun c => by rfl) (fun c => by rfl) h3 h4 (fun c => by rfl), loopN_sucP, b201_no _ _ _ _ _ _ _ _ _ _ _ S (fun c => by rfl)]
  rw [h2, show (1000000 : Nat) = 999998 + 2 from rfl, l2, h1]
  rfl
theorem f197_ok (v : V) (S : St) (k : Cont) (h1 : ∀ c, pLss v (.i .i64 1) c = c (.b false)) (h2 : ∀ c, pGtr v (.i .i64 2147483647) c = c (.b false)) : F197 v S k = k (.b false) S := by
  simp only [F197, G197, C197, cSeq, cReg, cRet, h1, h2, pGd_ff, pPick_f]
theorem callv197 (x : V) (S : St) (k : Cont) : pCallv T201 (.f 197 []) [x] S k = F197 x S k := by rfl
theorem f186_ok (q : Pos) (v x : V) (S : St) (k : Cont) (h : ∀ c : Cont, F201 v (.f 197 []) S c = c (ii 18446744073709551615) S) : F186 v S k = k (.b false) S := by
  have e : ∀ c, pGeq (ii 18446744073709551615) (.i .i64 0) c = c (.b false) := fun c => by rfl
  simp only [F186, G186, C186, F196, G196, C196, cSeq, cReg, cRet, h, e]
theorem bad_ok {q : Pos} {n b : Nat} {S : St} (hq : S.h.get q = some ⟨b, [ii n]⟩) (h1 : 1 ≤ n) (hn : n < 100000) (k : Cont) : F186 (.sl q 0 1 1) S k = k (.b false) S :=
  f186_ok q _ (ii n) S k fun c => f201_ok q _ (ii n) S c (fun c => pLd_eq hq (by rfl) c) fun c => by
    rw [callv197]
    exact f197_ok _ _ _ (fun c => by rw [lss_n (by omega) (by omega), decide_eq_false (by omega)]) (fun c => by rw [gtr_n (by omega) (by omega), decide_eq_false (by omega)])
theorem f187_ne (v0 o w : V) (S S' : St) (k : Cont) (h1 : ∀ c : Cont, F198 v0 S c = c o S') (h2 : ∀ c, pLen o c = c w) (h3 : ∀ c, pEql w (.i .i64 1) c = c (.b false)) : F187 v0 S k = k (.b false) S' := by
  simp only [F187, G187, C187, cSeq, cReg, cRet, h1, h2, h3, pGd_ft, pPick_f]
theorem f187_eq (v0 o w p p' x : V) (b : Bool) (S S' : St) (k : Cont) (h1 : ∀ c : Cont, F198 v0 S c = c o S') (h2 : ∀ c, pLen o c = c w) (h3 : ∀ c, pEql w (.i .i64 1) c = c (.b true)) (h4 : ∀ c, pIdx 2 o (.i .i64 0) c = c p) (h5 : ∀ c, pFa 1 p c = c p') (h6 : ∀ c, pLd p' S' c = c x) (h7 : ∀ c, pEql x (.i .i64 1) c = c (.b b)) : F187 v0 S k = k (.b b) S' := by
  simp only [F187, G187, C187, cSeq, cReg, cRet, h1, h2, h3, h4, h5, h6, h7, pGd_tt, pPick_t]
theorem pLen_so (id : Pos) (l sz : Nat) (h : l < 1073741824) (c : V → R) : pLen (.so id 0 l l sz) c = c (ii l) := by
  show gu (Nat.ble l 9223372036854775807) (retI c .i64 l) = _
  rw [Nat.ble_eq_true_of_le (by omega), gu_true, retI_eq]
theorem prime_ok {S : St} (ok : SOK S) {n : Nat} (h1 : 2 ≤ n) (hn : n < 100000) : ∃ S', ∀ k, F187 (ii n) S k = k (.b (isP n)) S' := by
  obtain ⟨l, o, S', q1, q2, e1, e2, e3, e4, _, e5⟩ := factor_ok ok h1 hn
  have hl : l.length < 100000 := len_of (n := n) (d := 0) (m := 1) ⟨Nat.le_refl 1, by rw [Nat.one_mul]; exact e1, e2, fun e _ h => by omega⟩ hn
  rw [← one1_iff h1 e1 e2]
  refine ⟨S', fun k => ?_⟩
  rcases e3 with ⟨rfl, _⟩ | ⟨id, b, h3, rfl, h5, _⟩
  · simp only [prodN] at e1; omega
  · match l, h3, hl, h5, e5 with
    | [x], _, _, h5, e5 =>
      show _ = k (.b (x.2 == 1)) S'
      refine f187_eq (ii n) _ (ii 1) (.p id 0) (.p id 1) (ii x.2) _ S S' k e5 (fun c => by rfl) (fun c => by rfl) (fun c => by rfl) (fun c => by rfl) (fun c => pLd_eq h5 (by rfl) c) (fun c => ?_)
      rw [eql_n]; congr 2
    | x :: y :: l, _, hl, h5, e5 =>
      refine f187_ne (ii n) _ (ii (x :: y :: l).length) S S' k e5 (fun c => pLen_so _ _ _ (by omega) c) (fun c => ?_)
      rw [eql_n, decide_eq_false (by simp)]
theorem f147_ok {S : St} (ok : SOK S) {n : Nat} (h1 : 2 ≤ n) (hn : n < 100000) : ∃ S', ∀ k, F147 (ii n) S k = k (.tu [.b (isP n), ii 0]) S' := by
  obtain ⟨S', h⟩ := prime_ok (ok.new [ii n]) h1 hn
  have e0 : ∀ c : Cont, pBsl [(.i .i64 0)] 1 [(0, 1, ii n)] S c = c (.sl S.nx 0 1 1) (S.new [ii n]) := fun c => pBsl1_eq (cellsK_i _ _) S c
  have e1 : ∀ c : Cont, F186 (.sl S.nx 0 1 1) (S.new [ii n]) c = c (.b false) (S.new [ii n]) := fun c => bad_ok (St.new_get _ _) (by omega) hn c
  generalize S.new [ii n] = S1 at h e0 e1
  generalize V.sl S.nx 0 1 1 = sl at e0 e1
  generalize isP n = b at h
  generalize ii n = v at *
  refine ⟨S', fun k => ?_⟩
  simp only [F147, G147, C147, cSeq, cReg, cCond, cSkip, cRet, e0, e1, h, pIf_f]
theorem mkS_nil : SOK (mkS []) := by
  have h : layS [] S0 = S0 := by unfold layS; rfl
  unfold mkS
  rw [h]
  exact ⟨S0_ok.nx, Nat.le_trans S0_ok.fl S0_ok.le, Nat.le_refl _, S0_ok.blk⟩
/-- residue.IsPrime as a table -/
def DP147 : List V → Option V
  | [.i .i64 n] => if 2 ≤ n ∧ n < 100000 then some (.tu [.b (isP n), ii 0]) else none
  | _ => none
def F147p : Gn 1 := cur 1 (pureF DP147)
theorem K147p : FOK Tryz.prog 147 (un 1 F147p) := cur_ok 1 (pure_ok K147 DP147 fun vs v h => by
  unfold DP147 at h
  split at h
  · split at h
    · rename_i n hn
      cases h
      obtain ⟨S', h'⟩ := f147_ok (S := mkS []) mkS_nil hn.1 hn.2
      refine ⟨by rfl, by rfl, S', ?_⟩
      rw [un1]; exact h' _
    · cases h
  · cases h)
theorem F147p_eq {n : Nat} (h1 : 2 ≤ n) (hn : n < 100000) (S : St) (k : Cont) : F147p (ii n) S k = k (.tu [.b (isP n), ii 0]) S := by
  have e : DP147 [ii n] = some (.tu [.b (isP n), ii 0]) := if_pos ⟨h1, hn⟩
  show pureF DP147 [ii n] S k = _
  unfold pureF
  rw [e]
end
end Go.AM
