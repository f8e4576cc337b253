/- The machine's numbers (two's complement) against the model's integers. -/
import Derived.Test.YtpendgpnikmohaaGreatX2
namespace Go.AM
set_option linter.unusedVariables false
set_option linter.unusedSimpArgs false
/-- the integer that a number of a kind stands for -/
noncomputable def dec (k : IntKind) (n : Nat) : Int := if neg k n then (n : Int) - (M k : Int) else n
theorem M_pos (k : IntKind) : 0 < M k := by cases k <;> decide
theorem neg_iff (k : IntKind) (n : Nat) : neg k n = true ↔ sgn k = true ∧ H k ≤ n := by
  cases k <;> simp [neg, sgn, Nat.ble_eq]
theorem neg_false (k : IntKind) (n : Nat) : neg k n = false ↔ (sgn k = true → n < H k) := by
  have := neg_iff k n
  cases h : neg k n <;> simp [h] at this ⊢
  · intro h1; have := this h1; omega
  · exact this
theorem wrap_dec (k : IntKind) (z : Int) : k.wrap z = dec k (z % (M k : Int)).toNat := by
  have h0 := Int.emod_nonneg z (b := (M k : Int)) (by have := M_pos k; omega)
  have h1 := Int.emod_lt_of_pos z (b := (M k : Int)) (by have := M_pos k; omega)
  cases k <;> simp [IntKind.wrap, IntKind.bits, IntKind.signed, dec, neg, sgn, M, H, Nat.ble_eq] at h0 h1 ⊢ <;> (try split) <;> (try split) <;> omega
theorem dec_emod (k : IntKind) (n : Nat) (h : n < M k) : dec k n % (M k : Int) = n := by
  unfold dec
  split
  · rw [Int.sub_emod_right]; exact Int.emod_eq_of_lt (by omega) (by omega)
  · exact Int.emod_eq_of_lt (by omega) (by omega)
theorem dec_nat {k : IntKind} {n : Nat} (h : neg k n = false) : dec k n = n := by simp [dec, h]
theorem toNat_mod (a m : Nat) : ((a : Int) % (m : Int)).toNat = a % m := by rw [← Int.natCast_emod]; rfl
theorem mod_lt (k : IntKind) (n : Nat) : n % M k < M k := Nat.mod_lt _ (M_pos k)
/-- what an operation on integers hands back, from what it is modulo M -/
theorem wrap_of (k : IntKind) (z : Int) (n : Nat) (h : z % (M k : Int) = (n : Int) % (M k : Int)) : k.wrap z = dec k (n % M k) := by
  rw [wrap_dec, h, toNat_mod]
theorem dec_mod_eq (k : IntKind) (n : Nat) (h : n < M k) : dec k n % (M k : Int) = (n : Int) % (M k : Int) := by rw [dec_emod k n h]; exact (Int.emod_eq_of_lt (by omega) (by omega)).symm
theorem add_ok {k : IntKind} {a b : Nat} (ha : a < M k) (hb : b < M k) : k.wrap (dec k a + dec k b) = dec k ((a + b) % M k) := by
  refine wrap_of k _ _ ?_
  rw [Int.add_emod, dec_mod_eq k a ha, dec_mod_eq k b hb, ← Int.add_emod]; push_cast; rfl
theorem sub_ok {k : IntKind} {a b : Nat} (ha : a < M k) (hb : b < M k) : k.wrap (dec k a - dec k b) = dec k ((a + (M k - b)) % M k) := by
  refine wrap_of k _ _ ?_
  rw [Int.sub_emod, dec_mod_eq k a ha, dec_mod_eq k b hb, ← Int.sub_emod]
  rw [show ((a + (M k - b) : Nat) : Int) = (a : Int) - b + M k by omega, Int.add_emod_right]
theorem mul_ok {k : IntKind} {a b : Nat} (ha : a < M k) (hb : b < M k) : k.wrap (dec k a * dec k b) = dec k ((a * b) % M k) := by
  refine wrap_of k _ _ ?_
  rw [Int.mul_emod, dec_mod_eq k a ha, dec_mod_eq k b hb, ← Int.mul_emod]; push_cast; rfl
theorem neg_ok {k : IntKind} {a : Nat} (ha : a < M k) : k.wrap (0 - dec k a) = dec k ((M k - a) % M k) := by
  refine wrap_of k _ _ ?_
  rw [Int.sub_emod, dec_mod_eq k a ha, ← Int.sub_emod]
  rw [show ((M k - a : Nat) : Int) = 0 - (a : Int) + M k by omega, Int.add_emod_right]
theorem wrap_self {k : IntKind} {n : Nat} (h : n < M k) : k.wrap (dec k n) = dec k n := by
  rw [wrap_of k _ n (dec_mod_eq k n h), Nat.mod_eq_of_lt h]
theorem M_sgn (k : IntKind) (h : sgn k = true) : M k = 2 * H k := by cases k <;> first | rfl | exact absurd h (by decide)
theorem dec_abs {k : IntKind} {a : Nat} (ha : a < M k) (h : neg k a = true) : dec k a = -((M k - a : Nat) : Int) := by
  simp only [dec, h, if_true]; omega
theorem quo_ok {k : IntKind} {a b : Nat} (ha : a < M k) (hb : b < M k) (h0 : 0 < b) : k.wrap ((dec k a).tdiv (dec k b)) = dec k (quoI k a b) ∧ quoI k a b < M k := by
  unfold quoI
  cases hna : neg k a <;> cases hnb : neg k b
  · refine ⟨?_, Nat.lt_of_le_of_lt (Nat.div_le_self a b) ha⟩
    show _ = dec k (a / b)
    rw [dec_nat hna, dec_nat hnb, ← Int.ofNat_tdiv, wrap_of k _ (a / b) rfl, Nat.mod_eq_of_lt (Nat.lt_of_le_of_lt (Nat.div_le_self a b) ha)]
  · refine ⟨?_, mod_lt k _⟩
    show _ = dec k ((M k - a / (M k - b)) % M k)
    rw [dec_nat hna, dec_abs hb hnb, Int.tdiv_neg, ← Int.ofNat_tdiv]
    refine wrap_of k _ _ ?_
    have : a / (M k - b) ≤ M k := Nat.le_trans (Nat.div_le_self _ _) (by omega)
    rw [show ((M k - a / (M k - b) : Nat) : Int) = -((a / (M k - b) : Nat) : Int) + M k by omega, Int.add_emod_right]
  · refine ⟨?_, mod_lt k _⟩
    show _ = dec k ((M k - (M k - a) / b) % M k)
    rw [dec_nat hnb, dec_abs ha hna, Int.neg_tdiv, ← Int.ofNat_tdiv]
    refine wrap_of k _ _ ?_
    have : (M k - a) / b ≤ M k := Nat.le_trans (Nat.div_le_self _ _) (by omega)
    rw [show ((M k - (M k - a) / b : Nat) : Int) = -(((M k - a) / b : Nat) : Int) + M k by omega, Int.add_emod_right]
  · refine ⟨?_, mod_lt k _⟩
    show _ = dec k (((M k - a) / (M k - b)) % M k)
    rw [dec_abs ha hna, dec_abs hb hnb, Int.neg_tdiv_neg, ← Int.ofNat_tdiv]
    exact wrap_of k _ _ rfl
theorem rem_ok {k : IntKind} {a b : Nat} (ha : a < M k) (hb : b < M k) (h0 : 0 < b) : (dec k a).tmod (dec k b) = dec k (remI k a b) ∧ remI k a b < M k := by
  unfold remI
  have small : ∀ x : Nat, x < M k → neg k x = false → ∀ y, y ≤ x → dec k y = y ∧ y < M k := fun x hx hn y hy =>
    ⟨dec_nat ((neg_false k y).2 fun hs => by have := (neg_false k x).1 hn hs; omega), by omega⟩
  have large : ∀ x : Nat, x < M k → neg k x = true → ∀ y, y ≤ M k - x → dec k ((M k - y) % M k) = -(y : Int) := fun x hx hn y hy => by
    obtain ⟨hs, hh⟩ := (neg_iff k x).1 hn
    have hM := M_sgn k hs
    by_cases hy0 : y = 0
    · subst hy0; rw [Nat.sub_zero, Nat.mod_self]; exact dec_nat ((neg_false k 0).2 fun _ => by have := M_pos k; omega)
    · rw [Nat.mod_eq_of_lt (by omega), dec_abs (by omega) ((neg_iff k _).2 ⟨hs, by omega⟩)]; omega
  cases hna : neg k a <;> cases hnb : neg k b
  · show _ = dec k (a % b) ∧ a % b < M k
    obtain ⟨h1, h2⟩ := small a ha hna (a % b) (Nat.mod_le _ _)
    rw [h1, dec_nat hna, dec_nat hnb, ← Int.ofNat_tmod]; exact ⟨rfl, h2⟩
  · show _ = dec k (a % (M k - b)) ∧ a % (M k - b) < M k
    obtain ⟨h1, h2⟩ := small a ha hna (a % (M k - b)) (Nat.mod_le _ _)
    rw [h1, dec_nat hna, dec_abs hb hnb, Int.tmod_neg, ← Int.ofNat_tmod]; exact ⟨rfl, h2⟩
  · show _ = dec k ((M k - (M k - a) % b) % M k) ∧ _
    refine ⟨?_, mod_lt k _⟩
    rw [large a ha hna _ (Nat.mod_le _ _), dec_abs ha hna, dec_nat hnb, Int.neg_tmod, ← Int.ofNat_tmod]
  · show _ = dec k ((M k - (M k - a) % (M k - b)) % M k) ∧ _
    refine ⟨?_, mod_lt k _⟩
    rw [large a ha hna _ (Nat.mod_le _ _), dec_abs ha hna, dec_abs hb hnb, Int.tmod_neg, Int.neg_tmod, ← Int.ofNat_tmod]
theorem ofInt_dec (k : IntKind) (a : Nat) : BitVec.ofInt k.bits (dec k a) = BitVec.ofNat k.bits a := by
  unfold dec
  split
  · apply BitVec.eq_of_toNat_eq
    rw [BitVec.toNat_ofInt, BitVec.toNat_ofNat]
    have hM : (M k : Int) = ((2 ^ k.bits : Nat) : Int) := by cases k <;> rfl
    rw [hM, Int.sub_emod_right]
    exact toNat_mod a _
  · exact BitVec.ofInt_natCast _ _
theorem M_bits (k : IntKind) : M k = 2 ^ k.bits := by cases k <;> rfl
theorem bit_ok {k : IntKind} {c : Nat} (r : BitVec k.bits) (h : r.toNat = c) : k.wrap r.toNat = dec k c ∧ c < M k := by
  have hl : c < M k := by rw [← h, M_bits]; exact r.isLt
  refine ⟨?_, hl⟩
  rw [wrap_of k _ c (by rw [h]), Nat.mod_eq_of_lt hl]
theorem ofNat_toNat {k : IntKind} {a : Nat} (h : a < M k) : (BitVec.ofNat k.bits a).toNat = a := by
  rw [BitVec.toNat_ofNat, ← M_bits]; exact Nat.mod_eq_of_lt h
theorem sh_eq {k : IntKind} {a : Nat} (ha : a < M k) : (sh k a : Int) = dec k a + H k := by
  unfold dec
  have hs := neg_iff k a
  cases hn : neg k a
  · have h1 := (neg_false k a).1 hn
    have : a + H k < M k := by
      cases hg : sgn k
      · have : H k = 0 := by cases k <;> first | rfl | exact absurd hg (by decide)
        omega
      · have := M_sgn k hg; have := h1 hg; omega
    show (((a + H k) % M k : Nat) : Int) = _
    rw [Nat.mod_eq_of_lt this]; simp
  · obtain ⟨h1, h2⟩ := hs.1 hn
    have := M_sgn k h1
    show (((a + H k) % M k : Nat) : Int) = _
    rw [show a + H k = (a - H k) + M k by omega, Nat.add_mod_right, Nat.mod_eq_of_lt (by omega)]
    simp; omega
theorem blt_sh {k : IntKind} {a b : Nat} (ha : a < M k) (hb : b < M k) : Nat.blt (sh k a) (sh k b) = decide (dec k a < dec k b) := by
  have h1 := sh_eq ha; have h2 := sh_eq hb
  show Nat.ble (sh k a + 1) (sh k b) = _
  by_cases h : dec k a < dec k b
  · rw [decide_eq_true h]; exact Nat.ble_eq_true_of_le (by omega)
  · rw [decide_eq_false h]; cases e : Nat.ble (sh k a + 1) (sh k b); rfl; have := Nat.le_of_ble_eq_true e; omega
theorem ble_sh {k : IntKind} {a b : Nat} (ha : a < M k) (hb : b < M k) : Nat.ble (sh k a) (sh k b) = decide (dec k a ≤ dec k b) := by
  have h1 := sh_eq ha; have h2 := sh_eq hb
  by_cases h : dec k a ≤ dec k b
  · rw [decide_eq_true h]; exact Nat.ble_eq_true_of_le (by omega)
  · rw [decide_eq_false h]; cases e : Nat.ble (sh k a) (sh k b); rfl; have := Nat.le_of_ble_eq_true e; omega
theorem dec_inj {k : IntKind} {a b : Nat} (ha : a < M k) (hb : b < M k) (h : dec k a = dec k b) : a = b := by
  have := congrArg (· % (M k : Int)) h
  simp only [dec_emod k a ha, dec_emod k b hb] at this
  omega
theorem beq_dec {k : IntKind} {a b : Nat} (ha : a < M k) (hb : b < M k) : Nat.beq a b = (dec k a == dec k b) := by
  by_cases h : a = b
  · subst h; rw [Nat.beq_refl]; simp
  · rw [show Nat.beq a b = false from by cases e : Nat.beq a b; rfl; exact absurd (Nat.eq_of_beq_eq_true e) h]
    symm; simp; exact fun e => h (dec_inj ha hb e)
theorem cv_ok {k0 k : IntKind} {n : Nat} (hn : n < M k0) : k.wrap (dec k0 n) = dec k (cvI k0 k n) ∧ cvI k0 k n < M k := by
  unfold cvI
  cases h : neg k0 n
  · refine ⟨?_, mod_lt k _⟩
    rw [dec_nat h]; exact wrap_of k _ _ rfl
  · refine ⟨?_, mod_lt k _⟩
    have : k.wrap (dec k0 n) = dec k ((n + M k * 18446744073709551616 - M k0) % M k) := by
      refine wrap_of k _ _ ?_
      simp only [dec, h, if_true]
      have h1 : M k0 ≤ 18446744073709551616 := by cases k0 <;> decide
      have h2 : M k0 ≤ M k * 18446744073709551616 := Nat.le_trans h1 (Nat.le_mul_of_pos_left _ (M_pos k))
      generalize 18446744073709551616 = c at h2
      rw [show ((n + M k * c - M k0 : Nat) : Int) = (n : Int) - M k0 + (M k : Int) * c by rw [Int.ofNat_sub (by omega)]; push_cast; omega]
      rw [Int.add_mul_emod_self_left]
    exact this
end Go.AM
