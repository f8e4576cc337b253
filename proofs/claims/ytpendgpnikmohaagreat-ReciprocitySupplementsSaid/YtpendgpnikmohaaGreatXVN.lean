/- Residues of machine numbers. No program in sight. -/
import Derived.Test.YtpendgpnikmohaaGreatXV
namespace Go.AM
def enc (z : Int) : Nat := (z % 18446744073709551616).toNat
theorem enc_lt (z : Int) : enc z < 18446744073709551616 := by unfold enc; omega
theorem enc_pos {z : Int} (h : 0 ≤ z) (h' : z < 18446744073709551616) : enc z = z.toNat := by unfold enc; omega
theorem enc_neg {z : Int} (h : z < 0) (h' : -18446744073709551616 ≤ z) : enc z = 18446744073709551616 - (-z).toNat := by unfold enc; omega
theorem mo_enc {z : Int} {p : Nat} (h1 : -9223372036854775808 ≤ z) (h2 : z < 9223372036854775808) (hp : 0 < p) : mo (enc z) p = (z % (p : Int)).toNat := by
  rcases Int.lt_or_le z 0 with h | h
  · obtain ⟨n, hn⟩ : ∃ n : Nat, z = -(n : Int) := ⟨(-z).toNat, by omega⟩
    subst hn
    rw [enc_neg h (by omega)]
    have e : (- -(n : Int)).toNat = n := by omega
    rw [e]
    have e1 : mo (18446744073709551616 - n) p = (p - n % p) % p := by
      unfold mo
      rw [if_neg (by omega), show 18446744073709551616 - (18446744073709551616 - n) = n by omega]
    rw [e1]
    have hr := Nat.mod_lt n hp
    have e2 : -(n : Int) = ((p - n % p : Nat) : Int) + (p : Int) * (-((n / p : Nat) : Int) - 1) := by
      have := Nat.div_add_mod n p
      have h3 : (n : Int) = (p : Int) * ((n / p : Nat) : Int) + ((n % p : Nat) : Int) := by exact_mod_cast this.symm
      have h4 : ((p - n % p : Nat) : Int) = (p : Int) - ((n % p : Nat) : Int) := by omega
      rw [h4, Int.mul_sub, Int.mul_neg, Int.mul_one]
      omega
    rw [e2, Int.add_mul_emod_self_left]
    have : (((p - n % p : Nat) : Int) % (p : Int)) = (((p - n % p) % p : Nat) : Int) := by simp
    rw [this]; rfl
  · obtain ⟨n, hn⟩ : ∃ n : Nat, z = (n : Int) := ⟨z.toNat, by omega⟩
    subst hn
    rw [enc_pos h (by omega)]
    unfold mo
    rw [show ((n : Int)).toNat = n from rfl, if_pos (by omega)]
    have : ((n : Int) % (p : Int)) = ((n % p : Nat) : Int) := by simp
    rw [this]; rfl
theorem mul_enc (x y : Int) : (enc x * enc y) % 18446744073709551616 = enc (x * y) := by
  unfold enc
  have h1 := Int.emod_nonneg x (b := 18446744073709551616) (by decide)
  have h2 := Int.emod_nonneg y (b := 18446744073709551616) (by decide)
  have e : (x * y) % 18446744073709551616 = ((x % 18446744073709551616) * (y % 18446744073709551616)) % 18446744073709551616 := Int.mul_emod _ _ _
  rw [e]
  generalize x % 18446744073709551616 = a at h1
  generalize y % 18446744073709551616 = b at h2
  obtain ⟨n, rfl⟩ : ∃ n : Nat, a = (n : Int) := ⟨a.toNat, by omega⟩
  obtain ⟨m, rfl⟩ : ∃ m : Nat, b = (m : Int) := ⟨b.toNat, by omega⟩
  have : ((n : Int) * (m : Int)) % 18446744073709551616 = ((n * m % 18446744073709551616 : Nat) : Int) := by
    rw [← Int.natCast_mul]; rfl
  rw [this]; rfl
theorem mod_mul (x y : Int) {p : Nat} (hp : 0 < p) : ((x * y) % (p : Int)).toNat = ((x % (p : Int)).toNat * (y % (p : Int)).toNat) % p := by
  have h1 := Int.emod_nonneg x (b := (p : Int)) (by omega)
  have h2 := Int.emod_nonneg y (b := (p : Int)) (by omega)
  rw [Int.mul_emod]
  generalize x % (p : Int) = a at h1
  generalize y % (p : Int) = b at h2
  obtain ⟨n, rfl⟩ : ∃ n : Nat, a = (n : Int) := ⟨a.toNat, by omega⟩
  obtain ⟨m, rfl⟩ : ∃ m : Nat, b = (m : Int) := ⟨b.toNat, by omega⟩
  have : ((n : Int) * (m : Int)) % (p : Int) = ((n * m % p : Nat) : Int) := by
    rw [← Int.natCast_mul]; simp
  rw [this]; rfl
theorem conv32 {z : Int} (h1 : -2147483648 ≤ z) (h2 : z < 2147483648) (c : V → R) : pConv .i64 (.i .i32 (z % (M .i32 : Int)).toNat) c = c (ii (enc z)) := by
  show retI c .i64 (cvI .i32 .i64 (z % 4294967296).toNat) = _
  rw [retI_eq]
  have e : cvI .i32 .i64 (z % 4294967296).toNat = enc z := by
    unfold cvI
    rcases Int.lt_or_le z 0 with h | h
    · have hn : (z % 4294967296).toNat = 4294967296 - (-z).toNat := by omega
      have hg : neg .i32 (z % 4294967296).toNat = true := by
        show Nat.ble 2147483648 _ = true
        exact Nat.ble_eq_true_of_le (by omega)
      rw [hg, enc_neg h (by omega), hn]
      show (4294967296 - (-z).toNat + 18446744073709551616 * 18446744073709551616 - 4294967296) % 18446744073709551616 = _
      omega
    · have hn : (z % 4294967296).toNat = z.toNat := by omega
      have hg : neg .i32 (z % 4294967296).toNat = false := by
        show Nat.ble 2147483648 _ = false
        rw [ble_eq]; exact decide_eq_false (by omega)
      rw [hg, enc_pos h (by omega), hn]
      show z.toNat % 18446744073709551616 = _
      omega
  rw [e]
end Go.AM
