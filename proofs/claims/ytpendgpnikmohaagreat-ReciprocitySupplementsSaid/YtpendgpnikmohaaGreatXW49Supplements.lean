/- Supplements: the law returns true at all arguments. -/
import Derived.Test.YtpendgpnikmohaaGreatXVN
set_option linter.unusedVariables false
set_option linter.unusedSimpArgs false
set_option maxRecDepth 100000
namespace Go.AM
open Go.Proofs
noncomputable section
def F8q (fe fg fz : Gn 2) (fs : Gn 1) : Gn 3 := G8 (C8 sayT fe fg fz fs)
theorem K8q : FOK Tryz.prog 8 (un 3 (F8q Fp Fp Fp F32)) := fokP (.cons K11y (.cons K29p (.cons K30p (.cons K31p (.cons K32 .nil))))) .nil hm Tryz.func8 (by kernel_rfl) (D8 sayT Fp Fp Fp F32) (H8 _)
theorem un3 (g : Gn 3) (a b c : V) : un 3 g [a, b, c] = g a b c := by rfl
theorem n0 (c : V → R) : pNeq (ii 0) (.i .i64 0) c = c (.b false) := by rfl
theorem q_tt (c : V → R) : pEqB true (.b true) (.b true) c = c (.b true) := by rfl
theorem q_ff (c : V → R) : pEqB true (.b false) (.b false) c = c (.b true) := by rfl
theorem law_ok (fe fg fz : Gn 2) (fs : Gn 1) (v0 v1 v2 p a0 b0 ab x y z m t w q4 q8 mm tt : V) (e1 e3 e4 : Bool)
    (hs : ∀ c : Cont, fs v2 S0 c = c p S0) (ha : ∀ c, pConv .i64 v0 c = c a0) (hb : ∀ c, pConv .i64 v1 c = c b0) (hab : ∀ c, pMul a0 b0 c = c ab)
    (hx : ∀ c : Cont, fg a0 p S0 c = c (.tu [x, ii 0]) S0) (hy : ∀ c : Cont, fz b0 p S0 c = c (.tu [y, ii 0]) S0) (hz : ∀ c : Cont, fe ab p S0 c = c (.tu [z, ii 0]) S0)
    (hm : ∀ c : Cont, fe (.i .i64 18446744073709551615) p S0 c = c (.tu [m, ii 0]) S0) (ht : ∀ c : Cont, fg (.i .i64 2) p S0 c = c (.tu [t, ii 0]) S0)
    (hxy : ∀ c, pMul x y c = c w) (hzw : ∀ c, pEql z w c = c (.b true)) (h1 : ∀ c, pEql m (.i .i64 1) c = c (.b e1)) (h2 : ∀ c, pRem p (.i .i64 4) c = c q4) (h3 : ∀ c, pEql q4 (.i .i64 1) c = c (.b e1))
    (h4 : ∀ c, pEql t (.i .i64 1) c = c (.b (e3 || e4))) (h5 : ∀ c, pRem p (.i .i64 8) c = c q8) (h6 : ∀ c, pEql q8 (.i .i64 1) c = c (.b e3)) (h7 : ∀ c, pEql q8 (.i .i64 7) c = c (.b e4))
    (h8 : ∀ c, pMul m m c = c mm) (h9 : ∀ c, pEql mm (.i .i64 1) c = c (.b true)) (h10 : ∀ c, pMul t t c = c tt) (h11 : ∀ c, pEql tt (.i .i64 1) c = c (.b true)) : F8q fe fg fz fs v0 v1 v2 S0 fin = fin (.b true) S0 := by
  cases e1 <;> cases e3 <;> cases e4 <;> simp only [Bool.or_true, Bool.or_false, Bool.true_or, Bool.false_or] at h4 <;>
    simp only [F8q, G8, C8, cSeq, cReg, cCond, cRet, cSkip, sayT, pNot_t, hs, ha, hb, hab, hx, hy, hz, hm, ht, hxy, hzw, h1, h2, h3, h4, h5, h6, h7, h8, h9, h10, h11, n0, q_tt, q_ff, pExt_0, pExt_1, pIf_t, pIf_f, pGd_tt, pGd_ft, pGd_ff, pGd_tf, pPick_t, pPick_f]
def C32r (a0 : V) (f47 : Gn 1) : CS 6 := (cSeq (cReg fun kn v0 v1 v2 v3 v4 v5 S => kn v0 v1 v2 v3 v4 (.i .i64 0) S) (cSeq (cReg fun kn v0 v1 v2 v3 v4 v5 S => kn v0 v1 (.i .i64 3) v3 v4 v5 S) (cSeq (cSeq (cReg fun kn v0 v1 v2 v3 v4 v5 S => pConv .i64 a0 (fun a1 => kn v0 a1 v2 v3 v4 v5 S)) (cBlock 0 (cLoop (cSeq (cSeq (cReg fun kn v0 v1 v2 v3 v4 v5 S => pGtr v1 (.i .i64 0) (fun a0 => pGd a0 false (fun c => c v2 S) S (fun a1 S => pGd a0 false (fun c => f47 a1 S c) S (fun a2 S => pGd a0 false (fun c => pNot a2 (fun v => c v S)) S (fun a3 S => pPick a0 (.b true) a3 (fun a4 => kn v0 v1 v2 a4 v4 v5 S)))))) (cCond (fun x y v0 v1 v2 v3 v4 v5 S => pIf v3 (x v0 v1 v2 v3 v4 v5 S) (y v0 v1 v2 v3 v4 v5 S)) cSkip (cExit 0))) (cSeq (cBlock 1 (cSeq (cReg fun kn v0 v1 v2 v3 v4 v5 S => f47 v2 S (fun a0 S => kn v0 v1 v2 v3 a0 v5 S)) (cCond (fun x y v0 v1 v2 v3 v4 v5 S => pIf v4 (x v0 v1 v2 v3 v4 v5 S) (y v0 v1 v2 v3 v4 v5 S)) (cReg fun kn v0 v1 v2 v3 v4 v5 S => pSub v1 (.i .i64 1) (fun a0 => kn v0 a0 v2 v3 v4 v5 S)) cSkip))) (cReg fun kn v0 v1 v2 v3 v4 v5 S => pAdd v2 (.i .i64 1) (fun a0 => kn v0 v1 a0 v3 v4 v5 S))))))) (cSeq (cReg fun kn v0 v1 v2 v3 v4 v5 S => kn v0 v1 v2 v3 v4 v2 S) cRet))))
theorem sm_split (v : V) (S : St) (k : Cont) : F32 v S k = pRem v (.i .u8 10) (fun a0 => G32 (C32r a0 F47) v S k) := by rfl
theorem sm_at (n i : Nat) (h : n % 10 = i) (S : St) (k : Cont) : F32 (.i .u8 n) S k = G32 (C32r (.i .u8 i) F47) (.i .u8 n) S k := by
  rw [sm_split, pRem_nat, h]
/-- what the law wants of a prime and its table -/
def okP (p : Nat) (l : List Nat) : Bool := (List.range p).all (fun i => (List.range p).all fun j => match l[i]?, l[j]?, l[(i * j) % p]? with
  | some x, some y, some z => Nat.beq z ((x * y) % 18446744073709551616)
  | _, _, _ => false)
theorem okP_get {p : Nat} {l : List Nat} (h : okP p l = true) {i j : Nat} (hi : i < p) (hj : j < p) : ∃ x y z, l[i]? = some x ∧ l[j]? = some y ∧ l[(i * j) % p]? = some z ∧ z = (x * y) % 18446744073709551616 := by
  simp only [okP, List.all_eq_true, List.mem_range] at h
  have := h i hi j hj
  split at this
  · rename_i x y z e1 e2 e3
    exact ⟨x, y, z, e1, e2, e3, Nat.eq_of_beq_eq_true this⟩
  · cases this
theorem one_prime {p : Nat} {l : List Nat} (hl : legs p = some l) (hk : okP p l = true) {m t : Nat} (hm : l[mo 18446744073709551615 p]? = some m) (ht : l[mo 2 p]? = some t) (e1 e3 e4 : Bool)
    (h1 : decide (m = 1) = e1) (h3 : decide (p % 4 = 1) = e1) (h4 : decide (t = 1) = (e3 || e4)) (h6 : decide (p % 8 = 1) = e3) (h7 : decide (p % 8 = 7) = e4) (h9 : (m * m) % 18446744073709551616 = 1) (h11 : (t * t) % 18446744073709551616 = 1)
    {a b : Int} (ha1 : -2147483648 ≤ a) (ha2 : a < 2147483648) (hb1 : -2147483648 ≤ b) (hb2 : b < 2147483648) {v2 : V} (hs : ∀ c : Cont, F32 v2 S0 c = c (ii p) S0) :
    F8q Fp Fp Fp F32 (.i .i32 (a % (M .i32 : Int)).toNat) (.i .i32 (b % (M .i32 : Int)).toNat) v2 S0 fin = fin (.b true) S0 := by
  obtain ⟨p0, p1, _⟩ := legs_all hl
  have hab1 : -9223372036854775808 ≤ a * b ∧ a * b < 9223372036854775808 := by
    have h1 : (a * b).natAbs ≤ 4611686018427387904 := by
      rw [Int.natAbs_mul]
      calc a.natAbs * b.natAbs ≤ 2147483648 * 2147483648 := Nat.mul_le_mul (by omega) (by omega)
        _ = _ := by decide
    omega
  have ra : (a % (p : Int)).toNat < p := by have := Int.emod_nonneg a (b := (p : Int)) (by omega); have := Int.emod_lt_of_pos a (b := (p : Int)) (by omega); omega
  have rb : (b % (p : Int)).toNat < p := by have := Int.emod_nonneg b (b := (p : Int)) (by omega); have := Int.emod_lt_of_pos b (b := (p : Int)) (by omega); omega
  obtain ⟨x, y, z, g1, g2, g3, g4⟩ := okP_get hk ra rb
  rw [← mo_enc (by omega) (by omega) p0] at g1 g2
  rw [← mod_mul a b p0, ← mo_enc hab1.1 hab1.2 p0] at g3
  refine law_ok Fp Fp Fp F32 _ _ v2 (ii p) (ii (enc a)) (ii (enc b)) (ii (enc (a * b))) (ii x) (ii y) (ii z) (ii m) (ii t) (ii ((x * y) % 18446744073709551616)) (ii (p % 4)) (ii (p % 8)) (ii 1) (ii 1) e1 e3 e4 hs (conv32 ha1 ha2) (conv32 hb1 hb2) (fun c => ?_)
    (fun c => DW_eq (enc_lt _) hl g1 S0 c) (fun c => DW_eq (enc_lt _) hl g2 S0 c) (fun c => DW_eq (enc_lt _) hl g3 S0 c) (fun c => DW_eq (by decide) hl hm S0 c) (fun c => DW_eq (by decide) hl ht S0 c) (fun c => ?_) (fun c => ?_) (fun c => ?_) (fun c => ?_) (fun c => ?_) (fun c => ?_) (fun c => ?_) (fun c => ?_) (fun c => ?_) (fun c => ?_) (fun c => ?_) (fun c => ?_) (fun c => ?_)
  · rw [pMul_i, show M .i64 = 18446744073709551616 from rfl, mul_enc]
  · rw [pMul_i, show M .i64 = 18446744073709551616 from rfl]
  · rw [eql_n, decide_eq_true g4]
  · rw [eql_n, h1]
  · exact rem_n (by omega) (by decide) (by decide) c
  · rw [eql_n, h3]
  · rw [eql_n, h4]
  · exact rem_n (by omega) (by decide) (by decide) c
  · rw [eql_n, h6]
  · rw [eql_n, h7]
  · rw [pMul_i, show M .i64 = 18446744073709551616 from rfl, h9]
  · rw [eql_n]; rfl
  · rw [pMul_i, show M .i64 = 18446744073709551616 from rfl, h11]
  · rw [eql_n]; rfl
theorem sm0 (v : V) (S : St) (k : Cont) : G32 (C32r (.i .u8 0) F47) v S k = k (ii 3) S := by kernel_rfl
theorem ok3 : okP 3 leg3 = true := by kernel_rfl
theorem sm1 (v : V) (S : St) (k : Cont) : G32 (C32r (.i .u8 1) F47) v S k = k (ii 5) S := by kernel_rfl
theorem ok5 : okP 5 leg5 = true := by kernel_rfl
theorem sm2 (v : V) (S : St) (k : Cont) : G32 (C32r (.i .u8 2) F47) v S k = k (ii 7) S := by kernel_rfl
theorem ok7 : okP 7 leg7 = true := by kernel_rfl
theorem sm3 (v : V) (S : St) (k : Cont) : G32 (C32r (.i .u8 3) F47) v S k = k (ii 11) S := by kernel_rfl
theorem ok11 : okP 11 leg11 = true := by kernel_rfl
theorem sm4 (v : V) (S : St) (k : Cont) : G32 (C32r (.i .u8 4) F47) v S k = k (ii 13) S := by kernel_rfl
theorem ok13 : okP 13 leg13 = true := by kernel_rfl
theorem sm5 (v : V) (S : St) (k : Cont) : G32 (C32r (.i .u8 5) F47) v S k = k (ii 17) S := by kernel_rfl
theorem ok17 : okP 17 leg17 = true := by kernel_rfl
theorem sm6 (v : V) (S : St) (k : Cont) : G32 (C32r (.i .u8 6) F47) v S k = k (ii 19) S := by kernel_rfl
theorem ok19 : okP 19 leg19 = true := by kernel_rfl
theorem sm7 (v : V) (S : St) (k : Cont) : G32 (C32r (.i .u8 7) F47) v S k = k (ii 23) S := by kernel_rfl
theorem ok23 : okP 23 leg23 = true := by kernel_rfl
theorem sm8 (v : V) (S : St) (k : Cont) : G32 (C32r (.i .u8 8) F47) v S k = k (ii 29) S := by kernel_rfl
theorem ok29 : okP 29 leg29 = true := by kernel_rfl
theorem sm9 (v : V) (S : St) (k : Cont) : G32 (C32r (.i .u8 9) F47) v S k = k (ii 31) S := by kernel_rfl
theorem ok31 : okP 31 leg31 = true := by kernel_rfl
theorem toP (n : Nat) : n % 10 = 0 ∨ n % 10 = 1 ∨ n % 10 = 2 ∨ n % 10 = 3 ∨ n % 10 = 4 ∨ n % 10 = 5 ∨ n % 10 = 6 ∨ n % 10 = 7 ∨ n % 10 = 8 ∨ n % 10 = 9 := by omega
theorem all8 (n : Nat) {a b : Int} (ha1 : -2147483648 ≤ a) (ha2 : a < 2147483648) (hb1 : -2147483648 ≤ b) (hb2 : b < 2147483648) : F8q Fp Fp Fp F32 (.i .i32 (a % (M .i32 : Int)).toNat) (.i .i32 (b % (M .i32 : Int)).toNat) (.i .u8 n) S0 fin = fin (.b true) S0 := by
  rcases toP n with h | h | h | h | h | h | h | h | h | h
  · exact one_prime (p := 3) (l := leg3) rfl ok3 (m := 18446744073709551615) (t := 18446744073709551615) (by kernel_rfl) (by kernel_rfl) false false false (by decide) (by decide) (by decide) (by decide) (by decide) (by decide) (by decide) ha1 ha2 hb1 hb2 (fun c => (sm_at n 0 h S0 c).trans (sm0 _ S0 c))
  · exact one_prime (p := 5) (l := leg5) rfl ok5 (m := 1) (t := 18446744073709551615) (by kernel_rfl) (by kernel_rfl) true false false (by decide) (by decide) (by decide) (by decide) (by decide) (by decide) (by decide) ha1 ha2 hb1 hb2 (fun c => (sm_at n 1 h S0 c).trans (sm1 _ S0 c))
  · exact one_prime (p := 7) (l := leg7) rfl ok7 (m := 18446744073709551615) (t := 1) (by kernel_rfl) (by kernel_rfl) false false true (by decide) (by decide) (by decide) (by decide) (by decide) (by decide) (by decide) ha1 ha2 hb1 hb2 (fun c => (sm_at n 2 h S0 c).trans (sm2 _ S0 c))
  · exact one_prime (p := 11) (l := leg11) rfl ok11 (m := 18446744073709551615) (t := 18446744073709551615) (by kernel_rfl) (by kernel_rfl) false false false (by decide) (by decide) (by decide) (by decide) (by decide) (by decide) (by decide) ha1 ha2 hb1 hb2 (fun c => (sm_at n 3 h S0 c).trans (sm3 _ S0 c))
  · exact one_prime (p := 13) (l := leg13) rfl ok13 (m := 1) (t := 18446744073709551615) (by kernel_rfl) (by kernel_rfl) true false false (by decide) (by decide) (by decide) (by decide) (by decide) (by decide) (by decide) ha1 ha2 hb1 hb2 (fun c => (sm_at n 4 h S0 c).trans (sm4 _ S0 c))
  · exact one_prime (p := 17) (l := leg17) rfl ok17 (m := 1) (t := 1) (by kernel_rfl) (by kernel_rfl) true true false (by decide) (by decide) (by decide) (by decide) (by decide) (by decide) (by decide) ha1 ha2 hb1 hb2 (fun c => (sm_at n 5 h S0 c).trans (sm5 _ S0 c))
  · exact one_prime (p := 19) (l := leg19) rfl ok19 (m := 18446744073709551615) (t := 18446744073709551615) (by kernel_rfl) (by kernel_rfl) false false false (by decide) (by decide) (by decide) (by decide) (by decide) (by decide) (by decide) ha1 ha2 hb1 hb2 (fun c => (sm_at n 6 h S0 c).trans (sm6 _ S0 c))
  · exact one_prime (p := 23) (l := leg23) rfl ok23 (m := 18446744073709551615) (t := 1) (by kernel_rfl) (by kernel_rfl) false false true (by decide) (by decide) (by decide) (by decide) (by decide) (by decide) (by decide) ha1 ha2 hb1 hb2 (fun c => (sm_at n 7 h S0 c).trans (sm7 _ S0 c))
  · exact one_prime (p := 29) (l := leg29) rfl ok29 (m := 1) (t := 18446744073709551615) (by kernel_rfl) (by kernel_rfl) true false false (by decide) (by decide) (by decide) (by decide) (by decide) (by decide) (by decide) ha1 ha2 hb1 hb2 (fun c => (sm_at n 8 h S0 c).trans (sm8 _ S0 c))
  · exact one_prime (p := 31) (l := leg31) rfl ok31 (m := 18446744073709551615) (t := 1) (by kernel_rfl) (by kernel_rfl) false false true (by decide) (by decide) (by decide) (by decide) (by decide) (by decide) (by decide) ha1 ha2 hb1 hb2 (fun c => (sm_at n 9 h S0 c).trans (sm9 _ S0 c))
theorem walkReciprocitySupplements (a b k : Int) (W : World) (wa : (Lit.int .i32 a).wf = true) (wb : (Lit.int .i32 b).wf = true) (wk : (Lit.int .u8 k).wf = true) : Calls Tryz.prog 8 #[.int .i32 a, .int .i32 b, .int .u8 k] W fun e w' => e = .returned (.bool true) ∧ Go.RowKit.Below W.heap.size W w' := by
  have hv : VRs (fun _ => none) [.i .i32 (a % (M .i32 : Int)).toNat, .i .i32 (b % (M .i32 : Int)).toNat, .i .u8 (k % (M .u8 : Int)).toNat] (#[.int .i32 a, .int .i32 b, .int .u8 k] : Array Value).toList := .cons _ _ _ _ (vr_wf wa) (.cons _ _ _ _ (vr_wf wb) (.cons _ _ _ _ (vr_wf wk) .nil))
  have h1 : -2147483648 ≤ a ∧ a ≤ 2147483647 := by simpa [Lit.wf, IntKind.min, IntKind.max, IntKind.bits, IntKind.signed] using wa
  have h2 : -2147483648 ≤ b ∧ b ≤ 2147483647 := by simpa [Lit.wf, IntKind.min, IntKind.max, IntKind.bits, IntKind.signed] using wb
  refine top_calls Tryz.func8 (by kernel_rfl) (by kernel_rfl) K8q _ _ hv ?_ W
  rw [un3]
  change yesB (F8q Fp Fp Fp F32 _ _ _ S0 fin) = true
  rw [all8 _ h1.1 (by omega) h2.1 (by omega)]
  rfl
end
end Go.AM
