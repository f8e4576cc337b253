/- The test of numbers that must be odd primes, and the reference's. -/
import Derived.Test.YtpendgpnikmohaaGreatXPv
set_option linter.unusedVariables false
set_option linter.unusedSimpArgs false
set_option maxRecDepth 100000
namespace Go.AM
open Go.Proofs
noncomputable section
def B43 (f75 : Gn 1) : CS 11 := (cSeq (cReg fun kn v0 v1 v2 v3 v4 v5 v6 v7 v8 v9 v10 S => pLss v1 v2 (fun a0 => kn v0 v1 v2 a0 v4 v5 v6 v7 v8 v9 v10 S)) (cSeq (cCond (fun x y v0 v1 v2 v3 v4 v5 v6 v7 v8 v9 v10 S => pIf v3 (x v0 v1 v2 v3 v4 v5 v6 v7 v8 v9 v10 S) (y v0 v1 v2 v3 v4 v5 v6 v7 v8 v9 v10 S)) cSkip (cExit 0)) (cSeq (cBlock 1 (cSeq (cReg fun kn v0 v1 v2 v3 v4 v5 v6 v7 v8 v9 v10 S => pIdx 1 v4 v1 (fun a0 => pLd a0 S (fun a1 => kn v0 v1 v2 v3 v4 a1 v6 v7 v8 v9 v10 S))) (cSeq (cSeq (cReg fun kn v0 v1 v2 v3 v4 v5 v6 v7 v8 v9 v10 S => pLss v5 (.i .i64 3) (fun a0 => pGd a0 false (fun c => c v5 S) S (fun a1 S => pGd a0 false (fun c => pGtr a1 (.i .i64 65521) (fun v => c v S)) S (fun a2 S => pPick a0 (.b true) a2 (fun a3 => kn v0 v1 v2 v3 v4 v5 a3 v7 v8 v9 v10 S))))) (cCond (fun x y v0 v1 v2 v3 v4 v5 v6 v7 v8 v9 v10 S => pIf v6 (x v0 v1 v2 v3 v4 v5 v6 v7 v8 v9 v10 S) (y v0 v1 v2 v3 v4 v5 v6 v7 v8 v9 v10 S)) (cSeq (cReg fun kn v0 v1 v2 v3 v4 v5 v6 v7 v8 v9 v10 S => kn v0 v1 v2 v3 v4 v5 v6 v7 v8 v9 (.i .i64 7) S) cRet) cSkip)) (cSeq (cReg fun kn v0 v1 v2 v3 v4 v5 v6 v7 v8 v9 v10 S => f75 v5 S (fun a0 S => pExt a0 0 (fun a1 => pExt a0 1 (fun a2 => kn v0 v1 v2 v3 v4 v5 v6 a2 a1 v9 v10 S)))) (cSeq (cReg fun kn v0 v1 v2 v3 v4 v5 v6 v7 v8 v9 v10 S => pNeq v7 (.i .i64 0) (fun a0 => pGd a0 false (fun c => c v8 S) S (fun a1 S => pGd a0 false (fun c => pNot a1 (fun v => c v S)) S (fun a2 S => pPick a0 (.b true) a2 (fun a3 => kn v0 v1 v2 v3 v4 v5 v6 v7 v8 a3 v10 S))))) (cCond (fun x y v0 v1 v2 v3 v4 v5 v6 v7 v8 v9 v10 S => pIf v9 (x v0 v1 v2 v3 v4 v5 v6 v7 v8 v9 v10 S) (y v0 v1 v2 v3 v4 v5 v6 v7 v8 v9 v10 S)) (cSeq (cReg fun kn v0 v1 v2 v3 v4 v5 v6 v7 v8 v9 v10 S => kn v0 v1 v2 v3 v4 v5 v6 v7 v8 v9 (.i .i64 7) S) cRet) cSkip)))))) (cReg fun kn v0 v1 v2 v3 v4 v5 v6 v7 v8 v9 v10 S => pAdd v1 (.i .i64 1) (fun a0 => kn v0 a0 v2 v3 v4 v5 v6 v7 v8 v9 v10 S)))))
def E43 : CS 11 := (cSeq (cReg fun kn v0 v1 v2 v3 v4 v5 v6 v7 v8 v9 v10 S => kn v0 v1 v2 v3 v4 v5 v6 v7 v8 v9 (.i .i64 0) S) cRet)
def A43 : CS 11 := (cReg fun kn v0 v1 v2 v3 v4 v5 v6 v7 v8 v9 v10 S => kn v0 v1 v2 v3 v4 v5 v6 v7 v8 v9 (.i .i64 0) S)
def A43b : CS 11 := (cReg fun kn v0 v1 v2 v3 v4 v5 v6 v7 v8 v9 v10 S => pLen v0 (fun a0 => kn v0 (.i .i64 0) a0 v3 v0 v5 v6 v7 v8 v9 v10 S))
theorem C43_eq (f75 : Gn 1) : C43 f75 = cSeq A43 (cSeq (cSeq A43b (cBlock 0 (cLoop (B43 f75)))) E43) := by rfl
variable (f75 : Gn 1) (K : Fn 11) (kx : Nat → Fn 11) (kr : Fn 11) (v0 v1 v2 v3 v4 v5 v6 v7 v8 v9 v10 p x v1' : V) (S : St)
theorem b43_lo (h1 : ∀ c, pLss v1 v2 c = c (.b true)) (h2 : ∀ c, pIdx 1 v4 v1 c = c p) (h3 : ∀ c, pLd p S c = c x) (h4 : ∀ c, pLss x (.i .i64 3) c = c (.b true)) :
    B43 f75 K kx kr v0 v1 v2 v3 v4 v5 v6 v7 v8 v9 v10 S = kr v0 v1 v2 (.b true) v4 x (.b true) v7 v8 v9 (ii 7) S := by
  simp only [B43, cSeq, cReg, cCond, cBlock, cSkip, cExit, cRet, h1, h2, h3, h4, pIf_t, pGd_tf, pPick_t]
theorem b43_hi (h1 : ∀ c, pLss v1 v2 c = c (.b true)) (h2 : ∀ c, pIdx 1 v4 v1 c = c p) (h3 : ∀ c, pLd p S c = c x) (h4 : ∀ c, pLss x (.i .i64 3) c = c (.b false)) (h5 : ∀ c, pGtr x (.i .i64 65521) c = c (.b true)) :
    B43 f75 K kx kr v0 v1 v2 v3 v4 v5 v6 v7 v8 v9 v10 S = kr v0 v1 v2 (.b true) v4 x (.b true) v7 v8 v9 (ii 7) S := by
  simp only [B43, cSeq, cReg, cCond, cBlock, cSkip, cExit, cRet, h1, h2, h3, h4, h5, pIf_t, pGd_ff, pPick_f]
theorem e00 (c : V → R) : pNeq (ii 0) (.i .i64 0) c = c (.b false) := by rfl
theorem b43_np (h1 : ∀ c, pLss v1 v2 c = c (.b true)) (h2 : ∀ c, pIdx 1 v4 v1 c = c p) (h3 : ∀ c, pLd p S c = c x) (h4 : ∀ c, pLss x (.i .i64 3) c = c (.b false)) (h5 : ∀ c, pGtr x (.i .i64 65521) c = c (.b false)) (h6 : ∀ c : Cont, f75 x S c = c (.tu [.b false, ii 0]) S) :
    B43 f75 K kx kr v0 v1 v2 v3 v4 v5 v6 v7 v8 v9 v10 S = kr v0 v1 v2 (.b true) v4 x (.b false) (ii 0) (.b false) (.b true) (ii 7) S := by
  simp only [B43, cSeq, cReg, cCond, cBlock, cSkip, cExit, cRet, h1, h2, h3, h4, h5, h6, e00, pExt_0, pExt_1, pIf_t, pIf_f, pGd_ff, pPick_f, pNot_f]
theorem b43_ok (h1 : ∀ c, pLss v1 v2 c = c (.b true)) (h2 : ∀ c, pIdx 1 v4 v1 c = c p) (h3 : ∀ c, pLd p S c = c x) (h4 : ∀ c, pLss x (.i .i64 3) c = c (.b false)) (h5 : ∀ c, pGtr x (.i .i64 65521) c = c (.b false)) (h6 : ∀ c : Cont, f75 x S c = c (.tu [.b true, ii 0]) S) (h7 : ∀ c, pAdd v1 (.i .i64 1) c = c v1') :
    B43 f75 K kx kr v0 v1 v2 v3 v4 v5 v6 v7 v8 v9 v10 S = K v0 v1' v2 (.b true) v4 x (.b false) (ii 0) (.b true) (.b false) v10 S := by
  simp only [B43, cSeq, cReg, cCond, cBlock, cSkip, cExit, cRet, h1, h2, h3, h4, h5, h6, h7, e00, pExt_0, pExt_1, pIf_t, pIf_f, pGd_ff, pPick_f, pNot_t]
theorem b43_end (h1 : ∀ c, pLss v1 v2 c = c (.b false)) :
    B43 f75 K kx kr v0 v1 v2 v3 v4 v5 v6 v7 v8 v9 v10 S = kx 0 v0 v1 v2 (.b false) v4 v5 v6 v7 v8 v9 v10 S := by
  simp only [B43, cSeq, cReg, cCond, cBlock, cSkip, cExit, cRet, h1, pIf_t, pIf_f, pGd_ff, pPick_f, pNot_t]
def F43p : Gn 1 := G43 (C43 F75p)
theorem K43p : FOK Tryz.prog 43 (un 1 F43p) := fokP (.cons K75p .nil) .nil hm Tryz.func43 (by kernel_rfl) (D43 F75p) (H43 _)
/-- what the test says of one number -/
def chk (n : Nat) : Nat := if 3 ≤ n ∧ n ≤ 65521 ∧ isP n = true then 0 else 7
theorem f43_eq (v l : V) (S : St) (k : Cont) (hl : ∀ c, pLen v c = c l) : F43p v S k = cBlock 0 (cLoop (B43 F75p)) (E43 (fun v0 v1 v2 v3 v4 v5 v6 v7 v8 v9 v10 S => k v10 S) (fun _ => bot 11) (fun v0 v1 v2 v3 v4 v5 v6 v7 v8 v9 v10 S => k v10 S)) (fun _ => bot 11) (fun v0 v1 v2 v3 v4 v5 v6 v7 v8 v9 v10 S => k v10 S) v (.i .i64 0) l .other v .other .other .other .other .other (.i .i64 0) S := by
  have h : ∀ (B E : CS 11) (kn : Fn 11) (kx : Nat → Fn 11) (kr : Fn 11), cSeq A43 (cSeq (cSeq A43b B) E) kn kx kr v .other .other .other .other .other .other .other .other .other .other S = pLen v (fun a0 => B (E kn kx kr) kx kr v (.i .i64 0) a0 .other v .other .other .other .other .other (.i .i64 0) S) := fun B E kn kx kr => rfl
  unfold F43p G43
  rw [C43_eq, h, hl]
/-- the test of a number at its place: what a round does -/
theorem round43 (kx : Nat → Fn 11) (k : Cont) (N : Nat) (n : Nat) (hn : n < 18446744073709551616) (v0 v1 v2 v3 v4 v5 v6 v7 v8 v9 v10 p v1' : V) (S : St) (h1 : ∀ c, pLss v1 v2 c = c (.b true)) (h2 : ∀ c, pIdx 1 v4 v1 c = c p) (h3 : ∀ c, pLd p S c = c (ii n)) (h7 : ∀ c, pAdd v1 (.i .i64 1) c = c v1') :
    (chk n = 7 ∧ loopN (B43 F75p) kx (fun v0 v1 v2 v3 v4 v5 v6 v7 v8 v9 v10 S => k v10 S) (N + 1) v0 v1 v2 v3 v4 v5 v6 v7 v8 v9 v10 S = k (ii 7) S) ∨
    (chk n = 0 ∧ loopN (B43 F75p) kx (fun v0 v1 v2 v3 v4 v5 v6 v7 v8 v9 v10 S => k v10 S) (N + 1) v0 v1 v2 v3 v4 v5 v6 v7 v8 v9 v10 S = loopN (B43 F75p) kx (fun v0 v1 v2 v3 v4 v5 v6 v7 v8 v9 v10 S => k v10 S) N v0 v1' v2 (.b true) v4 (ii n) (.b false) (ii 0) (.b true) (.b false) v10 S) := by
  rw [loopN_succ]
  by_cases hs : n < 9223372036854775808
  · by_cases ha : n < 3
    · exact .inl ⟨if_neg (by omega), by rw [b43_lo _ _ _ _ _ _ _ _ _ _ _ _ _ _ _ p (ii n) S h1 h2 h3 (fun c => by rw [lss_n hs (by omega), decide_eq_true ha])]⟩
    · have e4 : ∀ c, pLss (ii n) (.i .i64 3) c = c (.b false) := fun c => by rw [lss_n hs (by omega), decide_eq_false ha]
      by_cases hb : 65521 < n
      · exact .inl ⟨if_neg (by omega), by rw [b43_hi _ _ _ _ _ _ _ _ _ _ _ _ _ _ _ p (ii n) S h1 h2 h3 e4 (fun c => by rw [gtr_n hs (by omega), decide_eq_true hb])]⟩
      · have e5 : ∀ c, pGtr (ii n) (.i .i64 65521) c = c (.b false) := fun c => by rw [gtr_n hs (by omega), decide_eq_false hb]
        have e6 : ∀ c : Cont, F75p (ii n) S c = c (.tu [.b (isP n), ii 0]) S := fun c => F75p_eq (by omega) (by omega) S c
        cases hp : isP n
        · rw [hp] at e6
          exact .inl ⟨if_neg (by rw [hp]; rintro ⟨_, _, h⟩; cases h), by rw [b43_np _ _ _ _ _ _ _ _ _ _ _ _ _ _ _ p (ii n) S h1 h2 h3 e4 e5 e6]⟩
        · rw [hp] at e6
          exact .inr ⟨if_pos ⟨by omega, by omega, hp⟩, by rw [b43_ok _ _ _ _ _ _ _ _ _ _ _ _ _ _ _ p (ii n) v1' S h1 h2 h3 e4 e5 e6 h7]⟩
  · refine .inl ⟨if_neg (by omega), ?_⟩
    rw [b43_lo _ _ _ _ _ _ _ _ _ _ _ _ _ _ _ p (ii n) S h1 h2 h3 (fun c => by rw [pLss_i, sh_ge (by omega) hn, sh_lt (by omega), blt_eq, decide_eq_true (by omega)])]
theorem check1 {q : Pos} {n b : Nat} {S : St} (hn : n < 18446744073709551616) (hq : S.h.get q = some ⟨b, [ii n]⟩) (k : Cont) : F43p (.sl q 0 1 1) S k = k (ii (chk n)) S := by
  rw [f43_eq _ (ii 1) S k (fun c => by rfl)]
  obtain ⟨kx', h1, h2⟩ := block_loop (B43 F75p) (E43 (fun v0 v1 v2 v3 v4 v5 v6 v7 v8 v9 v10 S => k v10 S) (fun _ => bot 11) (fun v0 v1 v2 v3 v4 v5 v6 v7 v8 v9 v10 S => k v10 S)) (fun _ => bot 11) (fun v0 v1 v2 v3 v4 v5 v6 v7 v8 v9 v10 S => k v10 S)
  rw [h2]
  obtain ⟨N, hN⟩ : ∃ N, (1000000 : Nat) = N + 2 := ⟨999998, rfl⟩
  rw [hN]
  rcases round43 kx' k (N + 1) n hn (.sl q 0 1 1) (.i .i64 0) (ii 1) .other (.sl q 0 1 1) .other .other .other .other .other (.i .i64 0) (.p q 0) (ii 1) S (fun c => by rfl) (fun c => by rfl) (fun c => pLd_eq hq (by rfl) c) (fun c => by rfl) with ⟨a, h⟩ | ⟨a, h⟩
  · rw [h, a]
  · rw [h, a, loopN_succ, b43_end _ _ _ _ _ _ _ _ _ _ _ _ _ _ _ S (fun c => by rfl), h1]
    rfl
theorem check2 {q : Pos} {n m b : Nat} {S : St} (hn : n < 18446744073709551616) (hm : m < 18446744073709551616) (hq : S.h.get q = some ⟨b, [ii n, ii m]⟩) (k : Cont) : F43p (.sl q 0 2 2) S k = k (ii (if chk n = 0 then chk m else 7)) S := by
  rw [f43_eq _ (ii 2) S k (fun c => by rfl)]
  obtain ⟨kx', h1, h2⟩ := block_loop (B43 F75p) (E43 (fun v0 v1 v2 v3 v4 v5 v6 v7 v8 v9 v10 S => k v10 S) (fun _ => bot 11) (fun v0 v1 v2 v3 v4 v5 v6 v7 v8 v9 v10 S => k v10 S)) (fun _ => bot 11) (fun v0 v1 v2 v3 v4 v5 v6 v7 v8 v9 v10 S => k v10 S)
  rw [h2]
  obtain ⟨N, hN⟩ : ∃ N, (1000000 : Nat) = N + 3 := ⟨999997, rfl⟩
  rw [hN]
  rcases round43 kx' k (N + 2) n hn (.sl q 0 2 2) (.i .i64 0) (ii 2) .other (.sl q 0 2 2) .other .other .other .other .other (.i .i64 0) (.p q 0) (ii 1) S (fun c => by rfl) (fun c => by rfl) (fun c => pLd_eq hq (by rfl) c) (fun c => by rfl) with ⟨a, h⟩ | ⟨a, h⟩
  · rw [h, if_neg (by rw [a]; decide)]
  · rw [h, if_pos a]
    rcases round43 kx' k (N + 1) m hm (.sl q 0 2 2) (ii 1) (ii 2) (.b true) (.sl q 0 2 2) (ii n) (.b false) (ii 0) (.b true) (.b false) (.i .i64 0) (.p q 1) (ii 2) S (fun c => by rfl) (fun c => by rfl) (fun c => pLd_eq hq (by rfl) c) (fun c => by rfl) with ⟨a, h⟩ | ⟨a, h⟩
    · rw [h, a]
    · rw [h, a, loopN_succ, b43_end _ _ _ _ _ _ _ _ _ _ _ _ _ _ _ S (fun c => by rfl), h1]
      rfl
/- the reference -/
def B47 : CS 5 := (cSeq (cSeq (cReg fun kn v0 v1 v2 v3 v4 S => pMul v1 v1 (fun a0 => pLeq a0 v0 (fun a1 => kn v0 v1 a1 v3 v4 S))) (cCond (fun x y v0 v1 v2 v3 v4 S => pIf v2 (x v0 v1 v2 v3 v4 S) (y v0 v1 v2 v3 v4 S)) cSkip (cExit 0))) (cSeq (cBlock 1 (cSeq (cReg fun kn v0 v1 v2 v3 v4 S => pRem v0 v1 (fun a0 => pEql a0 (.i .i64 0) (fun a1 => kn v0 v1 v2 a1 v4 S))) (cCond (fun x y v0 v1 v2 v3 v4 S => pIf v3 (x v0 v1 v2 v3 v4 S) (y v0 v1 v2 v3 v4 S)) (cSeq (cReg fun kn v0 v1 v2 v3 v4 S => kn v0 v1 v2 v3 (.b false) S) cRet) cSkip))) (cReg fun kn v0 v1 v2 v3 v4 S => pAdd v1 (.i .i64 1) (fun a0 => kn v0 a0 v2 v3 v4 S))))
def E47 : CS 5 := (cSeq (cReg fun kn v0 v1 v2 v3 v4 S => pGtr v0 (.i .i64 1) (fun a0 => kn v0 v1 v2 v3 a0 S)) cRet)
def A47 : CS 5 := (cReg fun kn v0 v1 v2 v3 v4 S => kn v0 v1 v2 v3 (.b false) S)
def A47b : CS 5 := (cReg fun kn v0 v1 v2 v3 v4 S => kn v0 (.i .i64 2) v2 v3 v4 S)
theorem C47_eq : C47 = cSeq A47 (cSeq (cSeq A47b (cBlock 0 (cLoop B47))) E47) := by rfl
theorem b47_go (K : Fn 5) (kx : Nat → Fn 5) (kr : Fn 5) (v0 v1 v2 v3 v4 x y v1' : V) (S : St) (h1 : ∀ c, pMul v1 v1 c = c x) (h2 : ∀ c, pLeq x v0 c = c (.b true)) (h3 : ∀ c, pRem v0 v1 c = c y) (h4 : ∀ c, pEql y (.i .i64 0) c = c (.b false)) (h5 : ∀ c, pAdd v1 (.i .i64 1) c = c v1') :
    B47 K kx kr v0 v1 v2 v3 v4 S = K v0 v1' (.b true) (.b false) v4 S := by
  simp only [B47, cSeq, cReg, cCond, cBlock, cSkip, cExit, cRet, h1, h2, h3, h4, h5, pIf_t, pIf_f]
theorem b47_div (K : Fn 5) (kx : Nat → Fn 5) (kr : Fn 5) (v0 v1 v2 v3 v4 x y : V) (S : St) (h1 : ∀ c, pMul v1 v1 c = c x) (h2 : ∀ c, pLeq x v0 c = c (.b true)) (h3 : ∀ c, pRem v0 v1 c = c y) (h4 : ∀ c, pEql y (.i .i64 0) c = c (.b true)) :
    B47 K kx kr v0 v1 v2 v3 v4 S = kr v0 v1 (.b true) (.b true) (.b false) S := by
  simp only [B47, cSeq, cReg, cCond, cBlock, cSkip, cExit, cRet, h1, h2, h3, h4, pIf_t, pIf_f]
theorem b47_no (K : Fn 5) (kx : Nat → Fn 5) (kr : Fn 5) (v0 v1 v2 v3 v4 x : V) (S : St) (h1 : ∀ c, pMul v1 v1 c = c x) (h2 : ∀ c, pLeq x v0 c = c (.b false)) :
    B47 K kx kr v0 v1 v2 v3 v4 S = kx 0 v0 v1 (.b false) v3 v4 S := by
  simp only [B47, cSeq, cReg, cCond, cBlock, cSkip, cExit, cRet, h1, h2, pIf_t, pIf_f]
theorem loop47 (n : Nat) (h2 : 2 ≤ n) (hn : n < 100000) (kx : Nat → Fn 5) (k : Cont) (hk : ∀ v0 v1 v2 v3 S, pGtr v0 (.i .i64 1) (fun a0 => k a0 S) = kx 0 v0 v1 v2 v3 (.b false) S) (S : St) : ∀ (N d : Nat) (v2 v3 : V), 2 ≤ d → 500 ≤ d + N → d < 400 → (∀ e, 2 ≤ e → e < d → ¬ e ∣ n) →
    loopN B47 kx (fun v0 v1 v2 v3 v4 S => k v4 S) N (ii n) (ii d) v2 v3 (.b false) S = k (.b (isP n)) S
  | 0, d, v2, v3, hd, h3, h4, hno => by omega
  | N + 1, d, v2, v3, hd, h3, h4, hno => by
    have hdd : d * d < 200000 := by
      calc d * d ≤ 399 * d := Nat.mul_le_mul_right _ (by omega)
        _ ≤ 399 * 399 := Nat.mul_le_mul_left _ (by omega)
        _ < _ := by decide
    have e1 : ∀ c, pMul (ii d) (ii d) c = c (ii (d * d)) := fun c => mul_n (by omega) c
    have e3 : ∀ c, pRem (ii n) (ii d) c = c (ii (n % d)) := fun c => rem_n (by omega) (by omega) (by omega) c
    rw [loopN_succ]
    by_cases hc : d * d ≤ n
    · have hd3 : d < 317 := by
        rcases Nat.lt_or_ge d 317 with h | h
        · exact h
        · have : 317 * 317 ≤ d * d := Nat.mul_le_mul h h
          omega
      by_cases hm : n % d = 0
      · rw [b47_div _ _ _ _ _ _ _ _ (ii (d * d)) (ii (n % d)) S e1 (fun c => by rw [leq_n (by omega) (by omega), decide_eq_true hc]) e3 (fun c => by rw [eql_n, decide_eq_true hm])]
        have hdn : d < n := by
          have : d * 2 ≤ d * d := Nat.mul_le_mul_left _ hd
          omega
        have : isP n = false := by
          cases hp : isP n
          · rfl
          · exact absurd (Nat.dvd_of_mod_eq_zero hm) ((isP_iff.1 hp).2 d hd hdn)
        rw [this]
      · rw [b47_go _ _ _ _ _ _ _ _ (ii (d * d)) (ii (n % d)) (ii (d + 1)) S e1 (fun c => by rw [leq_n (by omega) (by omega), decide_eq_true hc]) e3 (fun c => by rw [eql_n, decide_eq_false hm]) (fun c => add_n (by omega) c)]
        exact loop47 n h2 hn kx k hk S N (d + 1) _ _ (by omega) (by omega) (by omega) fun e he hed hv => by
          rcases Nat.lt_or_ge e d with h | h
          · exact hno e he h hv
          · have : e = d := by omega
            exact hm (Nat.mod_eq_zero_of_dvd (this ▸ hv))
    · rw [b47_no _ _ _ _ _ _ _ _ (ii (d * d)) S e1 (fun c => by rw [leq_n (by omega) (by omega), decide_eq_false hc]), ← hk, gtr_n (by omega) (by omega), decide_eq_true (by omega), isP_iff.2 (primeN_of h2 hno (by omega))]
theorem f47_ok {n : Nat} (h2 : 2 ≤ n) (hn : n < 100000) (S : St) (k : Cont) : F47 (ii n) S k = k (.b (isP n)) S := by
  have h : ∀ (B E : CS 5) (kn : Fn 5) (kx : Nat → Fn 5) (kr : Fn 5), cSeq A47 (cSeq (cSeq A47b B) E) kn kx kr (ii n) .other .other .other .other S = B (E kn kx kr) kx kr (ii n) (ii 2) .other .other (.b false) S := fun B E kn kx kr => rfl
  unfold F47 G47
  rw [C47_eq, h]
  obtain ⟨kx', h1, h2'⟩ := block_loop B47 (E47 (fun v0 v1 v2 v3 v4 S => k v4 S) (fun _ => bot 5) (fun v0 v1 v2 v3 v4 S => k v4 S)) (fun _ => bot 5) (fun v0 v1 v2 v3 v4 S => k v4 S)
  rw [h2']
  exact loop47 n h2 hn kx' k (fun v0 v1 v2 v3 S => by rw [h1]; rfl) S 1000000 2 _ _ (by omega) (by omega) (by omega) fun e a b => by omega
theorem f18_lo (v : V) (S : St) (k : Cont) (h : ∀ c, pGtr v (.i .i64 2) c = c (.b false)) : F18 v S k = k (.b false) S := by
  simp only [F18, G18, C18, cSeq, cReg, cRet, h, pGd_ft, pPick_f]
theorem f18_hi (v : V) (S : St) (k : Cont) (h : ∀ c, pGtr v (.i .i64 2) c = c (.b true)) (h2 : ∀ c, pLeq v (.i .i64 65521) c = c (.b false)) : F18 v S k = k (.b false) S := by
  simp only [F18, G18, C18, cSeq, cReg, cRet, h, h2, pGd_tt, pGd_ft, pPick_t, pPick_f]
theorem f18_in (v : V) (b : Bool) (S : St) (k : Cont) (h : ∀ c, pGtr v (.i .i64 2) c = c (.b true)) (h2 : ∀ c, pLeq v (.i .i64 65521) c = c (.b true)) (h3 : ∀ c : Cont, F47 v S c = c (.b b) S) : F18 v S k = k (.b b) S := by
  simp only [F18, G18, C18, cSeq, cReg, cRet, h, h2, h3, pGd_tt, pGd_ft, pPick_t, pPick_f]
/-- the reference's test says the same -/
theorem f18_ok {n : Nat} (hn : n < 18446744073709551616) (S : St) (k : Cont) : F18 (ii n) S k = k (.b (Nat.beq (chk n) 0)) S := by
  by_cases hs : n < 9223372036854775808
  · by_cases ha : 2 < n
    · have e1 : ∀ c, pGtr (ii n) (.i .i64 2) c = c (.b true) := fun c => by rw [gtr_n hs (by omega), decide_eq_true ha]
      by_cases hb : n ≤ 65521
      · rw [f18_in (ii n) (isP n) S k e1 (fun c => by rw [leq_n hs (by omega), decide_eq_true hb]) (fun c => f47_ok (by omega) (by omega) S c)]
        unfold chk
        cases hp : isP n
        · rw [if_neg (by rintro ⟨_, _, h⟩; cases h)]; rfl
        · rw [if_pos ⟨by omega, by omega, rfl⟩]; rfl
      · rw [f18_hi (ii n) S k e1 (fun c => by rw [leq_n hs (by omega), decide_eq_false hb]), show chk n = 7 from if_neg (by omega)]; rfl
    · rw [f18_lo (ii n) S k (fun c => by rw [gtr_n hs (by omega), decide_eq_false ha]), show chk n = 7 from if_neg (by omega)]; rfl
  · rw [f18_lo (ii n) S k (fun c => by rw [pGtr_i, sh_ge (by omega) hn, sh_lt (by omega), blt_eq, decide_eq_false (by omega)]), show chk n = 7 from if_neg (by omega)]; rfl
end
end Go.AM
