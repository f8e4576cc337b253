/- galoisref01.trim, limbs, pack, Of: the machine's texts on digits. -/
import Derived.Test.YtohmfjmgeecfkaaGreatR52
import Derived.Test.YtohmfjmgeecfkaaGreatXN
import Derived.Test.YtohmfjmgeecfkaaGreatXM
namespace Go.AM
open Go.Proofs
open Go.AM.Q
open Go.AM.U
set_option linter.unusedVariables false
set_option linter.unusedSimpArgs false
noncomputable section
variable {S0 S : St} {out : V × St}
theorem loopN_succ {n : Nat} (c : CS n) (kx : Nat → Fn n) (kr : Fn n) (N : Nat) : loopN c kx kr (N + 1) = c (loopN c kx kr N) kx kr := by rfl
theorem block_loop0 {n : Nat} (c : CS n) (kn : Fn n) (kx : Nat → Fn n) (kr : Fn n) : ∃ kx' : Nat → Fn n, kx' 0 = kn ∧ cBlock 0 (cLoop c) kn kx kr = loopN c kx' kr 1000000 :=
  ⟨fun id' => Bool.rec (fun kx kn => kx) (fun kx kn => kn) (Nat.beq id' 0) (kx id') kn, rfl, by unfold cBlock cLoop; rfl⟩
theorem block_loop2 {n : Nat} (c : CS n) (kn : Fn n) (kx : Nat → Fn n) (kr : Fn n) : ∃ kx' : Nat → Fn n, kx' 2 = kn ∧ cBlock 2 (cLoop c) kn kx kr = loopN c kx' kr 1000000 :=
  ⟨fun id' => Bool.rec (fun kx kn => kx) (fun kx kn => kn) (Nat.beq id' 2) (kx id') kn, rfl, by unfold cBlock cLoop; rfl⟩
theorem ifT (x y : R) : pIf (.b true) x y = x := by rfl
theorem ifF (x y : R) : pIf (.b false) x y = y := by rfl
theorem sub_n {a b : Nat} (h : b ≤ a) (ha : a < 9223372036854775808) (c : V → R) : pSub (nn a) (nn b) c = c (nn (a - b)) := by
  rw [pSub_i]
  congr 2
  show (a + (18446744073709551616 - b)) % 18446744073709551616 = _
  rw [show a + (18446744073709551616 - b) = (a - b) + 18446744073709551616 by omega, Nat.add_mod_right, Nat.mod_eq_of_lt (by omega)]
abbrev M64 : Nat := 18446744073709551616
theorem sub_neg {a b : Nat} (h : a < b) (hb : b < 9223372036854775808) (c : V → R) : pSub (nn a) (nn b) c = c (nn (M64 - (b - a))) := by
  rw [pSub_i]
  congr 2
  show (a + (18446744073709551616 - b)) % 18446744073709551616 = 18446744073709551616 - (b - a)
  rw [show a + (18446744073709551616 - b) = 18446744073709551616 - (b - a) by omega, Nat.mod_eq_of_lt (by omega)]
theorem sh_neg {d : Nat} (h0 : 0 < d) (hd : d ≤ 9223372036854775808) : sh .i64 (M64 - d) = 9223372036854775808 - d := by
  show (18446744073709551616 - d + 9223372036854775808) % 18446744073709551616 = _
  omega
theorem geq_neg {d : Nat} (h0 : 0 < d) (hd : d ≤ 9223372036854775808) (c : V → R) : pGeq (nn (M64 - d)) (nn 0) c = c (.b false) := by
  rw [pGeq_i, sh_neg h0 hd, sh_lt (by omega), ble_eq, decide_eq_false (by omega)]
theorem gtr_neg {d : Nat} (h0 : 0 < d) (hd : d ≤ 9223372036854775808) (c : V → R) : pGtr (nn (M64 - d)) (nn 0) c = c (.b false) := by
  rw [pGtr_i, sh_neg h0 hd, sh_lt (by omega), blt_eq, decide_eq_false (by omega)]
theorem pick_e (k : IntKind) (a b : Nat) : pickI k false a b = bif Nat.blt (sh k a) (sh k b) then b else a := by
  unfold pickI
  cases Nat.blt (sh k a) (sh k b) <;> rfl
theorem mx_e (k : IntKind) (a b : Nat) (c : V → R) : pMx [.i k a, .i k b] c = two (.i k a) (.i k b) (fun kd a b c => retI c kd (pickI kd false a b)) c := by rfl
theorem mx_n {a b : Nat} (ha : a < 9223372036854775808) (hb : b < 9223372036854775808) (c : V → R) : pMx [nn a, nn b] c = c (nn (if a < b then b else a)) := by
  rw [mx_e, two_i, retI_eq, pick_e, sh_lt ha, sh_lt hb, blt_eq]
  by_cases h : a < b
  · rw [decide_eq_true (by omega), if_pos h]; rfl
  · rw [decide_eq_false (by omega), if_neg h]; rfl
theorem mx_neg {d : Nat} (h0 : 0 < d) (hd : d ≤ 9223372036854775808) (c : V → R) : pMx [nn 0, nn (M64 - d)] c = c (nn 0) := by
  rw [mx_e, two_i, retI_eq, pick_e, sh_lt (by omega), sh_neg h0 hd, blt_eq, decide_eq_false (by omega)]; rfl
theorem lt_of_blt {a b : Nat} (h : Nat.blt a b = true) : a < b := by rw [blt_eq] at h; exact of_decide_eq_true h
/- unsigned words -/
abbrev uu (n : Nat) : V := .i .u64 n
abbrev B32 : Nat := 4294967296
theorem sh_u (a : Nat) (h : a < 18446744073709551616) : sh .u64 a = a := by
  show (a + 0) % 18446744073709551616 = a
  omega
theorem uadd {a b : Nat} (h : a + b < 18446744073709551616) (c : V → R) : pAdd (uu a) (uu b) c = c (uu (a + b)) := by
  rw [pAdd_i, show (a + b) % M .u64 = a + b from Nat.mod_eq_of_lt h]
theorem umul {a b : Nat} (h : a * b < 18446744073709551616) (c : V → R) : pMul (uu a) (uu b) c = c (uu (a * b)) := by
  rw [pMul_i, show (a * b) % M .u64 = a * b from Nat.mod_eq_of_lt h]
theorem ueql (a b : Nat) (c : V → R) : pEql (uu a) (uu b) c = c (.b (decide (a = b))) := by
  rw [pEql_i]
  congr 2
  cases h : Nat.beq a b with
  | true => have := Nat.eq_of_beq_eq_true h; rw [decide_eq_true this]
  | false =>
    rw [decide_eq_false]
    intro e; subst e; rw [Nat.beq_refl] at h; cases h
/- trim -/
def B107 : CS 3 := (cSeq (cSeq (cReg fun kn v0 v1 v2 S => pLen v0 (fun a0 => pGtr a0 (.i .i64 0) (fun a1 => pGd a1 true (fun c => c v0 S) S (fun a2 S => pGd a1 true (fun c => c v0 S) S (fun a3 S => pGd a1 true (fun c => pLen a3 (fun v => c v S)) S (fun a4 S => pGd a1 true (fun c => pSub a4 (.i .i64 1) (fun v => c v S)) S (fun a5 S => pGd a1 true (fun c => pIdx 1 a2 a5 (fun v => c v S)) S (fun a6 S => pGd a1 true (fun c => pLd a6 S (fun v => c v S)) S (fun a7 S => pGd a1 true (fun c => pEql a7 (.i .u64 0) (fun v => c v S)) S (fun a8 S => pPick a1 a8 (.b false) (fun a9 => kn v0 a9 v2 S))))))))))) (cCond (fun x y v0 v1 v2 S => pIf v1 (x v0 v1 v2 S) (y v0 v1 v2 S)) cSkip (cExit 0))) (cBlock 1 (cReg fun kn v0 v1 v2 S => pLen v0 (fun a0 => pSub a0 (.i .i64 1) (fun a1 => pSlc 1 v0 none (some a1) none (fun a2 => kn a2 v1 v2 S))))))
def HT107 (I0 : CS 3) : CS 3 := (cSeq (cReg fun kn v0 v1 v2 S => kn v0 v1 .sn S) (cSeq I0 (cSeq (cReg fun kn v0 v1 v2 S => kn v0 v1 v0 S) cRet)))
theorem C107_eq : C107 = HT107 (cBlock 0 (cLoop B107)) := by rfl
section
variable (K : Fn 3) (kx : Nat → Fn 3) (kr : Fn 3) (v0 v1 v2 a b q x r : V) (S S' : St)
theorem t_end (h1 : ∀ c, pLen v0 c = c a) (h2 : ∀ c, pGtr a (nn 0) c = c (.b false)) : B107 K kx kr v0 v1 v2 S = kx 0 v0 (.b false) v2 S := by
  simp only [B107, cSeq, cReg, cCond, cBlock, cSkip, cExit, cRet, h1, h2, pGd_ft, pPick_f, ifF]
theorem t_stop (h1 : ∀ c, pLen v0 c = c a) (h2 : ∀ c, pGtr a (nn 0) c = c (.b true)) (h3 : ∀ c, pSub a (nn 1) c = c b) (h4 : ∀ c, pIdx 1 v0 b c = c q) (h5 : ∀ c, pLd q S c = c x) (h6 : ∀ c, pEql x (uu 0) c = c (.b false)) : B107 K kx kr v0 v1 v2 S = kx 0 v0 (.b false) v2 S := by
  simp only [B107, cSeq, cReg, cCond, cBlock, cSkip, cExit, cRet, h1, h2, h3, h4, h5, h6, pGd_tt, pPick_t, ifF]
theorem t_go (h1 : ∀ c, pLen v0 c = c a) (h2 : ∀ c, pGtr a (nn 0) c = c (.b true)) (h3 : ∀ c, pSub a (nn 1) c = c b) (h4 : ∀ c, pIdx 1 v0 b c = c q) (h5 : ∀ c, pLd q S c = c x) (h6 : ∀ c, pEql x (uu 0) c = c (.b true)) (h7 : ∀ c, pSlc 1 v0 none (some b) none c = c r) : B107 K kx kr v0 v1 v2 S = K r (.b true) v2 S := by
  simp only [B107, cSeq, cReg, cCond, cBlock, cSkip, cExit, cRet, h1, h2, h3, h4, h5, h6, h7, pGd_tt, pPick_t, ifT]
theorem t_head (I0 : CS 3) (w1 : V) (hL : ∀ (kn : Fn 3) (kx : Nat → Fn 3) (kr : Fn 3), I0 kn kx kr v0 v1 .sn S = kn r w1 .sn S) : HT107 I0 K kx kr v0 v1 v2 S = kr r w1 r S := by
  simp only [HT107, cSeq, cReg, cCond, cBlock, cSkip, cExit, cRet, hL]
end
/-- what a shortened slice is of a slice -/
def Cut (v a : V) (n : Nat) : Prop := (∀ id m cap, v = .so id 0 m cap 1 → a = .so id 0 n cap 1) ∧ (∀ id m cap, v = .sl id 0 m cap → a = .sl id 0 n cap) ∧ (v = .sn → a = .sn)
theorem trim_loop : ∀ (N : Nat) (v v1 v2 : V) (l : List Nat), KRow .u64 S v l → l.length ≤ 500000 → l.length < N → ∃ a w1, KRow .u64 S a (l.take (trimN l l.length)) ∧ (l.length ≠ trimN l l.length → Cut v a (trimN l l.length)) ∧ (l.length = trimN l l.length → a = v) ∧ ∀ (kx : Nat → Fn 3) (kr : Fn 3), loopN B107 kx kr N v v1 v2 S = kx 0 a w1 v2 S
  | 0, v, v1, v2, l, h, hl, hN => by omega
  | N + 1, v, v1, v2, l, h, hl, hN => by
    have e1 := h.len.1
    cases hn : l.length with
    | zero =>
      have : l = [] := List.length_eq_zero_iff.1 hn
      subst this
      refine ⟨v, .b false, h, (fun e => absurd rfl e), (fun _ => rfl), fun kx kr => ?_⟩
      rw [loopN_succ, t_end (h1 := e1) (h2 := fun c => by rw [gtr_n (by simp) (by omega)]; rfl)]
    | succ n =>
      have e2 : ∀ c, pGtr (nn l.length) (nn 0) c = c (.b true) := fun c => by rw [gtr_n (by omega) (by omega), decide_eq_true (by omega)]
      have e3 : ∀ c, pSub (nn l.length) (nn 1) c = c (nn n) := fun c => by rw [sub_n (by omega) (by omega), show l.length - 1 = n by omega]
      obtain ⟨q, e4, e5⟩ := h.get (i := n) (by omega)
      by_cases h0 : l.getD n 0 = 0
      · obtain ⟨r, s1, s2, s3, s4, s5⟩ := h.slc (n := n) (by omega)
        have ht : trimN l (n + 1) = trimN (l.take n) (l.take n).length := by
          have hlen : (l.take n).length = n := by rw [List.length_take]; omega
          rw [hlen]
          have key : ∀ k, k ≤ n → trimN l k = trimN (l.take n) k := fun k => by
            induction k with
            | zero => intro _; rfl
            | succ k ih =>
              intro hk
              have : (l.take n).getD k 0 = l.getD k 0 := by
                rw [List.getD_eq_getElem?_getD, List.getD_eq_getElem?_getD, List.getElem?_take_of_lt (by omega)]
              simp only [trimN, this, ih (by omega)]
          rw [← key n (Nat.le_refl _)]
          simp only [trimN]
          rw [h0]; rfl
        have hlen : (l.take n).length = n := by rw [List.length_take]; omega
        obtain ⟨a, w1, r1, r2, r3, r4⟩ := trim_loop N r (.b true) v2 (l.take n) s2 (by omega) (by omega)
        have hle := trimN_le (l.take n) (l.take n).length
        rw [ht]
        refine ⟨a, w1, ?_, fun hne => ?_, fun he => by omega, fun kx kr => ?_⟩
        · rwa [List.take_take, Nat.min_eq_left (by omega)] at r1
        · by_cases he : (l.take n).length = trimN (l.take n) (l.take n).length
          · rw [r3 he, ← he, hlen]; exact ⟨s3, s4, s5⟩
          · obtain ⟨c1, c2, c3⟩ := r2 he
            refine ⟨fun id m cap e => c1 id n cap (s3 id m cap e), fun id m cap e => c2 id n cap (s4 id m cap e), fun e => c3 (s5 e)⟩
        · rw [loopN_succ, t_go (h1 := e1) (h2 := e2) (h3 := e3) (h4 := e4) (h5 := e5) (h6 := fun c => by rw [ueql, decide_eq_true h0]) (h7 := s1)]
          exact r4 kx kr
      · have ht : trimN l (n + 1) = n + 1 := by
          simp only [trimN]
          cases hb : Nat.beq (l.getD n 0) 0 with
          | true => exact absurd (Nat.eq_of_beq_eq_true hb) h0
          | false => rfl
        rw [ht]
        refine ⟨v, .b false, ?_, fun e => absurd rfl e, fun _ => rfl, fun kx kr => ?_⟩
        · rw [List.take_of_length_le (by omega)]; exact h
        · rw [loopN_succ, t_stop (h1 := e1) (h2 := e2) (h3 := e3) (h4 := e4) (h5 := e5) (h6 := fun c => by rw [ueql, decide_eq_false h0])]
theorem trim_run {v : V} {l : List Nat} (h : KRow .u64 S v l) (hl : l.length ≤ 500000) : ∃ a, KRow .u64 S a (l.take (trimN l l.length)) ∧ (l.length ≠ trimN l l.length → Cut v a (trimN l l.length)) ∧ (l.length = trimN l l.length → a = v) ∧ ∀ k, F107 v S k = k a S := by
  obtain ⟨a, w1, r1, r2, r3, r4⟩ := trim_loop 1000000 v .other .sn l h hl (by omega)
  refine ⟨a, r1, r2, r3, fun k => ?_⟩
  unfold F107 G107
  rw [C107_eq, t_head (r := a) (w1 := w1) (hL := fun kn kx kr => ?_)]
  obtain ⟨kx', e1, e2⟩ := block_loop0 B107 kn kx kr
  rw [e2, r4 kx' kr, e1]
end
end Go.AM

/- galoisref01.limbs: the digits of a string. -/
namespace Go.AM
open Go.Proofs
open Go.AM.Q
open Go.AM.U
set_option linter.unusedVariables false
set_option linter.unusedSimpArgs false
noncomputable section
variable {S0 S : St} {out : V × St}
def BI59 : CS 8 := (cSeq (cSeq (cReg fun kn v0 v1 v2 v3 v4 v5 v6 v7 S => pLss v3 v1 (fun a0 => kn v0 v1 v2 v3 a0 v5 v6 v7 S)) (cCond (fun x y v0 v1 v2 v3 v4 v5 v6 v7 S => pIf v4 (x v0 v1 v2 v3 v4 v5 v6 v7 S) (y v0 v1 v2 v3 v4 v5 v6 v7 S)) cSkip (cExit 2))) (cSeq (cBlock 3 (cReg fun kn v0 v1 v2 v3 v4 v5 v6 v7 S => pMul v5 (.i .u64 256) (fun a0 => pSidx v0 v3 (fun a1 => pConv .u64 a1 (fun a2 => pAdd a0 a2 (fun a3 => kn v0 v1 v2 v3 v4 a3 v6 v7 S)))))) (cReg fun kn v0 v1 v2 v3 v4 v5 v6 v7 S => pAdd v3 (.i .i64 1) (fun a0 => kn v0 v1 v2 a0 v4 v5 v6 v7 S))))
def BO59 (I1 : CS 8) : CS 8 := (cSeq (cSeq (cReg fun kn v0 v1 v2 v3 v4 v5 v6 v7 S => pGtr v1 (.i .i64 0) (fun a0 => kn v0 v1 a0 v3 v4 v5 v6 v7 S)) (cCond (fun x y v0 v1 v2 v3 v4 v5 v6 v7 S => pIf v2 (x v0 v1 v2 v3 v4 v5 v6 v7 S) (y v0 v1 v2 v3 v4 v5 v6 v7 S)) cSkip (cExit 0))) (cSeq (cBlock 1 (cSeq (cReg fun kn v0 v1 v2 v3 v4 v5 v6 v7 S => kn v0 v1 v2 v3 v4 (.i .u64 0) v6 v7 S) (cSeq (cSeq (cReg fun kn v0 v1 v2 v3 v4 v5 v6 v7 S => pSub v1 (.i .i64 4) (fun a0 => pMx [(.i .i64 0), a0] (fun a1 => kn v0 v1 v2 a1 v4 v5 v6 v7 S))) I1) (cReg fun kn v0 v1 v2 v3 v4 v5 v6 v7 S => pBsl [(.i .u64 0)] 1 [(0, 1, v5)] S (fun a0 S => pApp 1 v6 a0 S (fun a1 S => kn v0 v1 v2 v3 v4 v5 a1 v7 S)))))) (cReg fun kn v0 v1 v2 v3 v4 v5 v6 v7 S => pSub v1 (.i .i64 4) (fun a0 => kn v0 a0 v2 v3 v4 v5 v6 v7 S))))
def HT59 (f107 : Gn 1) (I0 : CS 8) : CS 8 := (cSeq (cReg fun kn v0 v1 v2 v3 v4 v5 v6 v7 S => kn v0 v1 v2 v3 v4 v5 v6 .sn S) (cSeq (cReg fun kn v0 v1 v2 v3 v4 v5 v6 v7 S => kn v0 v1 v2 v3 v4 v5 .sn v7 S) (cSeq (cSeq (cReg fun kn v0 v1 v2 v3 v4 v5 v6 v7 S => pLenS v0 (fun a0 => kn v0 a0 v2 v3 v4 v5 v6 v7 S)) I0) (cSeq (cReg fun kn v0 v1 v2 v3 v4 v5 v6 v7 S => f107 v6 S (fun a0 S => kn v0 v1 v2 v3 v4 v5 v6 a0 S)) cRet))))
theorem C59_eq (f107 : Gn 1) : C59 f107 = HT59 f107 (cBlock 0 (cLoop (BO59 (cBlock 2 (cLoop BI59))))) := by rfl
section
variable (f107 : Gn 1) (K : Fn 8) (kx : Nat → Fn 8) (kr : Fn 8) (v0 v1 v2 v3 v4 v5 v6 v7 a b d g x y o r n' w1 w2 w3 w4 w5 w6 : V) (S S1 S2 : St)
theorem li_end (h1 : ∀ c, pLss v3 v1 c = c (.b false)) : BI59 K kx kr v0 v1 v2 v3 v4 v5 v6 v7 S = kx 2 v0 v1 v2 v3 (.b false) v5 v6 v7 S := by
  simp only [BI59, cSeq, cReg, cCond, cBlock, cSkip, cExit, cRet, h1, ifF]
theorem li_go (h1 : ∀ c, pLss v3 v1 c = c (.b true)) (h2 : ∀ c, pMul v5 (uu 256) c = c a) (h3 : ∀ c, pSidx v0 v3 c = c b) (h4 : ∀ c, pConv .u64 b c = c d) (h5 : ∀ c, pAdd a d c = c g) (h6 : ∀ c, pAdd v3 (nn 1) c = c n') : BI59 K kx kr v0 v1 v2 v3 v4 v5 v6 v7 S = K v0 v1 v2 n' (.b true) g v6 v7 S := by
  simp only [BI59, cSeq, cReg, cCond, cBlock, cSkip, cExit, cRet, h1, h2, h3, h4, h5, h6, ifT]
theorem lo_end (I1 : CS 8) (h1 : ∀ c, pGtr v1 (nn 0) c = c (.b false)) : BO59 I1 K kx kr v0 v1 v2 v3 v4 v5 v6 v7 S = kx 0 v0 v1 (.b false) v3 v4 v5 v6 v7 S := by
  simp only [BO59, cSeq, cReg, cCond, cBlock, cSkip, cExit, cRet, h1, ifF]
theorem lo_go (I1 : CS 8) (h1 : ∀ c, pGtr v1 (nn 0) c = c (.b true)) (h2 : ∀ c, pSub v1 (nn 4) c = c a) (h3 : ∀ c, pMx [nn 0, a] c = c b)
    (hI : ∀ (kn : Fn 8) (kx : Nat → Fn 8) (kr : Fn 8), I1 kn kx kr v0 v1 (.b true) b v4 (uu 0) v6 v7 S = kn v0 v1 (.b true) w3 (.b false) x v6 v7 S) (h4 : ∀ c : Cont, pBsl [.i .u64 0] 1 [(0, 1, x)] S (fun a S => pApp 1 v6 a S c) = c o S1) :
    BO59 I1 K kx kr v0 v1 v2 v3 v4 v5 v6 v7 S = K v0 a (.b true) w3 (.b false) x o v7 S1 := by
  simp only [BO59, cSeq, cReg, cCond, cBlock, cSkip, cExit, cRet, h1, h2, h3, hI, h4, ifT]
theorem l_head (I0 : CS 8) (h1 : ∀ c, pLenS v0 c = c a) (hL : ∀ (kn : Fn 8) (kx : Nat → Fn 8) (kr : Fn 8), I0 kn kx kr v0 a v2 v3 v4 v5 .sn .sn S = kn v0 w1 w2 w3 w4 w5 o .sn S1) (h2 : ∀ c, f107 o S1 c = c r S1) :
    HT59 f107 I0 K kx kr v0 v1 v2 v3 v4 v5 v6 v7 S = kr v0 w1 w2 w3 w4 w5 o r S1 := by
  simp only [HT59, cSeq, cReg, cCond, cBlock, cSkip, cExit, cRet, h1, hL, h2]
end
def By (b : List Nat) : Prop := ∀ x ∈ b, x < 256
theorem By.get {b : List Nat} (h : By b) (i : Nat) : b.getD i 0 < 256 := by
  rw [List.getD_eq_getElem?_getD]
  cases hi : b[i]? with
  | none => simp
  | some x => exact h x (List.mem_of_getElem? hi)
theorem sidx {b : List Nat} {i : Nat} (hi : i < b.length) (hb : b.length < 9223372036854775808) (c : V → R) : pSidx (.s b) (nn i) c = c (.i .u8 (b.getD i 0)) := by
  have e : pSidx (.s b) (nn i) c = gu (Bool.not (neg .i64 i)) (nthK b i (fun x => c (.i .u8 x))) := by rfl
  rw [e, neg_n (by omega)]
  show nthK b i (fun x => c (.i .u8 x)) = _
  rw [nthK_eq _ _ _ _ (getD_of hi)]
theorem conv8u {x : Nat} (hx : x < 256) (c : V → R) : pConv .u64 (.i .u8 x) c = c (uu x) := by
  show retI c .u64 (cvI .u8 .u64 x) = _
  rw [retI_eq]
  have : cvI .u8 .u64 x = x := by
    unfold cvI
    have : neg .u8 x = false := by rfl
    rw [this]
    show x % 18446744073709551616 = x
    omega
  rw [this]
theorem lenS {b : List Nat} (hb : b.length ≤ 1000000) (c : V → R) : pLenS (.s b) c = c (nn b.length) := by
  show lenL b 0 (fun n => gu (Nat.ble n 1073741824) (c (.i .i64 n))) = _
  rw [lenL_zero, Nat.ble_eq_true_of_le (by omega), gu_true]
theorem li_loop {b : List Nat} (hb : By b) {lo e : Nat} (he : e ≤ b.length) (hl : b.length ≤ 1000000) (hle : e - lo ≤ 4) : ∀ (N i w : Nat) (v4 : V), lo ≤ i → i ≤ e → e < N + i → pv b i = pv b lo * 256 ^ (i - lo) + w → w < 256 ^ (i - lo) →
    ∃ w', pv b e = pv b lo * 256 ^ (e - lo) + w' ∧ w' < 256 ^ (e - lo) ∧ ∀ (kx : Nat → Fn 8) (kr : Fn 8) (v2 v6 v7 : V) (S : St), loopN BI59 kx kr N (.s b) (nn e) v2 (nn i) v4 (uu w) v6 v7 S = kx 2 (.s b) (nn e) v2 (nn e) (.b false) (uu w') v6 v7 S
  | 0, i, w, v4, h1, h2, h3, h4, h5 => by omega
  | N + 1, i, w, v4, h1, h2, h3, h4, h5 => by
    by_cases hi : i < e
    · have hx := hb.get i
      have hp : 256 ^ (i + 1 - lo) = 256 ^ (i - lo) * 256 := by rw [show i + 1 - lo = (i - lo) + 1 by omega, Nat.pow_succ]
      have h64 : 256 ^ (i - lo) ≤ 256 ^ 3 := Nat.pow_le_pow_right (by decide) (by omega)
      obtain ⟨w', e1, e2, e3⟩ := li_loop hb he hl hle N (i + 1) (w * 256 + b.getD i 0) (.b true) (by omega) (by omega) (by omega) (by
        show pv b i * 256 + b.getD i 0 = _
        rw [h4, hp, Nat.add_mul, Nat.mul_assoc]; omega) (by
        rw [hp]
        have : (w + 1) * 256 ≤ 256 ^ (i - lo) * 256 := Nat.mul_le_mul_right _ h5
        omega)
      refine ⟨w', e1, e2, fun kx kr v2 v6 v7 S => ?_⟩
      rw [loopN_succ, li_go (h1 := fun c => by rw [lss_n (by omega) (by omega), decide_eq_true hi]) (h2 := fun c => umul (by omega) c) (h3 := fun c => sidx (by omega) (by omega) c) (h4 := fun c => conv8u hx c) (h5 := fun c => uadd (by omega) c) (h6 := fun c => add_n (by omega) c)]
      exact e3 kx kr v2 v6 v7 S
    · have : i = e := by omega
      subst this
      refine ⟨w, h4, h5, fun kx kr v2 v6 v7 S => ?_⟩
      rw [loopN_succ, li_end (h1 := fun c => by rw [lss_n (by omega) (by omega), decide_eq_false (by omega)])]
theorem lo_loop {b : List Nat} (hb : By b) (hl : b.length ≤ 1000000) : ∀ (N e : Nat) (S : St) (l : List Nat) (v2 v3 v4 v5 v6 : V), e ≤ b.length → e < N → Run S0 S → GrowK .u64 S0 S v6 l → (∀ x ∈ l, x < B32) → ofL B32 l + B32 ^ l.length * pv b e = U.val b → l.length + e ≤ 400010 →
    ∃ S' w1 w3 w4 w5 w6 L, Run S0 S' ∧ GrowK .u64 S0 S' w6 L ∧ (∀ x ∈ L, x < B32) ∧ ofL B32 L = U.val b ∧ L.length ≤ 400012 ∧ (∀ q ds, Own S0 S q ds → Apart v6 q → Own S0 S' q ds ∧ Apart w6 q) ∧
      ∀ (kx : Nat → Fn 8) (kr : Fn 8) (v7 : V), loopN (BO59 (cBlock 2 (cLoop BI59))) kx kr N (.s b) (nn e) v2 v3 v4 v5 v6 v7 S = kx 0 (.s b) w1 (.b false) w3 w4 w5 w6 v7 S'
  | 0, e, S, l, v2, v3, v4, v5, v6, h1, h2, r, hv, h3, h4, h5 => by omega
  | N + 1, 0, S, l, v2, v3, v4, v5, v6, h1, h2, r, hv, h3, h4, h5 => by
    refine ⟨S, nn 0, v3, v4, v5, v6, l, r, hv, h3, by simpa [pv] using h4, by omega, fun q ds h h' => ⟨h, h'⟩, fun kx kr v7 => ?_⟩
    rw [loopN_succ, lo_end (h1 := fun c => by rw [gtr_n (by omega) (by omega)]; rfl)]
  | N + 1, e + 1, S, l, v2, v3, v4, v5, v6, h1, h2, r, hv, h3, h4, h5 => by
    have g1 : ∀ c, pGtr (nn (e + 1)) (nn 0) c = c (.b true) := fun c => by rw [gtr_n (by omega) (by omega), decide_eq_true (by omega)]
    obtain ⟨w, q1, q2, q3⟩ := li_loop hb (lo := e + 1 - 4) (e := e + 1) h1 hl (by omega) 1000000 (e + 1 - 4) 0 v4 (Nat.le_refl _) (by omega) (by omega) (by rw [Nat.sub_self]; simp) (by rw [Nat.sub_self]; decide)
    have hw : w < B32 := Nat.lt_of_lt_of_le q2 (by
      have : 256 ^ (e + 1 - (e + 1 - 4)) ≤ 256 ^ 4 := Nat.pow_le_pow_right (by decide) (by omega)
      have e4 : 256 ^ 4 = B32 := by decide
      omega)
    obtain ⟨S1, o, r1, g2, k1, a1⟩ := hv.app r (by omega) 0 w
    have hI : ∀ (kn : Fn 8) (kx : Nat → Fn 8) (kr : Fn 8) (v2 v6 v7 : V), cBlock 2 (cLoop BI59) kn kx kr (.s b) (nn (e + 1)) v2 (nn (e + 1 - 4)) v4 (uu 0) v6 v7 S = kn (.s b) (nn (e + 1)) v2 (nn (e + 1)) (.b false) (uu w) v6 v7 S := fun kn kx kr v2 v6 v7 => by
      obtain ⟨kx', e1, e2⟩ := block_loop2 BI59 kn kx kr
      rw [e2]
      refine (q3 kx' kr v2 v6 v7 S).trans ?_
      rw [e1]
    have hall : ∀ x ∈ l ++ [w], x < B32 := fun x hx => by
      rcases List.mem_append.1 hx with h | h
      · exact h3 x h
      · rw [List.mem_singleton.1 h]; exact hw
    by_cases h5e : 4 < e + 1
    · have hv1 : pv b (e + 1) = pv b (e + 1 - 4) * B32 + w := by
        rw [q1, show e + 1 - (e + 1 - 4) = 4 by omega]
      obtain ⟨S', w1, w3, w4, w5, w6, L, z1, z2, z3, z4, z5, z6, z7⟩ := lo_loop hb hl N (e + 1 - 4) S1 (l ++ [w]) (.b true) (nn (e + 1)) (.b false) (uu w) o (by omega) (by omega) r1 g2 hall (by
        rw [ofL_app, List.length_append, ← h4, hv1]
        show ofL B32 l + B32 ^ l.length * (w + B32 * 0) + B32 ^ (l.length + 1) * pv b (e + 1 - 4) = _
        rw [Nat.pow_succ, Nat.mul_zero, Nat.add_zero, Nat.mul_add, Nat.mul_comm (pv b (e + 1 - 4)) B32, Nat.mul_assoc]; omega) (by rw [List.length_append]; simp; omega)
      refine ⟨S', w1, w3, w4, w5, w6, L, z1, z2, z3, z4, z5, fun q ds hq ha => by obtain ⟨y1, y2⟩ := k1 q ds hq ha; exact z6 q ds y1 y2, fun kx kr v7 => ?_⟩
      rw [loopN_succ, lo_go (h1 := g1) (h2 := fun c => sub_n (by omega) (by omega) c) (h3 := fun c => by rw [mx_n (by omega) (by omega), if_pos (by omega)]) (hI := fun kn kx kr => hI kn kx kr _ _ _) (h4 := a1)]
      exact z7 kx kr v7
    · have hv1 : pv b (e + 1) = w := by
        rw [q1, show e + 1 - 4 = 0 by omega]; simp [pv]
      have hval : ofL B32 (l ++ [w]) = U.val b := by
        rw [ofL_app, ← h4, hv1]; simp [ofL]
      have hm : ∃ v, (∀ c, pSub (nn (e + 1)) (nn 4) c = c v) ∧ (∀ c, pMx [nn 0, v] c = c (nn (e + 1 - 4))) ∧ ∀ c, pGtr v (nn 0) c = c (.b false) := by
        by_cases h4e : e + 1 = 4
        · exact ⟨nn 0, fun c => by rw [sub_n (by omega) (by omega), h4e], fun c => by rw [mx_n (by omega) (by omega), if_neg (by omega), h4e], fun c => by rw [gtr_n (by omega) (by omega)]; rfl⟩
        · exact ⟨nn (M64 - (4 - (e + 1))), fun c => sub_neg (by omega) (by omega) c, fun c => by rw [mx_neg (by omega) (by omega), show e + 1 - 4 = 0 by omega], fun c => gtr_neg (by omega) (by omega) c⟩
      obtain ⟨v, m1, m2, m3⟩ := hm
      obtain ⟨N', hN⟩ : ∃ N', N = N' + 1 := ⟨N - 1, by omega⟩
      refine ⟨S1, v, nn (e + 1), .b false, uu w, o, l ++ [w], r1, g2, hall, hval, by rw [List.length_append]; simp; omega, fun q ds hq ha => k1 q ds hq ha, fun kx kr v7 => ?_⟩
      rw [loopN_succ, lo_go (h1 := g1) (h2 := m1) (h3 := m2) (hI := fun kn kx kr => hI kn kx kr _ _ _) (h4 := a1), hN, loopN_succ, lo_end (h1 := m3)]
/-- the digits of a number, in a block of one's own -/
def Limb (S0 S : St) (a : V) (l : List Nat) : Prop := a = .sn ∧ l = [] ∨ ∃ id m t, a = .so id 0 l.length m 1 ∧ l.length + t.length = m ∧ m ≤ 1000000 ∧ Own S0 S id (l.map uu ++ t)
theorem Limb.row {a : V} {l : List Nat} (h : Limb S0 S a l) : KRow .u64 S a l := by
  rcases h with ⟨rfl, rfl⟩ | ⟨id, m, t, rfl, h1, h2, h0, n, h3, h4⟩
  · rfl
  · exact ⟨rfl, rfl, by omega, by omega, _, h3, t, by simp⟩
theorem limbs_run2 {b : List Nat} (hb : By b) (hl : b.length ≤ 400000) (r : Run S0 S) : ∃ S' a, Run S0 S' ∧ Limb S0 S' a (dg B32 (U.val b)) ∧ (∀ q ds, Own S0 S q ds → Own S0 S' q ds ∧ Apart a q) ∧ ∀ k, F59 (.s b) S k = k a S' := by
  obtain ⟨S', w1, w3, w4, w5, w6, L, z1, z2, z3, z4, z5, z6, z7⟩ := lo_loop hb (by omega) 1000000 b.length S [] .other .other .other .other .sn (Nat.le_refl _) (by omega) r (.inl ⟨rfl, rfl⟩) (fun x hx => by cases hx) (by simp [ofL, U.val]) (by simp; omega)
  have hd := trim_dg (B := B32) (by decide) L z3
  rw [z4] at hd
  obtain ⟨a, t1, t2, t3, t4⟩ := trim_run (z2.row (by omega)) (by omega)
  have hle := trimN_le L L.length
  have hdl : (dg B32 (U.val b)).length = trimN L L.length := by rw [← hd, List.length_take]; omega
  refine ⟨S', a, z1, ?_, fun q ds hq => ?_, fun k => ?_⟩
  · rcases z2 with ⟨e1, e2⟩ | ⟨id, e1, e2⟩
    · left
      subst e2
      refine ⟨?_, by rw [← hd]; rfl⟩
      rw [t3 rfl]; exact e1
    · right
      refine ⟨id, L.length, (L.drop (trimN L L.length)).map uu, ?_, by rw [hdl, List.length_map, List.length_drop]; omega, by omega, ?_⟩
      · rw [hdl]
        by_cases he : L.length = trimN L L.length
        · rw [t3 he, e1, ← he]
        · exact (t2 he).1 id L.length L.length e1
      · rw [← hd, ← List.map_append, List.take_append_drop]; exact e2
  · obtain ⟨g1, g2⟩ := z6 q ds hq (fun a b c d e => by cases e)
    refine ⟨g1, ?_⟩
    rcases z2 with ⟨e1, e2⟩ | ⟨id, e1, e2⟩
    · subst e2; rw [t3 rfl]; exact g2
    · by_cases he : L.length = trimN L L.length
      · rw [t3 he]; exact g2
      · intro a' b' c' d' e
        have e3 := (t2 he).1 id L.length L.length e1
        rw [e3] at e
        cases e
        exact g2 _ _ _ _ e1
  · unfold F59 G59
    rw [C59_eq, l_head (a := nn b.length) (w1 := w1) (w2 := .b false) (w3 := w3) (w4 := w4) (w5 := w5) (o := w6) (r := a) (S1 := S') (h1 := fun c => lenS (by omega) c) (hL := fun kn kx kr => ?_) (h2 := t4)]
    obtain ⟨kx', e1, e2⟩ := block_loop0 (BO59 (cBlock 2 (cLoop BI59))) kn kx kr
    rw [e2]
    refine (z7 kx' kr _).trans ?_
    rw [e1]
theorem limbs_run {b : List Nat} (hb : By b) (hl : b.length ≤ 400000) (r : Run S0 S) : ∃ S' a, Run S0 S' ∧ Limb S0 S' a (dg B32 (U.val b)) ∧ (∀ q ds, Own S0 S q ds → Own S0 S' q ds) ∧ ∀ k, F59 (.s b) S k = k a S' := by
  obtain ⟨S', a, h1, h2, h3, h4⟩ := limbs_run2 hb hl r
  exact ⟨S', a, h1, h2, fun q ds h => (h3 q ds h).1, h4⟩
end
end Go.AM

/- galoisref01.pack, Of: the string of a row of digits. -/
namespace Go.AM
open Go.Proofs
open Go.AM.Q
open Go.AM.U
set_option linter.unusedVariables false
set_option linter.unusedSimpArgs false
noncomputable section
variable {S0 S : St} {out : V × St}
def BI60 : CS 9 := (cSeq (cSeq (cReg fun kn v0 v1 v2 v3 v4 v5 v6 v7 v8 S => pGeq v3 (.i .i64 0) (fun a0 => kn v0 v1 v2 v3 a0 v5 v6 v7 v8 S)) (cCond (fun x y v0 v1 v2 v3 v4 v5 v6 v7 v8 S => pIf v4 (x v0 v1 v2 v3 v4 v5 v6 v7 v8 S) (y v0 v1 v2 v3 v4 v5 v6 v7 v8 S)) cSkip (cExit 2))) (cSeq (cBlock 3 (cSeq (cReg fun kn v0 v1 v2 v3 v4 v5 v6 v7 v8 S => pIdx 1 v0 v1 (fun a0 => pLd a0 S (fun a1 => pShr a1 v3 (fun a2 => pConv .u8 a2 (fun a3 => kn v0 v1 v2 v3 v4 v5 a3 v7 v8 S))))) (cSeq (cReg fun kn v0 v1 v2 v3 v4 v5 v6 v7 v8 S => pLen v5 (fun a0 => pGtr a0 (.i .i64 0) (fun a1 => pGd a1 false (fun c => c v6 S) S (fun a2 S => pGd a1 false (fun c => pGtr a2 (.i .u8 0) (fun v => c v S)) S (fun a3 S => pPick a1 (.b true) a3 (fun a4 => kn v0 v1 v2 v3 v4 v5 v6 a4 v8 S)))))) (cCond (fun x y v0 v1 v2 v3 v4 v5 v6 v7 v8 S => pIf v7 (x v0 v1 v2 v3 v4 v5 v6 v7 v8 S) (y v0 v1 v2 v3 v4 v5 v6 v7 v8 S)) (cReg fun kn v0 v1 v2 v3 v4 v5 v6 v7 v8 S => pBsl [(.i .u8 0)] 1 [(0, 1, v6)] S (fun a0 S => pApp 1 v5 a0 S (fun a1 S => kn v0 v1 v2 v3 v4 a1 v6 v7 v8 S))) cSkip)))) (cReg fun kn v0 v1 v2 v3 v4 v5 v6 v7 v8 S => pSub v3 (.i .i64 8) (fun a0 => kn v0 v1 v2 a0 v4 v5 v6 v7 v8 S))))
def BO60 (I1 : CS 9) : CS 9 := (cSeq (cSeq (cReg fun kn v0 v1 v2 v3 v4 v5 v6 v7 v8 S => pGeq v1 (.i .i64 0) (fun a0 => kn v0 v1 a0 v3 v4 v5 v6 v7 v8 S)) (cCond (fun x y v0 v1 v2 v3 v4 v5 v6 v7 v8 S => pIf v2 (x v0 v1 v2 v3 v4 v5 v6 v7 v8 S) (y v0 v1 v2 v3 v4 v5 v6 v7 v8 S)) cSkip (cExit 0))) (cSeq (cBlock 1 (cSeq (cReg fun kn v0 v1 v2 v3 v4 v5 v6 v7 v8 S => kn v0 v1 v2 (.i .i64 24) v4 v5 v6 v7 v8 S) I1)) (cReg fun kn v0 v1 v2 v3 v4 v5 v6 v7 v8 S => pSub v1 (.i .i64 1) (fun a0 => kn v0 a0 v2 v3 v4 v5 v6 v7 v8 S))))
def HT60 (I0 : CS 9) : CS 9 := (cSeq (cReg fun kn v0 v1 v2 v3 v4 v5 v6 v7 v8 S => kn v0 v1 v2 v3 v4 v5 v6 v7 (.s []) S) (cSeq (cReg fun kn v0 v1 v2 v3 v4 v5 v6 v7 v8 S => kn v0 v1 v2 v3 v4 .sn v6 v7 v8 S) (cSeq (cSeq (cReg fun kn v0 v1 v2 v3 v4 v5 v6 v7 v8 S => pLen v0 (fun a0 => pSub a0 (.i .i64 1) (fun a1 => kn v0 a1 v2 v3 v4 v5 v6 v7 v8 S))) I0) (cSeq (cReg fun kn v0 v1 v2 v3 v4 v5 v6 v7 v8 S => pB2s v5 S (fun a0 => kn v0 v1 v2 v3 v4 v5 v6 v7 a0 S)) cRet))))
theorem C60_eq : C60 = HT60 (cBlock 0 (cLoop (BO60 (cBlock 2 (cLoop BI60))))) := by rfl
abbrev bb (n : Nat) : V := .i .u8 n
section
variable (K : Fn 9) (kx : Nat → Fn 9) (kr : Fn 9) (v0 v1 v2 v3 v4 v5 v6 v7 v8 a b d g q x y o r n' w1 w2 w3 w4 w5 w6 w7 : V) (S S1 S2 : St)
theorem pi_end (h1 : ∀ c, pGeq v3 (nn 0) c = c (.b false)) : BI60 K kx kr v0 v1 v2 v3 v4 v5 v6 v7 v8 S = kx 2 v0 v1 v2 v3 (.b false) v5 v6 v7 v8 S := by
  simp only [BI60, cSeq, cReg, cCond, cBlock, cSkip, cExit, cRet, h1, ifF]
theorem pi_more (h1 : ∀ c, pGeq v3 (nn 0) c = c (.b true)) (h2 : ∀ c, pIdx 1 v0 v1 c = c q) (h3 : ∀ c, pLd q S c = c a) (h4 : ∀ c, pShr a v3 c = c b) (h5 : ∀ c, pConv .u8 b c = c x) (h6 : ∀ c, pLen v5 c = c d) (h7 : ∀ c, pGtr d (nn 0) c = c (.b true))
    (h9 : ∀ c : Cont, pBsl [.i .u8 0] 1 [(0, 1, x)] S (fun a S => pApp 1 v5 a S c) = c o S1) (h10 : ∀ c, pSub v3 (nn 8) c = c n') : BI60 K kx kr v0 v1 v2 v3 v4 v5 v6 v7 v8 S = K v0 v1 v2 n' (.b true) o x (.b true) v8 S1 := by
  simp only [BI60, cSeq, cReg, cCond, cBlock, cSkip, cExit, cRet, h1, h2, h3, h4, h5, h6, h7, h9, h10, pGd_tf, pPick_t, ifT]
theorem pi_first (h1 : ∀ c, pGeq v3 (nn 0) c = c (.b true)) (h2 : ∀ c, pIdx 1 v0 v1 c = c q) (h3 : ∀ c, pLd q S c = c a) (h4 : ∀ c, pShr a v3 c = c b) (h5 : ∀ c, pConv .u8 b c = c x) (h6 : ∀ c, pLen v5 c = c d) (h7 : ∀ c, pGtr d (nn 0) c = c (.b false)) (h8 : ∀ c, pGtr x (.i .u8 0) c = c (.b true))
    (h9 : ∀ c : Cont, pBsl [.i .u8 0] 1 [(0, 1, x)] S (fun a S => pApp 1 v5 a S c) = c o S1) (h10 : ∀ c, pSub v3 (nn 8) c = c n') : BI60 K kx kr v0 v1 v2 v3 v4 v5 v6 v7 v8 S = K v0 v1 v2 n' (.b true) o x (.b true) v8 S1 := by
  simp only [BI60, cSeq, cReg, cCond, cBlock, cSkip, cExit, cRet, h1, h2, h3, h4, h5, h6, h7, h8, h9, h10, pGd_ff, pPick_f, ifT]
theorem pi_none (h1 : ∀ c, pGeq v3 (nn 0) c = c (.b true)) (h2 : ∀ c, pIdx 1 v0 v1 c = c q) (h3 : ∀ c, pLd q S c = c a) (h4 : ∀ c, pShr a v3 c = c b) (h5 : ∀ c, pConv .u8 b c = c x) (h6 : ∀ c, pLen v5 c = c d) (h7 : ∀ c, pGtr d (nn 0) c = c (.b false)) (h8 : ∀ c, pGtr x (.i .u8 0) c = c (.b false))
    (h10 : ∀ c, pSub v3 (nn 8) c = c n') : BI60 K kx kr v0 v1 v2 v3 v4 v5 v6 v7 v8 S = K v0 v1 v2 n' (.b true) v5 x (.b false) v8 S := by
  simp only [BI60, cSeq, cReg, cCond, cBlock, cSkip, cExit, cRet, h1, h2, h3, h4, h5, h6, h7, h8, h10, pGd_ff, pPick_f, ifT, ifF]
theorem po_end (I1 : CS 9) (h1 : ∀ c, pGeq v1 (nn 0) c = c (.b false)) : BO60 I1 K kx kr v0 v1 v2 v3 v4 v5 v6 v7 v8 S = kx 0 v0 v1 (.b false) v3 v4 v5 v6 v7 v8 S := by
  simp only [BO60, cSeq, cReg, cCond, cBlock, cSkip, cExit, cRet, h1, ifF]
theorem po_go (I1 : CS 9) (h1 : ∀ c, pGeq v1 (nn 0) c = c (.b true))
    (hI : ∀ (kn : Fn 9) (kx : Nat → Fn 9) (kr : Fn 9), I1 kn kx kr v0 v1 (.b true) (nn 24) v4 v5 v6 v7 v8 S = kn v0 v1 (.b true) w3 w4 w5 w6 w7 v8 S1) (h2 : ∀ c, pSub v1 (nn 1) c = c n') :
    BO60 I1 K kx kr v0 v1 v2 v3 v4 v5 v6 v7 v8 S = K v0 n' (.b true) w3 w4 w5 w6 w7 v8 S1 := by
  simp only [BO60, cSeq, cReg, cCond, cBlock, cSkip, cExit, cRet, h1, hI, h2, ifT]
theorem p_head (I0 : CS 9) (h1 : ∀ c, pLen v0 c = c a) (h2 : ∀ c, pSub a (nn 1) c = c b) (hL : ∀ (kn : Fn 9) (kx : Nat → Fn 9) (kr : Fn 9), I0 kn kx kr v0 b v2 v3 v4 .sn v6 v7 (.s []) S = kn v0 w1 w2 w3 w4 w5 w6 w7 (.s []) S1) (h3 : ∀ c, pB2s w5 S1 c = c r) :
    HT60 I0 K kx kr v0 v1 v2 v3 v4 v5 v6 v7 v8 S = kr v0 w1 w2 w3 w4 w5 w6 w7 r S1 := by
  simp only [HT60, cSeq, cReg, cCond, cBlock, cSkip, cExit, cRet, h1, h2, hL, h3]
end
theorem ushr {x s : Nat} (hs : s ≤ 63) (c : V → R) : pShr (uu x) (nn s) c = c (uu (x / 2 ^ s)) := by
  have e : pShr (uu x) (nn s) c = gu (Bool.not (neg .i64 s)) (retI c .u64 (shrI .u64 x (minN s 64))) := by rfl
  rw [e, neg_n (by omega)]
  show retI c .u64 (shrI .u64 x (minN s 64)) = _
  have hm : minN s 64 = s := by
    unfold minN
    rw [Nat.ble_eq_true_of_le (show s ≤ 64 by omega)]
  rw [retI_eq, hm]; rfl
theorem conv8 (y : Nat) (c : V → R) : pConv .u8 (uu y) c = c (bb (y % 256)) := by
  show retI c .u8 (cvI .u64 .u8 y) = _
  rw [retI_eq]; rfl
theorem gtr8 {y : Nat} (hy : y < 256) (c : V → R) : pGtr (bb y) (.i .u8 0) c = c (.b (decide (0 < y))) := by
  rw [pGtr_i]
  have e1 : sh .u8 y = y := by
    show (y + 0) % 256 = y
    omega
  have e2 : sh .u8 0 = 0 := by rfl
  rw [e1, e2, blt_eq]
theorem bytesK_eq : ∀ (L : List Nat) (k : List Nat → R), bytesK (L.map bb) k = k L
  | [], k => rfl
  | x :: L, k => by
    show gu (Nat.beq (kNo .u8) 4) (bytesK (L.map bb) (fun t => k (x :: t))) = _
    rw [bytesK_eq L]; rfl
theorem b2s_eq {v : V} {L : List Nat} (h : GrowK .u8 S0 S v L) (c : V → R) : pB2s v S c = c (.s L) := by
  rcases h with ⟨rfl, rfl⟩ | ⟨id, rfl, h0, n, h1, h2⟩
  · rfl
  · show elems 1 id 0 L.length S (fun l => bytesK l (fun s => c (.s s))) = _
    rw [elems_eq h1 (by rw [List.length_map]; omega)]
    have e : ((L.map (kk .u8)).drop 0).take (L.length * 1) = L.map bb := by rw [List.drop_zero, Nat.mul_one, List.take_of_length_le (by rw [List.length_map]; omega)]
    show bytesK (((L.map (kk .u8)).drop 0).take (L.length * 1)) _ = _
    rw [e, bytesK_eq]
/-- a row of words that reads from a block of one's own -/
def ORow (S0 : St) (id : Pos) (cs : List V) (v : V) (l : List Nat) : Prop := ∀ S, Own S0 S id cs → KRow .u64 S v l
def vs : Nat → V
  | 0 => nn (M64 - 8)
  | j + 1 => nn (8 * j)
theorem vs_sub (j : Nat) (hj : j < 10) (c : V → R) : pSub (nn (8 * j)) (nn 8) c = c (vs j) := by
  cases j with
  | zero => exact sub_neg (by omega) (by omega) c
  | succ j => rw [sub_n (by omega) (by omega), show 8 * (j + 1) - 8 = 8 * j by omega]; rfl
theorem pi_loop {id : Pos} {cs : List V} {v0 : V} {l : List Nat} {i : Nat} (hrow : ORow S0 id cs v0 l) (hi : i < l.length) (m : Nat) (hx : l.getD i 0 < B32) : ∀ (N j : Nat) (S : St) (v4 v5 v6 v7 : V), j ≤ 4 → j < N → Run S0 S → Own S0 S id cs → Apart v5 id → GrowK .u8 S0 S v5 (strN (m * 256 ^ (4 - j) + l.getD i 0 / 256 ^ j)) → (strN (m * 256 ^ (4 - j) + l.getD i 0 / 256 ^ j)).length + j ≤ 900000 →
    ∃ S' w5 w6 w7, Run S0 S' ∧ Own S0 S' id cs ∧ Apart w5 id ∧ GrowK .u8 S0 S' w5 (strN (m * 4294967296 + l.getD i 0)) ∧ (∀ q ds, Own S0 S q ds → Apart v5 q → Own S0 S' q ds ∧ Apart w5 q) ∧ (strN (m * 4294967296 + l.getD i 0)).length ≤ (strN (m * 256 ^ (4 - j) + l.getD i 0 / 256 ^ j)).length + j ∧
      ∀ (kx : Nat → Fn 9) (kr : Fn 9) (v2 v8 : V), loopN BI60 kx kr N v0 (nn i) v2 (vs j) v4 v5 v6 v7 v8 S = kx 2 v0 (nn i) v2 (nn (M64 - 8)) (.b false) w5 w6 w7 v8 S'
  | 0, j, S, v4, v5, v6, v7, h1, h2, r, ho, ha, hv, hl => by omega
  | N + 1, 0, S, v4, v5, v6, v7, h1, h2, r, ho, ha, hv, hl => by
    have e : m * 256 ^ (4 - 0) + l.getD i 0 / 256 ^ 0 = m * 4294967296 + l.getD i 0 := by rw [Nat.pow_zero, Nat.div_one]
    rw [e] at hv
    refine ⟨S, v5, v6, v7, r, ho, ha, hv, fun q ds h1 h2 => ⟨h1, h2⟩, by rw [e]; omega, fun kx kr v2 v8 => ?_⟩
    have e0 : vs 0 = nn (M64 - 8) := rfl
    rw [loopN_succ, e0, pi_end (v3 := nn (M64 - 8)) (h1 := fun c => geq_neg (d := 8) (by omega) (by omega) c)]
  | N + 1, j + 1, S, v4, v5, v6, v7, h1, h2, r, ho, ha, hv, hl => by
    generalize hxx : l.getD i 0 = x at *
    obtain ⟨q, s1, s2⟩ := (hrow S ho).get hi
    rw [hxx] at s2
    have ev : vs (j + 1) = nn (8 * j) := rfl
    have p1 : 256 ^ (j + 1) = 256 ^ j * 256 := Nat.pow_succ ..
    have p2 : 256 ^ (4 - j) = 256 ^ (4 - (j + 1)) * 256 := by rw [← Nat.pow_succ]; congr 1; omega
    have p3 : (2 : Nat) ^ (8 * j) = 256 ^ j := by rw [Nat.pow_mul]
    have hy : x / 256 ^ j % 256 < 256 := Nat.mod_lt _ (by decide)
    have hstep : (m * 256 ^ (4 - (j + 1)) + x / 256 ^ (j + 1)) * 256 + x / 256 ^ j % 256 = m * 256 ^ (4 - j) + x / 256 ^ j := by
      rw [p1, p2, ← Nat.div_div_eq_div_mul, Nat.add_mul, Nat.mul_assoc]
      have := Nat.div_add_mod (x / 256 ^ j) 256
      omega
    have hs := strN_add (m := m * 256 ^ (4 - (j + 1)) + x / 256 ^ (j + 1)) (x := x / 256 ^ j % 256) hy
    rw [hstep] at hs
    have hlen := (hv.row (by omega)).len.1
    have g1 : ∀ c, pGeq (nn (8 * j)) (nn 0) c = c (.b true) := fun c => by rw [geq_n (by omega) (by omega), decide_eq_true (by omega)]
    have g4 : ∀ c, pShr (uu x) (nn (8 * j)) c = c (uu (x / 256 ^ j)) := fun c => by rw [ushr (by omega), p3]
    have g5 : ∀ c, pConv .u8 (uu (x / 256 ^ j)) c = c (bb (x / 256 ^ j % 256)) := fun c => conv8 _ c
    have g10 : ∀ c, pSub (nn (8 * j)) (nn 8) c = c (vs j) := fun c => vs_sub j (by omega) c
    by_cases h0 : m * 256 ^ (4 - j) + x / 256 ^ j = 0
    · have hm0 : m * 256 ^ (4 - (j + 1)) + x / 256 ^ (j + 1) = 0 := by omega
      have hb0 : x / 256 ^ j % 256 = 0 := by omega
      have hv' : GrowK .u8 S0 S v5 (strN (m * 256 ^ (4 - j) + x / 256 ^ j)) := by rw [h0]; rw [hm0] at hv; exact hv
      obtain ⟨S', w5, w6, w7, z1, z2, z3, z4, z5, z6, z7⟩ := pi_loop (id := id) hrow hi m (by rw [hxx]; exact hx) N j S (.b true) v5 (bb (x / 256 ^ j % 256)) (.b false) (by omega) (by omega) r ho ha (by rw [hxx]; exact hv') (by rw [hxx, h0]; rw [hm0] at hl; omega)
      rw [hxx] at z4 z6
      refine ⟨S', w5, w6, w7, z1, z2, z3, z4, z5, by rw [hm0]; rw [h0] at z6; omega, fun kx kr v2 v8 => ?_⟩
      rw [loopN_succ, ev, pi_none (v3 := nn (8 * j)) (h1 := g1) (h2 := s1) (h3 := s2) (h4 := g4) (h5 := g5) (h6 := hlen) (h7 := fun c => by rw [hm0]; rw [gtr_n (by simp [strN_zero]) (by omega)]; rfl) (h8 := fun c => by rw [gtr8 hy, decide_eq_false (by omega)]) (h10 := g10)]
      exact z7 kx kr v2 v8
    · rw [if_neg h0] at hs
      have hlen2 : (strN (m * 256 ^ (4 - j) + x / 256 ^ j)).length = (strN (m * 256 ^ (4 - (j + 1)) + x / 256 ^ (j + 1))).length + 1 := by rw [hs, List.length_append]; rfl
      obtain ⟨S1, o, r1, g9, k1, a1⟩ := hv.app r (by omega) 0 (x / 256 ^ j % 256)
      rw [← hs] at g9
      obtain ⟨ho1, ha1⟩ := k1 _ _ ho ha
      obtain ⟨S', w5, w6, w7, z1, z2, z3, z4, z5, z6, z7⟩ := pi_loop (id := id) hrow hi m (by rw [hxx]; exact hx) N j S1 (.b true) o (bb (x / 256 ^ j % 256)) (.b true) (by omega) (by omega) r1 ho1 ha1 (by rw [hxx]; exact g9) (by rw [hxx]; omega)
      rw [hxx] at z4 z6
      refine ⟨S', w5, w6, w7, z1, z2, z3, z4, fun q ds hq hap => by obtain ⟨y1, y2⟩ := k1 q ds hq hap; exact z5 q ds y1 y2, by omega, fun kx kr v2 v8 => ?_⟩
      rw [loopN_succ, ev]
      by_cases hm0 : m * 256 ^ (4 - (j + 1)) + x / 256 ^ (j + 1) = 0
      · rw [pi_first (v3 := nn (8 * j)) (h1 := g1) (h2 := s1) (h3 := s2) (h4 := g4) (h5 := g5) (h6 := hlen) (h7 := fun c => by rw [hm0]; rw [gtr_n (by simp [strN_zero]) (by omega)]; rfl) (h8 := fun c => by rw [gtr8 hy, decide_eq_true (by omega)]) (h9 := a1) (h10 := g10)]
        exact z7 kx kr v2 v8
      · have hpos : 0 < (strN (m * 256 ^ (4 - (j + 1)) + x / 256 ^ (j + 1))).length := by
          have := mt (strN_len0 (m * 256 ^ (4 - (j + 1)) + x / 256 ^ (j + 1))).1 hm0
          omega
        rw [pi_more (v3 := nn (8 * j)) (h1 := g1) (h2 := s1) (h3 := s2) (h4 := g4) (h5 := g5) (h6 := hlen) (h7 := fun c => by rw [gtr_n (by omega) (by omega), decide_eq_true hpos]) (h9 := a1) (h10 := g10)]
        exact z7 kx kr v2 v8
def vk : Nat → V
  | 0 => nn (M64 - 1)
  | j + 1 => nn j
theorem vk_sub (j : Nat) (hj : j < 1000000) (c : V → R) : pSub (nn j) (nn 1) c = c (vk j) := by
  cases j with
  | zero => exact sub_neg (by omega) (by omega) c
  | succ j => rw [sub_n (by omega) (by omega), show j + 1 - 1 = j by omega]; rfl
theorem drop_ofL {B : Nat} {l : List Nat} {j : Nat} (hj : j < l.length) : ofL B (l.drop j) = ofL B (l.drop (j + 1)) * B + l.getD j 0 := by
  rw [List.drop_eq_getElem_cons hj, ofL, List.getD_eq_getElem?_getD, List.getElem?_eq_getElem hj, Nat.mul_comm, Nat.add_comm]; rfl
theorem po_loop {id : Pos} {cs : List V} {v0 : V} {l : List Nat} (hrow : ORow S0 id cs v0 l) (hl : l.length ≤ 100000) (hb : ∀ x ∈ l, x < B32) : ∀ (N j : Nat) (S : St) (v2 v3 v4 v5 v6 v7 : V), j ≤ l.length → j < N → Run S0 S → Own S0 S id cs → Apart v5 id → GrowK .u8 S0 S v5 (strN (ofL B32 (l.drop j))) → (strN (ofL B32 (l.drop j))).length + 4 * j ≤ 800000 →
    ∃ S' w3 w4 w5 w6 w7, Run S0 S' ∧ GrowK .u8 S0 S' w5 (strN (ofL B32 l)) ∧ (∀ q ds, Own S0 S q ds → Apart v5 q → Own S0 S' q ds) ∧
      ∀ (kx : Nat → Fn 9) (kr : Fn 9) (v8 : V), loopN (BO60 (cBlock 2 (cLoop BI60))) kx kr N v0 (vk j) v2 v3 v4 v5 v6 v7 v8 S = kx 0 v0 (nn (M64 - 1)) (.b false) w3 w4 w5 w6 w7 v8 S'
  | 0, j, S, v2, v3, v4, v5, v6, v7, h1, h2, r, ho, ha, hv, hs => by omega
  | N + 1, 0, S, v2, v3, v4, v5, v6, v7, h1, h2, r, ho, ha, hv, hs => by
    refine ⟨S, v3, v4, v5, v6, v7, r, hv, fun q ds h _ => h, fun kx kr v8 => ?_⟩
    have e0 : vk 0 = nn (M64 - 1) := rfl
    rw [loopN_succ, e0, po_end (v1 := nn (M64 - 1)) (h1 := fun c => geq_neg (d := 1) (by omega) (by omega) c)]
  | N + 1, j + 1, S, v2, v3, v4, v5, v6, v7, h1, h2, r, ho, ha, hv, hs => by
    have hx : l.getD j 0 < B32 := hb _ (List.mem_of_getElem? (getD_of (by omega)))
    have e4 : ofL B32 (l.drop (j + 1)) * 256 ^ (4 - 4) + l.getD j 0 / 256 ^ 4 = ofL B32 (l.drop (j + 1)) := by
      have e256 : (256 : Nat) ^ 4 = B32 := by decide
      have : l.getD j 0 / 256 ^ 4 = 0 := Nat.div_eq_of_lt (by rw [e256]; exact hx)
      rw [this]; simp
    have ed := drop_ofL (B := B32) (l := l) (j := j) (by omega)
    obtain ⟨S1, w5, w6, w7, z1, z2, z3, z4, z5, z6, z7⟩ := pi_loop (id := id) hrow (i := j) (by omega) (ofL B32 (l.drop (j + 1))) hx 1000000 4 S v4 v5 v6 v7 (by omega) (by omega) r ho ha (by rw [e4]; exact hv) (by rw [e4]; omega)
    rw [e4] at z6
    have z4 : GrowK .u8 S0 S1 w5 (strN (ofL B32 (l.drop j))) := by rw [ed]; exact z4
    have z6 : (strN (ofL B32 (l.drop j))).length ≤ (strN (ofL B32 (l.drop (j + 1)))).length + 4 := by rw [ed]; exact z6
    obtain ⟨S', x3, x4, x5, x6, x7, y1, y2, y3, y4⟩ := po_loop hrow hl hb N j S1 (.b true) (nn (M64 - 8)) (.b false) w5 w6 w7 (by omega) (by omega) z1 z2 z3 z4 (by omega)
    refine ⟨S', x3, x4, x5, x6, x7, y1, y2, fun q ds hq hap => by obtain ⟨a1, a2⟩ := z5 q ds hq hap; exact y3 q ds a1 a2, fun kx kr v8 => ?_⟩
    have ev : vk (j + 1) = nn j := rfl
    rw [loopN_succ, ev, po_go (v1 := nn j) (h1 := fun c => by rw [geq_n (by omega) (by omega), decide_eq_true (by omega)]) (hI := fun kn kx kr => by
      obtain ⟨kx', e1, e2⟩ := block_loop2 BI60 kn kx kr
      rw [e2]
      refine (z7 kx' kr _ _).trans ?_
      rw [e1]) (h2 := fun c => vk_sub j (by omega) c)]
    exact y4 kx kr v8
theorem pack_run {id : Pos} {cs : List V} {v : V} {l : List Nat} (hrow : ORow S0 id cs v l) (ho : Own S0 S id cs) (r : Run S0 S) (hl : l.length ≤ 100000) (hb : ∀ x ∈ l, x < B32) : ∃ S', Run S0 S' ∧ (∀ q ds, Own S0 S q ds → Own S0 S' q ds) ∧ ∀ k, F60 v S k = k (.s (strN (ofL B32 l))) S' := by
  have hn : l.drop l.length = [] := List.drop_length ..
  obtain ⟨S', w3, w4, w5, w6, w7, y1, y2, y3, y4⟩ := po_loop hrow hl hb 1000000 l.length S .other .other .other .sn .other .other (Nat.le_refl _) (by omega) r ho (fun a b c d e => by cases e) (by rw [hn]; exact .inl ⟨rfl, rfl⟩) (by rw [hn]; simp [ofL, strN_zero]; omega)
  refine ⟨S', y1, fun q ds hq => y3 q ds hq (fun a b c d e => by cases e), fun k => ?_⟩
  have hlen := (hrow S ho).len.1
  have h2 : ∀ c, pSub (nn l.length) (nn 1) c = c (vk l.length) := fun c => vk_sub _ (by omega) c
  unfold F60 G60
  rw [C60_eq, p_head (a := nn l.length) (b := vk l.length) (w1 := nn (M64 - 1)) (w2 := .b false) (w3 := w3) (w4 := w4) (w5 := w5) (w6 := w6) (w7 := w7) (r := .s (strN (ofL B32 l))) (S1 := S') (h1 := hlen) (h2 := h2) (hL := fun kn kx kr => ?_) (h3 := fun c => b2s_eq y2 c)]
  obtain ⟨kx', e1, e2⟩ := block_loop0 (BO60 (cBlock 2 (cLoop BI60))) kn kx kr
  rw [e2]
  refine (y4 kx' kr _).trans ?_
  rw [e1]
/-- without a row -/
theorem pack_nil (r : Run S0 S) : ∃ S', Run S0 S' ∧ (∀ q ds, Own S0 S q ds → Own S0 S' q ds) ∧ ∀ k, F60 .sn S k = k (.s []) S' := by
  refine ⟨S, r, fun q ds h => h, fun k => ?_⟩
  unfold F60 G60
  rw [C60_eq, p_head (a := nn 0) (b := nn (M64 - 1)) (w1 := nn (M64 - 1)) (w2 := .b false) (w3 := .other) (w4 := .other) (w5 := .sn) (w6 := .other) (w7 := .other) (r := .s []) (S1 := S) (h1 := fun c => rfl) (h2 := fun c => vk_sub 0 (by omega) c) (hL := fun kn kx kr => ?_) (h3 := fun c => rfl)]
  obtain ⟨K, kx', e1, e⟩ : ∃ (K : Fn 9) (kx' : Nat → Fn 9), kx' 0 = kn ∧ cBlock 0 (cLoop (BO60 (cBlock 2 (cLoop BI60)))) kn kx kr = BO60 (cBlock 2 (cLoop BI60)) K kx' kr := by
    obtain ⟨kx', e1, e2⟩ := block_loop0 (BO60 (cBlock 2 (cLoop BI60))) kn kx kr
    have key : ∀ N : Nat, 0 < N → ∃ K, loopN (BO60 (cBlock 2 (cLoop BI60))) kx' kr N = BO60 (cBlock 2 (cLoop BI60)) K kx' kr := fun N h => by
      cases N with
      | zero => omega
      | succ N => exact ⟨_, loopN_succ _ kx' kr N⟩
    obtain ⟨K, hK⟩ := key 1000000 (by omega)
    exact ⟨K, kx', e1, by rw [e2]; exact hK⟩
  rw [e, po_end (v1 := nn (M64 - 1)) (h1 := fun c => geq_neg (d := 1) (by omega) (by omega) c), e1]
end
end Go.AM

/- galoisref01.Of, Add: pure texts on strings. -/
namespace Go.AM
open Go.Proofs
open Go.AM.Q
open Go.AM.U
set_option linter.unusedVariables false
set_option linter.unusedSimpArgs false
noncomputable section
variable {S0 S : St} {out : V × St}
theorem ulow (s : Nat) (c : V → R) : pAnd (uu s) (uu 4294967295) c = c (uu (s % B32)) := by
  have e : pAnd (uu s) (uu 4294967295) c = retI c .u64 (Nat.land s 4294967295) := two_i ..
  rw [e, retI_eq]
  congr 2
  exact Nat.and_two_pow_sub_one_eq_mod s 32
theorem ushr32 (s : Nat) (c : V → R) : pShr (uu s) (uu 32) c = c (uu (s / B32)) := by
  have e : pShr (uu s) (uu 32) c = retI c .u64 (shrI .u64 s 32) := by rfl
  rw [e, retI_eq]; rfl
theorem ugtr {a b : Nat} (ha : a < 18446744073709551616) (hb : b < 18446744073709551616) (c : V → R) : pGtr (uu a) (uu b) c = c (.b (decide (b < a))) := by
  rw [pGtr_i, sh_u a ha, sh_u b hb, blt_eq]
theorem ulss {a b : Nat} (ha : a < 18446744073709551616) (hb : b < 18446744073709551616) (c : V → R) : pLss (uu a) (uu b) c = c (.b (decide (a < b))) := by
  rw [pLss_i, sh_u a ha, sh_u b hb, blt_eq]
theorem mkS_sok : SOK (mkS []) := ⟨rfl, Nat.le_refl _, Nat.le_refl _, fun id b h => by
  have : (mkS []).h.get id = none := by show Tr.get .n id = none; cases id <;> rfl
  rw [this] at h; cases h⟩
theorem mkS_run : Run (mkS []) (mkS []) := Run.start mkS_sok
/- Of -/
section
variable (f60 : Gn 1) (v0 a b p r : V) (S S1 S2 : St) (k : Cont)
theorem of_go (h1 : ∀ c, pAnd v0 (uu 4294967295) c = c a) (h2 : ∀ c, pShr v0 (uu 32) c = c b) (h3 : ∀ c : Cont, pBsl [.i .u64 0, .i .u64 0] 2 [(0, 1, a), (1, 1, b)] S c = c p S1) (h4 : ∀ c, f60 p S1 c = c r S2) : G61 (C61 f60) v0 S k = k r S2 := by
  simp only [G61, C61, cSeq, cReg, cCond, cBlock, cSkip, cExit, cRet, h1, h2, h3, h4]
end
theorem bsl2u (x y : Nat) (S : St) (c : Cont) : pBsl [.i .u64 0, .i .u64 0] 2 [(0, 1, uu x), (1, 1, uu y)] S c = c (.sl S.nx 0 2 2) (S.new [uu x, uu y]) := by
  show newK [uu x, uu y] S (fun nx S' => c (.sl nx 0 2 2) S') = _
  rw [newK_eq]
theorem of_run {u : Nat} (hu : u < 18446744073709551616) (r : Run S0 S) : ∃ S', Run S0 S' ∧ (∀ q ds, Own S0 S q ds → Own S0 S' q ds) ∧ ∀ k, F61 (uu u) S k = k (.s (strN u)) S' := by
  have r1 := r.new [uu (u % B32), uu (u / B32)]
  have ho := Own.new r [uu (u % B32), uu (u / B32)]
  have hrow : ORow S0 S.nx [uu (u % B32), uu (u / B32)] (.sl S.nx 0 2 2) [u % B32, u / B32] := fun S' ⟨h0, n, h1, h2⟩ => ⟨rfl, Nat.le_refl _, by omega, _, h1, [], rfl⟩
  have hd : u / B32 < B32 := Nat.div_lt_of_lt_mul (by show u < 4294967296 * 4294967296; omega)
  obtain ⟨S', z1, z2, z3⟩ := pack_run hrow ho r1 (by simp) (fun x hx => by
    rcases List.mem_cons.1 hx with rfl | hx
    · exact Nat.mod_lt _ (by decide)
    · rw [List.mem_singleton.1 hx]; exact hd)
  have hv : ofL B32 [u % B32, u / B32] = u := by
    show u % B32 + B32 * (u / B32 + B32 * 0) = u
    rw [Nat.mul_zero, Nat.add_zero]; exact Nat.mod_add_div u B32
  rw [hv] at z3
  refine ⟨S', z1, fun q ds hq => z2 q ds (hq.keep r _).1, fun k => ?_⟩
  exact of_go F60 _ _ _ _ _ S _ S' k (fun c => ulow u c) (fun c => ushr32 u c) (fun c => bsl2u _ _ S c) z3
def E61 : List V → Option V
  | [.i .u64 u] => if u < 18446744073709551616 then some (.s (strN u)) else none
  | _ => none
def F61t : Gn 1 := cur 1 (pureF E61)
theorem un1p (g : Gn 1) (a : V) : un 1 g [a] = g a := by rfl
theorem un2p (g : Gn 2) (a b : V) : un 2 g [a, b] = g a b := by rfl
theorem K61t : FOK Tryz.prog 61 (un 1 F61t) := cur_ok 1 (pure_ok K61 E61 fun vs v h => by
  unfold E61 at h
  split at h
  · split at h
    · rename_i u hu
      cases h
      obtain ⟨S', z1, z2, z3⟩ := of_run hu mkS_run
      exact ⟨by rfl, by rfl, S', by rw [un1p]; exact z3 _⟩
    · cases h
  · cases h)
theorem F61t_eq {u : Nat} (hu : u < 18446744073709551616) (S : St) (k : Cont) : F61t (uu u) S k = k (.s (strN u)) S := by
  have e : E61 [uu u] = some (.s (strN u)) := if_pos hu
  show pureF E61 [uu u] S k = _
  simp only [pureF, e]
/- Add -/
def B16 : CS 12 := (cSeq (cSeq (cReg fun kn v0 v1 v2 v3 v4 v5 v6 v7 v8 v9 v10 v11 S => pLen v3 (fun a0 => pLss v2 a0 (fun a1 => pGd a1 false (fun c => c v2 S) S (fun a2 S => pGd a1 false (fun c => c v4 S) S (fun a3 S => pGd a1 false (fun c => pLen a3 (fun v => c v S)) S (fun a4 S => pGd a1 false (fun c => pLss a2 a4 (fun v => c v S)) S (fun a5 S => pPick a1 (.b true) a5 (fun a6 => pGd a6 false (fun c => c v5 S) S (fun a7 S => pGd a6 false (fun c => pGtr a7 (.i .u64 0) (fun v => c v S)) S (fun a8 S => pPick a6 (.b true) a8 (fun a9 => kn v0 v1 v2 v3 v4 v5 a9 v7 v8 v9 v10 v11 S))))))))))) (cCond (fun x y v0 v1 v2 v3 v4 v5 v6 v7 v8 v9 v10 v11 S => pIf v6 (x v0 v1 v2 v3 v4 v5 v6 v7 v8 v9 v10 v11 S) (y v0 v1 v2 v3 v4 v5 v6 v7 v8 v9 v10 v11 S)) cSkip (cExit 0))) (cSeq (cBlock 1 (cSeq (cReg fun kn v0 v1 v2 v3 v4 v5 v6 v7 v8 v9 v10 v11 S => kn v0 v1 v2 v3 v4 v5 v6 v7 v5 v9 v10 v11 S) (cSeq (cSeq (cReg fun kn v0 v1 v2 v3 v4 v5 v6 v7 v8 v9 v10 v11 S => pLen v3 (fun a0 => pLss v2 a0 (fun a1 => kn v0 v1 v2 v3 v4 v5 v6 a1 v8 v9 v10 v11 S))) (cCond (fun x y v0 v1 v2 v3 v4 v5 v6 v7 v8 v9 v10 v11 S => pIf v7 (x v0 v1 v2 v3 v4 v5 v6 v7 v8 v9 v10 v11 S) (y v0 v1 v2 v3 v4 v5 v6 v7 v8 v9 v10 v11 S)) (cReg fun kn v0 v1 v2 v3 v4 v5 v6 v7 v8 v9 v10 v11 S => pIdx 1 v3 v2 (fun a0 => pLd a0 S (fun a1 => pAdd v8 a1 (fun a2 => kn v0 v1 v2 v3 v4 v5 v6 v7 a2 v9 v10 v11 S)))) cSkip)) (cSeq (cSeq (cReg fun kn v0 v1 v2 v3 v4 v5 v6 v7 v8 v9 v10 v11 S => pLen v4 (fun a0 => pLss v2 a0 (fun a1 => kn v0 v1 v2 v3 v4 v5 v6 v7 v8 a1 v10 v11 S))) (cCond (fun x y v0 v1 v2 v3 v4 v5 v6 v7 v8 v9 v10 v11 S => pIf v9 (x v0 v1 v2 v3 v4 v5 v6 v7 v8 v9 v10 v11 S) (y v0 v1 v2 v3 v4 v5 v6 v7 v8 v9 v10 v11 S)) (cReg fun kn v0 v1 v2 v3 v4 v5 v6 v7 v8 v9 v10 v11 S => pIdx 1 v4 v2 (fun a0 => pLd a0 S (fun a1 => pAdd v8 a1 (fun a2 => kn v0 v1 v2 v3 v4 v5 v6 v7 a2 v9 v10 v11 S)))) cSkip)) (cSeq (cReg fun kn v0 v1 v2 v3 v4 v5 v6 v7 v8 v9 v10 v11 S => pAnd v8 (.i .u64 4294967295) (fun a0 => pBsl [(.i .u64 0)] 1 [(0, 1, a0)] S (fun a1 S => pApp 1 v10 a1 S (fun a2 S => kn v0 v1 v2 v3 v4 v5 v6 v7 v8 v9 a2 v11 S)))) (cReg fun kn v0 v1 v2 v3 v4 v5 v6 v7 v8 v9 v10 v11 S => pShr v8 (.i .u64 32) (fun a0 => kn v0 v1 v2 v3 v4 a0 v6 v7 v8 v9 v10 v11 S))))))) (cReg fun kn v0 v1 v2 v3 v4 v5 v6 v7 v8 v9 v10 v11 S => pAdd v2 (.i .i64 1) (fun a0 => kn v0 v1 a0 v3 v4 v5 v6 v7 v8 v9 v10 v11 S))))
def HT16 (f59 f60 : Gn 1) (I0 : CS 12) : CS 12 := (cSeq (cReg fun kn v0 v1 v2 v3 v4 v5 v6 v7 v8 v9 v10 v11 S => kn v0 v1 v2 v3 v4 v5 v6 v7 v8 v9 v10 (.s []) S) (cSeq (cReg fun kn v0 v1 v2 v3 v4 v5 v6 v7 v8 v9 v10 v11 S => f59 v0 S (fun a0 S => f59 v1 S (fun a1 S => kn v0 v1 v2 a0 a1 v5 v6 v7 v8 v9 v10 v11 S))) (cSeq (cReg fun kn v0 v1 v2 v3 v4 v5 v6 v7 v8 v9 v10 v11 S => kn v0 v1 v2 v3 v4 v5 v6 v7 v8 v9 .sn v11 S) (cSeq (cReg fun kn v0 v1 v2 v3 v4 v5 v6 v7 v8 v9 v10 v11 S => kn v0 v1 v2 v3 v4 (.i .u64 0) v6 v7 v8 v9 v10 v11 S) (cSeq (cSeq (cReg fun kn v0 v1 v2 v3 v4 v5 v6 v7 v8 v9 v10 v11 S => kn v0 v1 (.i .i64 0) v3 v4 v5 v6 v7 v8 v9 v10 v11 S) I0) (cSeq (cReg fun kn v0 v1 v2 v3 v4 v5 v6 v7 v8 v9 v10 v11 S => f60 v10 S (fun a0 S => kn v0 v1 v2 v3 v4 v5 v6 v7 v8 v9 v10 a0 S)) cRet))))))
theorem C16_eq (f59 f60 : Gn 1) : C16 f59 f60 = HT16 f59 f60 (cBlock 0 (cLoop B16)) := by rfl
section
variable (f59 f60 : Gn 1) (K : Fn 12) (kx : Nat → Fn 12) (kr : Fn 12) (v0 v1 v2 v3 v4 v5 v6 v7 v8 v9 v10 v11 a b d g q q' x y s s1 o r c' n' w2 w5 w6 w7 w8 w9 : V) (S S1 S2 S3 S4 : St)
theorem a_end (h0 : ∀ c, pLen v3 c = c a) (h0' : ∀ c, pLen v4 c = c b) (h1 : ∀ c, pLss v2 a c = c (.b false)) (h2 : ∀ c, pLss v2 b c = c (.b false)) (h3 : ∀ c, pGtr v5 (uu 0) c = c (.b false)) : B16 K kx kr v0 v1 v2 v3 v4 v5 v6 v7 v8 v9 v10 v11 S = kx 0 v0 v1 v2 v3 v4 v5 (.b false) v7 v8 v9 v10 v11 S := by
  simp only [B16, cSeq, cReg, cCond, cBlock, cSkip, cExit, cRet, h0, h0', h1, h2, h3, pGd_ff, pGd_tf, pPick_f, pPick_t, ifF, ifT]
theorem a_tt (h0 : ∀ c, pLen v3 c = c a) (h0' : ∀ c, pLen v4 c = c b) (h1 : ∀ c, pLss v2 a c = c (.b true)) (h2 : ∀ c, pLss v2 b c = c (.b true)) (g1 : ∀ c, pIdx 1 v3 v2 c = c q) (g2 : ∀ c, pLd q S c = c x) (g3 : ∀ c, pAdd v5 x c = c s1) (g4 : ∀ c, pIdx 1 v4 v2 c = c q') (g5 : ∀ c, pLd q' S c = c y) (g6 : ∀ c, pAdd s1 y c = c s)
    (h4 : ∀ c, pAnd s (uu 4294967295) c = c d) (h5 : ∀ c : Cont, pBsl [.i .u64 0] 1 [(0, 1, d)] S (fun a S => pApp 1 v10 a S c) = c o S1) (h6 : ∀ c, pShr s (uu 32) c = c c') (h7 : ∀ c, pAdd v2 (nn 1) c = c n') :
    B16 K kx kr v0 v1 v2 v3 v4 v5 v6 v7 v8 v9 v10 v11 S = K v0 v1 n' v3 v4 c' (.b true) (.b true) s (.b true) o v11 S1 := by
  simp only [B16, cSeq, cReg, cCond, cBlock, cSkip, cExit, cRet, h0, h0', h1, h2, g1, g2, g3, g4, g5, g6, h4, h5, h6, h7, pGd_ff, pGd_tf, pPick_f, pPick_t, ifF, ifT]
theorem a_tf (h0 : ∀ c, pLen v3 c = c a) (h0' : ∀ c, pLen v4 c = c b) (h1 : ∀ c, pLss v2 a c = c (.b true)) (h2 : ∀ c, pLss v2 b c = c (.b false)) (g1 : ∀ c, pIdx 1 v3 v2 c = c q) (g2 : ∀ c, pLd q S c = c x) (g3 : ∀ c, pAdd v5 x c = c s)
    (h4 : ∀ c, pAnd s (uu 4294967295) c = c d) (h5 : ∀ c : Cont, pBsl [.i .u64 0] 1 [(0, 1, d)] S (fun a S => pApp 1 v10 a S c) = c o S1) (h6 : ∀ c, pShr s (uu 32) c = c c') (h7 : ∀ c, pAdd v2 (nn 1) c = c n') :
    B16 K kx kr v0 v1 v2 v3 v4 v5 v6 v7 v8 v9 v10 v11 S = K v0 v1 n' v3 v4 c' (.b true) (.b true) s (.b false) o v11 S1 := by
  simp only [B16, cSeq, cReg, cCond, cBlock, cSkip, cExit, cRet, h0, h0', h1, h2, g1, g2, g3, h4, h5, h6, h7, pGd_ff, pGd_tf, pPick_f, pPick_t, ifF, ifT]
theorem a_ft (h0 : ∀ c, pLen v3 c = c a) (h0' : ∀ c, pLen v4 c = c b) (h1 : ∀ c, pLss v2 a c = c (.b false)) (h2 : ∀ c, pLss v2 b c = c (.b true)) (g4 : ∀ c, pIdx 1 v4 v2 c = c q') (g5 : ∀ c, pLd q' S c = c y) (g6 : ∀ c, pAdd v5 y c = c s)
    (h4 : ∀ c, pAnd s (uu 4294967295) c = c d) (h5 : ∀ c : Cont, pBsl [.i .u64 0] 1 [(0, 1, d)] S (fun a S => pApp 1 v10 a S c) = c o S1) (h6 : ∀ c, pShr s (uu 32) c = c c') (h7 : ∀ c, pAdd v2 (nn 1) c = c n') :
    B16 K kx kr v0 v1 v2 v3 v4 v5 v6 v7 v8 v9 v10 v11 S = K v0 v1 n' v3 v4 c' (.b true) (.b false) s (.b true) o v11 S1 := by
  simp only [B16, cSeq, cReg, cCond, cBlock, cSkip, cExit, cRet, h0, h0', h1, h2, g4, g5, g6, h4, h5, h6, h7, pGd_ff, pGd_tf, pPick_f, pPick_t, ifF, ifT]
theorem a_ff (h0 : ∀ c, pLen v3 c = c a) (h0' : ∀ c, pLen v4 c = c b) (h1 : ∀ c, pLss v2 a c = c (.b false)) (h2 : ∀ c, pLss v2 b c = c (.b false)) (h3 : ∀ c, pGtr v5 (uu 0) c = c (.b true))
    (h4 : ∀ c, pAnd v5 (uu 4294967295) c = c d) (h5 : ∀ c : Cont, pBsl [.i .u64 0] 1 [(0, 1, d)] S (fun a S => pApp 1 v10 a S c) = c o S1) (h6 : ∀ c, pShr v5 (uu 32) c = c c') (h7 : ∀ c, pAdd v2 (nn 1) c = c n') :
    B16 K kx kr v0 v1 v2 v3 v4 v5 v6 v7 v8 v9 v10 v11 S = K v0 v1 n' v3 v4 c' (.b true) (.b false) v5 (.b false) o v11 S1 := by
  simp only [B16, cSeq, cReg, cCond, cBlock, cSkip, cExit, cRet, h0, h0', h1, h2, h3, h4, h5, h6, h7, pGd_ff, pGd_tf, pPick_f, pPick_t, ifF, ifT]
theorem a_head (I0 : CS 12) (h1 : ∀ c, f59 v0 S c = c a S1) (h2 : ∀ c, f59 v1 S1 c = c b S2)
    (hL : ∀ (kn : Fn 12) (kx : Nat → Fn 12) (kr : Fn 12), I0 kn kx kr v0 v1 (nn 0) a b (uu 0) v6 v7 v8 v9 .sn (.s []) S2 = kn v0 v1 w2 a b w5 w6 w7 w8 w9 o (.s []) S3) (h3 : ∀ c, f60 o S3 c = c r S4) :
    HT16 f59 f60 I0 K kx kr v0 v1 v2 v3 v4 v5 v6 v7 v8 v9 v10 v11 S = kr v0 v1 w2 a b w5 w6 w7 w8 w9 o r S4 := by
  simp only [HT16, cSeq, cReg, cCond, cBlock, cSkip, cExit, cRet, h1, h2, hL, h3]
end
theorem dropG (B : Nat) (l : List Nat) (i : Nat) : ofL B (l.drop i) = l.getD i 0 + B * ofL B (l.drop (i + 1)) := by
  by_cases h : i < l.length
  · rw [drop_ofL h, Nat.mul_comm, Nat.add_comm]
  · rw [List.drop_eq_nil_of_le (by omega), List.drop_eq_nil_of_le (by omega), List.getD_eq_getElem?_getD, List.getElem?_eq_none (by omega)]; rfl
theorem getD_lt {l : List Nat} {B : Nat} (h : ∀ x ∈ l, x < B) (h0 : 0 < B) (i : Nat) : l.getD i 0 < B := by
  rw [List.getD_eq_getElem?_getD]
  cases hi : l[i]? with
  | none => exact h0
  | some x => exact h x (List.mem_of_getElem? hi)
theorem getD_out {l : List Nat} {i : Nat} (h : ¬ i < l.length) : l.getD i 0 = 0 := by
  rw [List.getD_eq_getElem?_getD, List.getElem?_eq_none (by omega)]; rfl
/-- a row that stays while w grows -/
def SRow (S0 : St) (v : V) (l : List Nat) (S : St) (w : V) : Prop := v = .sn ∧ l = [] ∨ ∃ id cs, Own S0 S id cs ∧ Apart w id ∧ ORow S0 id cs v l
theorem SRow.row {v w : V} {l : List Nat} (h : SRow S0 v l S w) : KRow .u64 S v l := by
  rcases h with ⟨rfl, rfl⟩ | ⟨id, cs, h1, _, h2⟩
  · rfl
  · exact h2 S h1
theorem SRow.step {S' : St} {v w w' : V} {l : List Nat} (h : SRow S0 v l S w) (hk : ∀ q ds, Own S0 S q ds → Apart w q → Own S0 S' q ds ∧ Apart w' q) : SRow S0 v l S' w' := by
  rcases h with h | ⟨id, cs, h1, h2, h3⟩
  · exact .inl h
  · obtain ⟨k1, k2⟩ := hk id cs h1 h2
    exact .inr ⟨id, cs, k1, k2, h3⟩
theorem SRow.keep {S' : St} {v w : V} {l : List Nat} (h : SRow S0 v l S w) (hk : ∀ q ds, Own S0 S q ds → Own S0 S' q ds) : SRow S0 v l S' w :=
  h.step fun q ds a b => ⟨hk q ds a, b⟩
theorem Limb.srow {a : V} {l : List Nat} (h : Limb S0 S a l) : SRow S0 a l S .sn := by
  rcases h with ⟨rfl, rfl⟩ | ⟨id, m, t, rfl, h1, h2, h3⟩
  · exact .inl ⟨rfl, rfl⟩
  · exact .inr ⟨id, _, h3, (fun a b c d e => by cases e), fun S' ⟨h0, n, h4, h5⟩ => ⟨rfl, rfl, by omega, by omega, _, h4, t, by simp⟩⟩
theorem add_loop {vx vy : V} {x y : List Nat} (hx : ∀ z ∈ x, z < B32) (hy : ∀ z ∈ y, z < B32) (lx : x.length ≤ 90000) (ly : y.length ≤ 90000) {M : Nat} (hM : M = if x.length < y.length then y.length else x.length) :
    ∀ (N i c : Nat) (S : St) (l : List Nat) (v6 v7 v8 v9 v10 : V), i ≤ M + 1 → M + 1 < N + i → l.length = i → c ≤ 1 → (i = M + 1 → c = 0) → Run S0 S → GrowK .u64 S0 S v10 l → SRow S0 vx x S v10 → SRow S0 vy y S v10 → (∀ z ∈ l, z < B32) →
    ofL B32 l + B32 ^ i * (c + ofL B32 (x.drop i) + ofL B32 (y.drop i)) = ofL B32 x + ofL B32 y →
    ∃ S' w2 w5 w7 w8 w9 w10 L, Run S0 S' ∧ GrowK .u64 S0 S' w10 L ∧ (∀ z ∈ L, z < B32) ∧ L.length ≤ M + 1 ∧ ofL B32 L = ofL B32 x + ofL B32 y ∧ (∀ q ds, Own S0 S q ds → Apart v10 q → Own S0 S' q ds) ∧
      ∀ (kx : Nat → Fn 12) (kr : Fn 12) (v0 v1 v11 : V), loopN B16 kx kr N v0 v1 (nn i) vx vy (uu c) v6 v7 v8 v9 v10 v11 S = kx 0 v0 v1 w2 vx vy w5 (.b false) w7 w8 w9 w10 v11 S'
  | 0, i, c, S, l, v6, v7, v8, v9, v10, h1, h2, h3, h4, h5, r, hv, s1, s2, hl, he => by omega
  | N + 1, i, c, S, l, v6, v7, v8, v9, v10, h1, h2, h3, h4, h5, r, hv, s1, s2, hl, he => by
    have hMx : x.length ≤ M := by rw [hM]; split <;> omega
    have hMy : y.length ≤ M := by rw [hM]; split <;> omega
    have hM9 : M ≤ 90000 := by rw [hM]; split <;> omega
    have e0 := s1.row.len.1
    have e0' := s2.row.len.1
    have bx := getD_lt hx (by decide) i
    have by' := getD_lt hy (by decide) i
    have e1 : ∀ c, pLss (nn i) (nn x.length) c = c (.b (decide (i < x.length))) := fun c => lss_n (by omega) (by omega) c
    have e2 : ∀ c, pLss (nn i) (nn y.length) c = c (.b (decide (i < y.length))) := fun c => lss_n (by omega) (by omega) c
    have e3 : ∀ k, pGtr (uu c) (uu 0) k = k (.b (decide (0 < c))) := fun k => ugtr (by omega) (by omega) k
    have e7 : ∀ c, pAdd (nn i) (nn 1) c = c (nn (i + 1)) := fun c => add_n (by omega) c
    by_cases hend : ¬ i < x.length ∧ ¬ i < y.length ∧ c = 0
    · obtain ⟨q1, q2, q3⟩ := hend
      refine ⟨S, nn i, uu c, v7, v8, v9, v10, l, r, hv, hl, by omega, ?_, fun q ds h _ => h, fun kx kr v0 v1 v11 => ?_⟩
      · rw [← he, List.drop_eq_nil_of_le (by omega), List.drop_eq_nil_of_le (by omega), q3]; simp [ofL]
      · rw [loopN_succ, a_end (h0 := e0) (h0' := e0') (h1 := fun c => by rw [e1, decide_eq_false q1]) (h2 := fun c => by rw [e2, decide_eq_false q2]) (h3 := fun k => by rw [e3, decide_eq_false (by omega)])]
    · have hiM : i ≤ M := by
        rcases Nat.lt_or_ge M i with h | h
        · exact absurd ⟨by omega, by omega, h5 (by omega)⟩ hend
        · exact h
      have eB : B32 = 4294967296 := rfl
      have hs64 : c + x.getD i 0 + y.getD i 0 < 8589934592 := by omega
      have hc1 : (c + x.getD i 0 + y.getD i 0) / B32 ≤ 1 := by
        have : (c + x.getD i 0 + y.getD i 0) / B32 < 2 := Nat.div_lt_of_lt_mul (by show _ < 4294967296 * 2; omega)
        omega
      obtain ⟨S1, o, r1, g1, k1, a1⟩ := hv.app r (by omega) 0 ((c + x.getD i 0 + y.getD i 0) % B32)
      have hdm := Nat.div_add_mod (c + x.getD i 0 + y.getD i 0) B32
      obtain ⟨S', w2, w5, w7, w8, w9, w10, L, z1, z2, z3, z4, z5, z6, z7⟩ := add_loop hx hy lx ly hM N (i + 1) ((c + x.getD i 0 + y.getD i 0) / B32) S1 (l ++ [(c + x.getD i 0 + y.getD i 0) % B32]) (.b true) (.b (decide (i < x.length))) (uu (c + x.getD i 0 + y.getD i 0)) (.b (decide (i < y.length))) o (by omega) (by omega) (by rw [List.length_append]; simp; omega) hc1 (fun hi => by
          have q1 : ¬ i < x.length := by omega
          have q2 : ¬ i < y.length := by omega
          rw [getD_out q1, getD_out q2]
          exact Nat.div_eq_of_lt (by show c + 0 + 0 < 4294967296; omega)) r1 g1 (s1.step k1) (s2.step k1) (fun z hz => by
          rcases List.mem_append.1 hz with h | h
          · exact hl z h
          · rw [List.mem_singleton.1 h]; exact Nat.mod_lt _ (by decide)) (by
          rw [ofL_app, h3, ← he, dropG B32 x i, dropG B32 y i, Nat.pow_succ]
          show ofL B32 l + B32 ^ i * ((c + x.getD i 0 + y.getD i 0) % B32 + B32 * 0) + _ = _
          generalize ofL B32 (x.drop (i + 1)) = X
          generalize ofL B32 (y.drop (i + 1)) = Y
          rw [Nat.add_assoc]
          congr 1
          rw [Nat.mul_assoc, ← Nat.mul_add]
          congr 1
          rw [Nat.mul_zero, Nat.mul_add, Nat.mul_add]
          omega)
      refine ⟨S', w2, w5, w7, w8, w9, w10, L, z1, z2, z3, z4, z5, fun q ds hq ha => by obtain ⟨y1, y2⟩ := k1 q ds hq ha; exact z6 q ds y1 y2, fun kx kr v0 v1 v11 => ?_⟩
      rw [loopN_succ]
      refine Eq.trans ?_ (z7 kx kr v0 v1 v11)
      by_cases q1 : i < x.length
      · obtain ⟨q, t1, t2⟩ := s1.row.get q1
        by_cases q2 : i < y.length
        · obtain ⟨q', t3, t4⟩ := s2.row.get q2
          rw [a_tt (h0 := e0) (h0' := e0') (h1 := fun c => by rw [e1, decide_eq_true q1]) (h2 := fun c => by rw [e2, decide_eq_true q2]) (g1 := t1) (g2 := t2) (g3 := fun k => uadd (by omega) k) (g4 := t3) (g5 := t4) (g6 := fun k => uadd (by omega) k) (h4 := fun k => ulow _ k) (h5 := a1) (h6 := fun k => ushr32 _ k) (h7 := e7), decide_eq_true q1, decide_eq_true q2]
        · have hy0 := getD_out q2
          rw [hy0, Nat.add_zero] at a1 ⊢
          rw [a_tf (h0 := e0) (h0' := e0') (h1 := fun c => by rw [e1, decide_eq_true q1]) (h2 := fun c => by rw [e2, decide_eq_false q2]) (g1 := t1) (g2 := t2) (g3 := fun k => uadd (by omega) k) (h4 := fun k => ulow _ k) (h5 := a1) (h6 := fun k => ushr32 _ k) (h7 := e7), decide_eq_true q1, decide_eq_false q2]
          simp only [Nat.add_zero]
      · have hx0 := getD_out q1
        rw [hx0, Nat.add_zero] at a1 ⊢
        by_cases q2 : i < y.length
        · obtain ⟨q', t3, t4⟩ := s2.row.get q2
          rw [a_ft (h0 := e0) (h0' := e0') (h1 := fun c => by rw [e1, decide_eq_false q1]) (h2 := fun c => by rw [e2, decide_eq_true q2]) (g4 := t3) (g5 := t4) (g6 := fun k => uadd (by omega) k) (h4 := fun k => ulow _ k) (h5 := a1) (h6 := fun k => ushr32 _ k) (h7 := e7), decide_eq_false q1, decide_eq_true q2]
          simp only [Nat.add_zero]
        · have hy0 := getD_out q2
          rw [hy0, Nat.add_zero] at a1 ⊢
          rw [a_ff (h0 := e0) (h0' := e0') (h1 := fun c => by rw [e1, decide_eq_false q1]) (h2 := fun c => by rw [e2, decide_eq_false q2]) (h3 := fun k => by rw [e3, decide_eq_true (by omega)]) (h4 := fun k => ulow _ k) (h5 := a1) (h6 := fun k => ushr32 _ k) (h7 := e7), decide_eq_false q1, decide_eq_false q2]
          simp only [Nat.add_zero]
theorem U.GrowK.pack {v : V} {l : List Nat} (h : GrowK .u64 S0 S v l) (r : Run S0 S) (hl : l.length ≤ 100000) (hb : ∀ x ∈ l, x < B32) : ∃ S', Run S0 S' ∧ (∀ q ds, Own S0 S q ds → Own S0 S' q ds) ∧ ∀ k, F60 v S k = k (.s (strN (ofL B32 l))) S' := by
  rcases h with ⟨rfl, rfl⟩ | ⟨id, rfl, ho⟩
  · exact pack_nil r
  · exact pack_run (fun S' ⟨h0, n, h1, h2⟩ => ⟨rfl, rfl, Nat.le_refl _, by omega, _, h1, [], by simp⟩) ho r hl hb
theorem dg_len {B : Nat} (hB : 2 ≤ B) : ∀ (k n : Nat), n < B ^ k → (dg B n).length ≤ k
  | 0, n, h => by
    have : n = 0 := by simpa using h
    subst this; simp [dg_zero]
  | k + 1, n, h => by
    by_cases h0 : n = 0
    · subst h0; simp [dg_zero]
    · rw [dg_pos hB h0, List.length_cons]
      have := dg_len hB k (n / B) (Nat.div_lt_of_lt_mul (by rw [Nat.pow_succ, Nat.mul_comm] at h; exact h))
      omega
theorem len_dg {b : List Nat} (hb : By b) : (dg B32 (U.val b)).length ≤ b.length := by
  refine dg_len (by decide) _ _ (Nat.lt_of_lt_of_le (pv_lt hb b.length) (Nat.pow_le_pow_left (by decide) _))
def F16x : Gn 2 := F16
theorem add_run {a b : List Nat} (ha : By a) (hb : By b) (la : a.length ≤ 90000) (lb : b.length ≤ 90000) (r : Run S0 S) : ∃ S', Run S0 S' ∧ ∀ k, F16 (.s a) (.s b) S k = k (.s (strN (U.val a + U.val b))) S' := by
  obtain ⟨S1, x, r1, x1, x2, x3⟩ := limbs_run ha (by omega) r
  obtain ⟨S2, y, r2, y1, y2, y3⟩ := limbs_run hb (by omega) r1
  have lx := len_dg ha
  have ly := len_dg hb
  obtain ⟨S3, w2, w5, w7, w8, w9, w10, L, z1, z2, z3, z4, z5, z6, z7⟩ := add_loop (x := dg B32 (U.val a)) (y := dg B32 (U.val b)) (dg_lt (by decide) _) (dg_lt (by decide) _) (by omega) (by omega) rfl 1000000 0 0 S2 [] .other .other .other .other .sn (by omega) (by split <;> omega) rfl (by omega) (fun h => by split at h <;> omega) r2 (.inl ⟨rfl, rfl⟩) (x1.srow.keep y2) y1.srow (fun z hz => by cases hz) (by simp [ofL])
  rw [ofL_dg (by decide), ofL_dg (by decide)] at z5
  obtain ⟨S4, p1, p2, p3⟩ := z2.pack z1 (by split at z4 <;> omega) z3
  rw [z5] at p3
  refine ⟨S4, p1, fun k => ?_⟩
  unfold F16 G16
  rw [C16_eq, a_head (a := x) (b := y) (w2 := w2) (w5 := w5) (w6 := .b false) (w7 := w7) (w8 := w8) (w9 := w9) (o := w10) (r := .s (strN (U.val a + U.val b))) (S1 := S1) (S2 := S2) (S3 := S3) (S4 := S4) (h1 := x3) (h2 := y3) (hL := fun kn kx kr => ?_) (h3 := p3)]
  obtain ⟨kx', e1, e2⟩ := block_loop0 B16 kn kx kr
  rw [e2]
  refine (z7 kx' kr _ _ _).trans ?_
  rw [e1]
open Classical in
/-- a function of two strings, as a pure text -/
def E2 (op : Nat → Nat → Nat) (m : Nat) : List V → Option V
  | [.s a, .s b] => if By a ∧ By b ∧ a.length ≤ m ∧ b.length ≤ m then some (.s (strN (op (U.val a) (U.val b)))) else none
  | _ => none
def F16t : Gn 2 := cur 2 (pureF (E2 (· + ·) 90000))
theorem E2_ok {P : Program} {f : FuncId} {F : Gn 2} (hF : FOK P f (un 2 F)) {op : Nat → Nat → Nat} {m : Nat} (h : ∀ a b, By a → By b → a.length ≤ m → b.length ≤ m → ∃ S', ∀ k, F (.s a) (.s b) (mkS []) k = k (.s (strN (op (U.val a) (U.val b)))) S') : FOK P f (un 2 (cur 2 (pureF (E2 op m)))) :=
  cur_ok 2 (pure_ok hF (E2 op m) fun vs v hv => by
    unfold E2 at hv
    split at hv
    · split at hv
      · rename_i a b hc
        cases hv
        obtain ⟨S', z⟩ := h a b hc.1 hc.2.1 hc.2.2.1 hc.2.2.2
        exact ⟨by rfl, by rfl, S', by rw [un2p]; exact z _⟩
      · cases hv
    · cases hv)
theorem E2_eq {op : Nat → Nat → Nat} {m a b : Nat} (ha : (strN a).length ≤ m) (hb : (strN b).length ≤ m) (S : St) (k : Cont) : cur 2 (pureF (E2 op m)) (.s (strN a)) (.s (strN b)) S k = k (.s (strN (op a b))) S := by
  have e : E2 op m [.s (strN a), .s (strN b)] = some (.s (strN (op a b))) := by
    unfold E2
    simp only []
    rw [if_pos ⟨strN_lt a, strN_lt b, ha, hb⟩, val_strN, val_strN]
  show pureF (E2 op m) [.s (strN a), .s (strN b)] S k = _
  simp only [pureF, e]
theorem K16t : FOK Tryz.prog 16 (un 2 F16t) := E2_ok K16 fun a b ha hb la lb => by
  obtain ⟨S', _, z⟩ := add_run ha hb la lb mkS_run
  exact ⟨S', z⟩
end
end Go.AM

/- galoisref01.Mul: a pure text on strings. -/
namespace Go.AM
open Go.Proofs
open Go.AM.Q
open Go.AM.U
set_option linter.unusedVariables false
set_option linter.unusedSimpArgs false
noncomputable section
variable {S0 S : St} {out : V × St}
def BI17 : CS 12 := (cSeq (cSeq (cReg fun kn v0 v1 v2 v3 v4 v5 v6 v7 v8 v9 v10 v11 S => pLen v3 (fun a0 => pLss v6 a0 (fun a1 => kn v0 v1 v2 v3 v4 v5 v6 a1 v8 v9 v10 v11 S))) (cCond (fun x y v0 v1 v2 v3 v4 v5 v6 v7 v8 v9 v10 v11 S => pIf v7 (x v0 v1 v2 v3 v4 v5 v6 v7 v8 v9 v10 v11 S) (y v0 v1 v2 v3 v4 v5 v6 v7 v8 v9 v10 v11 S)) cSkip (cExit 2))) (cSeq (cBlock 3 (cSeq (cReg fun kn v0 v1 v2 v3 v4 v5 v6 v7 v8 v9 v10 v11 S => pAdd v4 v6 (fun a0 => pIdx 1 v8 a0 (fun a1 => pLd a1 S (fun a2 => pIdx 1 v2 v4 (fun a3 => pLd a3 S (fun a4 => pIdx 1 v3 v6 (fun a5 => pLd a5 S (fun a6 => pMul a4 a6 (fun a7 => pAdd a2 a7 (fun a8 => pAdd a8 v9 (fun a9 => kn v0 v1 v2 v3 v4 v5 v6 v7 v8 v9 a9 v11 S))))))))))) (cSeq (cReg fun kn v0 v1 v2 v3 v4 v5 v6 v7 v8 v9 v10 v11 S => pAdd v4 v6 (fun a0 => pAnd v10 (.i .u64 4294967295) (fun a1 => pIdx 1 v8 a0 (fun a2 => pSt 1 a2 a1 S (fun S => kn v0 v1 v2 v3 v4 v5 v6 v7 v8 v9 v10 v11 S))))) (cReg fun kn v0 v1 v2 v3 v4 v5 v6 v7 v8 v9 v10 v11 S => pShr v10 (.i .u64 32) (fun a0 => kn v0 v1 v2 v3 v4 v5 v6 v7 v8 a0 v10 v11 S))))) (cReg fun kn v0 v1 v2 v3 v4 v5 v6 v7 v8 v9 v10 v11 S => pAdd v6 (.i .i64 1) (fun a0 => kn v0 v1 v2 v3 v4 v5 a0 v7 v8 v9 v10 v11 S))))
def BO17 (I1 : CS 12) : CS 12 := (cSeq (cSeq (cReg fun kn v0 v1 v2 v3 v4 v5 v6 v7 v8 v9 v10 v11 S => pLen v2 (fun a0 => pLss v4 a0 (fun a1 => kn v0 v1 v2 v3 v4 a1 v6 v7 v8 v9 v10 v11 S))) (cCond (fun x y v0 v1 v2 v3 v4 v5 v6 v7 v8 v9 v10 v11 S => pIf v5 (x v0 v1 v2 v3 v4 v5 v6 v7 v8 v9 v10 v11 S) (y v0 v1 v2 v3 v4 v5 v6 v7 v8 v9 v10 v11 S)) cSkip (cExit 0))) (cSeq (cBlock 1 (cSeq (cReg fun kn v0 v1 v2 v3 v4 v5 v6 v7 v8 v9 v10 v11 S => kn v0 v1 v2 v3 v4 v5 v6 v7 v8 (.i .u64 0) v10 v11 S) (cSeq (cSeq (cReg fun kn v0 v1 v2 v3 v4 v5 v6 v7 v8 v9 v10 v11 S => kn v0 v1 v2 v3 v4 v5 (.i .i64 0) v7 v8 v9 v10 v11 S) I1) (cReg fun kn v0 v1 v2 v3 v4 v5 v6 v7 v8 v9 v10 v11 S => pLen v3 (fun a0 => pAdd v4 a0 (fun a1 => pIdx 1 v8 a1 (fun a2 => pSt 1 a2 v9 S (fun S => kn v0 v1 v2 v3 v4 v5 v6 v7 v8 v9 v10 v11 S)))))))) (cReg fun kn v0 v1 v2 v3 v4 v5 v6 v7 v8 v9 v10 v11 S => pAdd v4 (.i .i64 1) (fun a0 => kn v0 v1 v2 v3 a0 v5 v6 v7 v8 v9 v10 v11 S))))
def HT17 (f59 f60 : Gn 1) (I0 : CS 12) : CS 12 := (cSeq (cReg fun kn v0 v1 v2 v3 v4 v5 v6 v7 v8 v9 v10 v11 S => kn v0 v1 v2 v3 v4 v5 v6 v7 v8 v9 v10 (.s []) S) (cSeq (cReg fun kn v0 v1 v2 v3 v4 v5 v6 v7 v8 v9 v10 v11 S => f59 v0 S (fun a0 S => f59 v1 S (fun a1 S => kn v0 v1 a0 a1 v4 v5 v6 v7 v8 v9 v10 v11 S))) (cSeq (cReg fun kn v0 v1 v2 v3 v4 v5 v6 v7 v8 v9 v10 v11 S => pLen v2 (fun a0 => pLen v3 (fun a1 => pAdd a0 a1 (fun a2 => pMks [(.i .u64 0)] a2 a2 S (fun a3 S => kn v0 v1 v2 v3 v4 v5 v6 v7 a3 v9 v10 v11 S))))) (cSeq (cSeq (cReg fun kn v0 v1 v2 v3 v4 v5 v6 v7 v8 v9 v10 v11 S => kn v0 v1 v2 v3 (.i .i64 0) v5 v6 v7 v8 v9 v10 v11 S) I0) (cSeq (cReg fun kn v0 v1 v2 v3 v4 v5 v6 v7 v8 v9 v10 v11 S => f60 v8 S (fun a0 S => kn v0 v1 v2 v3 v4 v5 v6 v7 v8 v9 v10 a0 S)) cRet)))))
theorem C17_eq (f59 f60 : Gn 1) : C17 f59 f60 = HT17 f59 f60 (cBlock 0 (cLoop (BO17 (cBlock 2 (cLoop BI17))))) := by rfl
section
variable (f59 f60 : Gn 1) (K : Fn 12) (kx : Nat → Fn 12) (kr : Fn 12) (v0 v1 v2 v3 v4 v5 v6 v7 v8 v9 v10 v11 a b d g q q' q1 q2 x y z s s1 s2 o r c' n' t w4 w5 w6 w7 w9 w10 : V) (S S1 S2 S3 S4 S5 : St)
theorem mi_end (h0 : ∀ c, pLen v3 c = c a) (h1 : ∀ c, pLss v6 a c = c (.b false)) : BI17 K kx kr v0 v1 v2 v3 v4 v5 v6 v7 v8 v9 v10 v11 S = kx 2 v0 v1 v2 v3 v4 v5 v6 (.b false) v8 v9 v10 v11 S := by
  simp only [BI17, cSeq, cReg, cCond, cBlock, cSkip, cExit, cRet, h0, h1, ifF]
theorem mi_go (h0 : ∀ c, pLen v3 c = c a) (h1 : ∀ c, pLss v6 a c = c (.b true)) (h2 : ∀ c, pAdd v4 v6 c = c b) (h3 : ∀ c, pIdx 1 v8 b c = c q) (h4 : ∀ c, pLd q S c = c o) (h5 : ∀ c, pIdx 1 v2 v4 c = c q1) (h6 : ∀ c, pLd q1 S c = c x) (h7 : ∀ c, pIdx 1 v3 v6 c = c q2) (h8 : ∀ c, pLd q2 S c = c y)
    (h9 : ∀ c, pMul x y c = c z) (h10 : ∀ c, pAdd o z c = c s1) (h11 : ∀ c, pAdd s1 v9 c = c s) (h12 : ∀ c, pAnd s (uu 4294967295) c = c d) (h13 : ∀ c, pSt 1 q d S c = c S1) (h14 : ∀ c, pShr s (uu 32) c = c c') (h15 : ∀ c, pAdd v6 (nn 1) c = c n') :
    BI17 K kx kr v0 v1 v2 v3 v4 v5 v6 v7 v8 v9 v10 v11 S = K v0 v1 v2 v3 v4 v5 n' (.b true) v8 c' s v11 S1 := by
  simp only [BI17, cSeq, cReg, cCond, cBlock, cSkip, cExit, cRet, h0, h1, h2, h3, h4, h5, h6, h7, h8, h9, h10, h11, h12, h13, h14, h15, ifT]
theorem mo_end (I1 : CS 12) (h0 : ∀ c, pLen v2 c = c a) (h1 : ∀ c, pLss v4 a c = c (.b false)) : BO17 I1 K kx kr v0 v1 v2 v3 v4 v5 v6 v7 v8 v9 v10 v11 S = kx 0 v0 v1 v2 v3 v4 (.b false) v6 v7 v8 v9 v10 v11 S := by
  simp only [BO17, cSeq, cReg, cCond, cBlock, cSkip, cExit, cRet, h0, h1, ifF]
theorem mo_go (I1 : CS 12) (h0 : ∀ c, pLen v2 c = c a) (h1 : ∀ c, pLss v4 a c = c (.b true)) (hI : ∀ (kn : Fn 12) (kx : Nat → Fn 12) (kr : Fn 12), I1 kn kx kr v0 v1 v2 v3 v4 (.b true) (nn 0) v7 v8 (uu 0) v10 v11 S = kn v0 v1 v2 v3 v4 (.b true) w6 w7 v8 w9 w10 v11 S1)
    (h2 : ∀ c, pLen v3 c = c b) (h3 : ∀ c, pAdd v4 b c = c d) (h4 : ∀ c, pIdx 1 v8 d c = c q) (h5 : ∀ c, pSt 1 q w9 S1 c = c S2) (h6 : ∀ c, pAdd v4 (nn 1) c = c n') :
    BO17 I1 K kx kr v0 v1 v2 v3 v4 v5 v6 v7 v8 v9 v10 v11 S = K v0 v1 v2 v3 n' (.b true) w6 w7 v8 w9 w10 v11 S2 := by
  simp only [BO17, cSeq, cReg, cCond, cBlock, cSkip, cExit, cRet, h0, h1, hI, h2, h3, h4, h5, h6, ifT]
theorem m_head (I0 : CS 12) (h1 : ∀ c, f59 v0 S c = c a S1) (h2 : ∀ c, f59 v1 S1 c = c b S2) (h3 : ∀ c, pLen a c = c d) (h4 : ∀ c, pLen b c = c g) (h5 : ∀ c, pAdd d g c = c t) (h6 : ∀ c : Cont, pMks [.i .u64 0] t t S2 c = c o S3)
    (hL : ∀ (kn : Fn 12) (kx : Nat → Fn 12) (kr : Fn 12), I0 kn kx kr v0 v1 a b (nn 0) v5 v6 v7 o v9 v10 (.s []) S3 = kn v0 v1 a b w4 w5 w6 w7 o w9 w10 (.s []) S4) (h7 : ∀ c, f60 o S4 c = c r S5) :
    HT17 f59 f60 I0 K kx kr v0 v1 v2 v3 v4 v5 v6 v7 v8 v9 v10 v11 S = kr v0 v1 a b w4 w5 w6 w7 o w9 w10 r S5 := by
  simp only [HT17, cSeq, cReg, cCond, cBlock, cSkip, cExit, cRet, h1, h2, h3, h4, h5, h6, hL, h7]
end
theorem U.Own_put {id : Pos} {cs : List V} {i : Nat} {x : V} (h : Own S0 S id cs) (r : Run S0 S) (hi : i < cs.length) (hx : ∀ k, cellsK x k = k [x]) : ∃ S', Run S0 S' ∧ Own S0 S' id (cs.set i x) ∧ (∀ q ds, q ≠ id → Own S0 S q ds → Own S0 S' q ds) ∧ ∀ c : St → R, pSt 1 (.p id i) x S c = c S' := by
  obtain ⟨h0, n, h1, h2⟩ := h
  have hp := r.pos
  refine ⟨S.upd id ⟨n, cs.set i x⟩, ⟨r.ok.upd h1 (.inl ⟨rfl, show n ≠ 0 by omega⟩), r.fl, r.cnt, r.pos, fun q hq => ?_⟩, ⟨h0, n, St.upd_get _ _, h2⟩, fun q ds hq ho => ho.upd (ds := []) hq, fun c => pStn_eq h1 (by rw [r.fl]; exact h2) hx hi c⟩
  rw [St.upd_get_ne _ (fun e => by rw [e] at hq; omega)]; exact r.old q hq
theorem map_set_uu (L : List Nat) (j v : Nat) : (L.map uu).set j (uu v) = (L.set j v).map uu := by rw [List.map_set]
theorem mks_u {n : Nat} (hn : n ≤ 16777216) (S : St) (c : Cont) : pMks [.i .u64 0] (nn n) (nn n) S c = c (.sl S.nx 0 n n) (S.new ((List.replicate n 0).map uu)) := by
  show gu (Bool.and (Bool.and (Bool.not (neg .i64 n)) (Bool.not (neg .i64 n))) (Bool.and (Nat.ble n n) (Nat.ble n 16777216))) (repK [.i .u64 0] n (fun cs => newK cs S (fun nx S' => c (.sl nx 0 n n) S'))) = _
  rw [neg_n (by omega), Nat.ble_eq_true_of_le hn, Nat.ble_eq_true_of_le (Nat.le_refl n), repK_one, newK_eq, List.map_replicate]; rfl
theorem ofL_set {B : Nat} : ∀ (L : List Nat) (j v : Nat), j < L.length → ofL B (L.set j v) + B ^ j * L.getD j 0 = ofL B L + B ^ j * v
  | [], j, v, h => by simp at h
  | x :: L, 0, v, h => by simp only [List.set_cons_zero, ofL, Nat.pow_zero, Nat.one_mul, List.getD_cons_zero]; omega
  | x :: L, j + 1, v, h => by
    have ih := ofL_set (B := B) L j v (by simpa using h)
    simp only [List.set_cons_succ, ofL, List.getD_cons_succ, Nat.pow_succ]
    have h1 : B ^ j * B * L.getD j 0 = B * (B ^ j * L.getD j 0) := by rw [Nat.mul_comm (B ^ j) B, Nat.mul_assoc]
    have h2 : B ^ j * B * v = B * (B ^ j * v) := by rw [Nat.mul_comm (B ^ j) B, Nat.mul_assoc]
    rw [h1, h2]
    have := congrArg (B * ·) ih
    simp only [Nat.mul_add] at this
    omega
theorem gset (L : List Nat) (j i v : Nat) : (L.set j v).getD i 0 = if i = j ∧ j < L.length then v else L.getD i 0 := by
  rw [List.getD_eq_getElem?_getD, List.getElem?_set, List.getD_eq_getElem?_getD]
  by_cases h : j = i
  · subst h
    by_cases h2 : j < L.length
    · simp [h2]
    · simp [h2, List.getElem?_eq_none (Nat.le_of_not_lt h2)]
  · rw [if_neg h, if_neg (fun e => h e.1.symm)]
/-- a row that stays while the block b is written -/
def TRow (S0 : St) (v : V) (l : List Nat) (S : St) (b : Pos) : Prop := v = .sn ∧ l = [] ∨ ∃ id cs, Own S0 S id cs ∧ id ≠ b ∧ ORow S0 id cs v l
theorem TRow.row {b : Pos} {v : V} {l : List Nat} (h : TRow S0 v l S b) : KRow .u64 S v l := by
  rcases h with ⟨rfl, rfl⟩ | ⟨id, cs, h1, _, h2⟩
  · rfl
  · exact h2 S h1
theorem TRow.step {b : Pos} {S' : St} {v : V} {l : List Nat} (h : TRow S0 v l S b) (hk : ∀ q ds, q ≠ b → Own S0 S q ds → Own S0 S' q ds) : TRow S0 v l S' b := by
  rcases h with h | ⟨id, cs, h1, h2, h3⟩
  · exact .inl h
  · exact .inr ⟨id, cs, hk id cs h2 h1, h2, h3⟩
theorem SRow.trow {v w : V} {l : List Nat} (h : SRow S0 v l S w) (r : Run S0 S) (cs : List V) : TRow S0 v l (S.new cs) S.nx := by
  rcases h with h | ⟨id, ds, h1, _, h3⟩
  · exact .inl h
  · obtain ⟨k1, k2⟩ := h1.keep r cs
    exact .inr ⟨id, ds, k1, k2, h3⟩
theorem orow (S0 : St) (id : Pos) (l : List Nat) (hl : l.length ≤ 1000000) : ORow S0 id (l.map uu) (.sl id 0 l.length l.length) l := fun S ⟨h0, n, h1, h2⟩ => ⟨rfl, Nat.le_refl _, by omega, _, h1, [], by simp⟩
theorem U.Own_get {id : Pos} {l : List Nat} {j : Nat} (h : Own S0 S id (l.map uu)) (hj : j < l.length) (c : V → R) : pLd (.p id j) S c = c (uu (l.getD j 0)) := by
  obtain ⟨h0, n, h1, h2⟩ := h
  exact pLd_eq h1 (by rw [List.getElem?_map, getD_of hj]; rfl) c
theorem idx_sl (id : Pos) {m i : Nat} (hi : i < m) (hm : m ≤ 1073741824) (c : V → R) : pIdx 1 (.sl id 0 m m) (nn i) c = c (.p id i) := Has.idx id hi hm c
theorem m_in {vx vy : V} {x y : List Nat} {io : Pos} {i m : Nat} (hx : ∀ z ∈ x, z < B32) (hy : ∀ z ∈ y, z < B32) (hi : i < x.length) (ly : y.length ≤ 90000) (hm : m ≤ 200000) (him : i + y.length ≤ m) :
    ∀ (N k c : Nat) (S : St) (L : List Nat) (v7 v10 : V), k ≤ y.length → y.length < N + k → L.length = m → Run S0 S → Own S0 S io (L.map uu) → TRow S0 vx x S io → TRow S0 vy y S io → (∀ z ∈ L, z < B32) → c < B32 →
    ∃ S' c' w10 L', Run S0 S' ∧ Own S0 S' io (L'.map uu) ∧ L'.length = m ∧ TRow S0 vx x S' io ∧ TRow S0 vy y S' io ∧ (∀ z ∈ L', z < B32) ∧ c' < B32 ∧ (∀ j, i + y.length ≤ j → L'.getD j 0 = L.getD j 0) ∧
      ofL B32 L' + B32 ^ (i + y.length) * c' = ofL B32 L + B32 ^ (i + k) * (c + x.getD i 0 * ofL B32 (y.drop k)) ∧
      ∀ (kx : Nat → Fn 12) (kr : Fn 12) (v0 v1 v5 v11 : V), loopN BI17 kx kr N v0 v1 vx vy (nn i) v5 (nn k) v7 (.sl io 0 m m) (uu c) v10 v11 S = kx 2 v0 v1 vx vy (nn i) v5 (nn y.length) (.b false) (.sl io 0 m m) (uu c') w10 v11 S'
  | 0, k, c, S, L, v7, v10, h1, h2, hL, r, ho, t1, t2, hl, hc => by omega
  | N + 1, k, c, S, L, v7, v10, h1, h2, hL, r, ho, t1, t2, hl, hc => by
    have e0 := t2.row.len.1
    by_cases hk : k < y.length
    · have eB : B32 = 4294967296 := rfl
      have bx := getD_lt hx (by decide) i
      have by' := getD_lt hy (by decide) k
      have bo := getD_lt hl (by decide) (i + k)
      have hxy : x.getD i 0 * y.getD k 0 ≤ 4294967295 * 4294967295 := Nat.mul_le_mul (by omega) (by omega)
      have hs : L.getD (i + k) 0 + x.getD i 0 * y.getD k 0 + c < 18446744073709551616 := by omega
      obtain ⟨q1, s1, s2⟩ := t1.row.get hi
      obtain ⟨q2, s3, s4⟩ := t2.row.get hk
      generalize hss : L.getD (i + k) 0 + x.getD i 0 * y.getD k 0 + c = s at *
      obtain ⟨S1, r1, o1, k1, a1⟩ := U.Own_put (x := uu (s % B32)) ho r (i := i + k) (by rw [List.length_map]; omega) (fun k => cellsK_i _ _ k)
      rw [map_set_uu] at o1
      have hc' : s / B32 < B32 := Nat.div_lt_of_lt_mul (by show s < 4294967296 * 4294967296; omega)
      obtain ⟨S', c', w10, L', z1, z2, z3, z4, z5, z6, z7, z8, z9, z10⟩ := m_in hx hy hi ly hm him N (k + 1) (s / B32) S1 (L.set (i + k) (s % B32)) (.b true) (uu s) (by omega) (by omega) (by rw [List.length_set]; exact hL) r1 o1 (t1.step k1) (t2.step k1) (fun z hz => by
        rcases List.mem_or_eq_of_mem_set hz with h | h
        · exact hl z h
        · rw [h]; exact Nat.mod_lt _ (by decide)) hc'
      refine ⟨S', c', w10, L', z1, z2, z3, z4, z5, z6, z7, fun j hj => ?_, ?_, fun kx kr v0 v1 v5 v11 => ?_⟩
      · rw [z8 j hj, gset, if_neg (by omega)]
      · rw [z9]
        have e1 := ofL_set (B := B32) L (i + k) (s % B32) (by omega)
        have e2 := dropG B32 y k
        have e3 := Nat.div_add_mod s B32
        rw [e2]
        generalize ofL B32 (y.drop (k + 1)) = Y at *
        generalize x.getD i 0 = X at *
        generalize y.getD k 0 = Yk at *
        generalize L.getD (i + k) 0 = O at *
        rw [show i + (k + 1) = (i + k) + 1 by omega, Nat.pow_succ]
        generalize B32 ^ (i + k) = P at *
        have f1 : P * B32 * (s / B32 + X * Y) = P * (B32 * (s / B32)) + P * (X * (B32 * Y)) := by
          rw [Nat.mul_assoc, Nat.mul_add, Nat.mul_add, Nat.mul_left_comm X B32 Y]
        have f2 : P * (c + X * (Yk + B32 * Y)) = P * c + P * (X * Yk) + P * (X * (B32 * Y)) := by
          rw [Nat.mul_add, Nat.mul_add, Nat.mul_add]; omega
        have f3 : P * s = P * (B32 * (s / B32)) + P * (s % B32) := by rw [← Nat.mul_add, e3]
        have f4 : P * s = P * O + P * (X * Yk) + P * c := by rw [← hss, Nat.mul_add, Nat.mul_add]
        rw [f1, f2]
        omega
      · rw [loopN_succ, mi_go (h0 := e0) (h1 := fun c => by rw [lss_n (by omega) (by omega), decide_eq_true hk]) (h2 := fun c => add_n (by omega) c) (h3 := fun c => idx_sl io (by omega) (by omega) c) (h4 := fun c => U.Own_get ho (by omega) c) (h5 := s1) (h6 := s2) (h7 := s3) (h8 := s4)
          (h9 := fun k => umul (by omega) k) (h10 := fun k => uadd (by omega) k) (h11 := fun k => by rw [uadd (by omega), hss]) (h12 := fun k => ulow _ k) (h13 := a1) (h14 := fun k => ushr32 _ k) (h15 := fun c => add_n (by omega) c)]
        exact z10 kx kr v0 v1 v5 v11
    · have : k = y.length := by omega
      subst this
      refine ⟨S, c, v10, L, r, ho, hL, t1, t2, hl, hc, fun j _ => rfl, ?_, fun kx kr v0 v1 v5 v11 => ?_⟩
      · rw [List.drop_length]; simp [ofL]
      · rw [loopN_succ, mi_end (h0 := e0) (h1 := fun c => by rw [lss_n (by omega) (by omega), decide_eq_false (by omega)])]
theorem m_out {vx vy : V} {x y : List Nat} {io : Pos} {m : Nat} (hx : ∀ z ∈ x, z < B32) (hy : ∀ z ∈ y, z < B32) (lx : x.length ≤ 90000) (ly : y.length ≤ 90000) (hm : m = x.length + y.length) :
    ∀ (N i : Nat) (S : St) (L : List Nat) (v5 v6 v7 v9 v10 : V), i ≤ x.length → x.length < N + i → L.length = m → Run S0 S → Own S0 S io (L.map uu) → TRow S0 vx x S io → TRow S0 vy y S io → (∀ z ∈ L, z < B32) → (∀ j, i + y.length ≤ j → L.getD j 0 = 0) →
    ofL B32 L + B32 ^ i * (ofL B32 (x.drop i) * ofL B32 y) = ofL B32 x * ofL B32 y →
    ∃ S' w6 w7 w9 w10 L', Run S0 S' ∧ Own S0 S' io (L'.map uu) ∧ L'.length = m ∧ (∀ z ∈ L', z < B32) ∧ ofL B32 L' = ofL B32 x * ofL B32 y ∧
      ∀ (kx : Nat → Fn 12) (kr : Fn 12) (v0 v1 v11 : V), loopN (BO17 (cBlock 2 (cLoop BI17))) kx kr N v0 v1 vx vy (nn i) v5 v6 v7 (.sl io 0 m m) v9 v10 v11 S = kx 0 v0 v1 vx vy (nn x.length) (.b false) w6 w7 (.sl io 0 m m) w9 w10 v11 S'
  | 0, i, S, L, v5, v6, v7, v9, v10, h1, h2, hL, r, ho, t1, t2, hl, hz, he => by omega
  | N + 1, i, S, L, v5, v6, v7, v9, v10, h1, h2, hL, r, ho, t1, t2, hl, hz, he => by
    have e0 := t1.row.len.1
    by_cases hi : i < x.length
    · obtain ⟨S1, c', w10, L1, z1, z2, z3, z4, z5, z6, z7, z8, z9, z10⟩ := m_in (i := i) (m := m) hx hy hi ly (by omega) (by omega) 1000000 0 0 S L v7 v10 (by omega) (by omega) hL r ho t1 t2 hl (by decide)
      obtain ⟨S2, r2, o2, k2, a2⟩ := U.Own_put (x := uu c') z2 z1 (i := i + y.length) (by rw [List.length_map]; omega) (fun k => cellsK_i _ _ k)
      rw [map_set_uu] at o2
      have hv : ofL B32 (L1.set (i + y.length) c') = ofL B32 L + B32 ^ i * (x.getD i 0 * ofL B32 y) := by
        have e1 := ofL_set (B := B32) L1 (i + y.length) c' (by omega)
        rw [z8 _ (Nat.le_refl _), hz _ (Nat.le_refl _), Nat.mul_zero, Nat.add_zero, z9] at e1
        rw [e1]; simp
      obtain ⟨S', w6', w7', w9', w10', L', y1, y2, y3, y4, y5, y6⟩ := m_out hx hy lx ly hm N (i + 1) S2 (L1.set (i + y.length) c') (.b true) (nn y.length) (.b false) (uu c') w10 (by omega) (by omega) (by rw [List.length_set]; exact z3) r2 o2 (z4.step k2) (z5.step k2) (fun z hz => by
        rcases List.mem_or_eq_of_mem_set hz with h | h
        · exact z6 z h
        · rw [h]; exact z7) (fun j hj => by rw [gset, if_neg (by omega), z8 j (by omega), hz j (by omega)]) (by
        rw [hv, ← he, dropG B32 x i, Nat.pow_succ]
        generalize ofL B32 (x.drop (i + 1)) = X
        generalize ofL B32 y = Y
        generalize x.getD i 0 = Xi
        generalize B32 ^ i = P
        have f1 : P * B32 * (X * Y) = P * (B32 * X * Y) := by rw [Nat.mul_assoc P, Nat.mul_assoc B32]
        have f2 : P * ((Xi + B32 * X) * Y) = P * (Xi * Y) + P * (B32 * X * Y) := by rw [Nat.add_mul, Nat.mul_add]
        rw [f1, f2]; omega)
      refine ⟨S', w6', w7', w9', w10', L', y1, y2, y3, y4, y5, fun kx kr v0 v1 v11 => ?_⟩
      rw [loopN_succ, mo_go (h0 := e0) (h1 := fun c => by rw [lss_n (by omega) (by omega), decide_eq_true hi]) (hI := fun kn kx kr => by
        obtain ⟨kx', e1, e2⟩ := block_loop2 BI17 kn kx kr
        rw [e2]
        refine (z10 kx' kr _ _ _ _).trans ?_
        rw [e1]) (h2 := t2.row.len.1) (h3 := fun c => add_n (by omega) c) (h4 := fun c => idx_sl io (by omega) (by omega) c) (h5 := a2) (h6 := fun c => add_n (by omega) c)]
      exact y6 kx kr v0 v1 v11
    · have : i = x.length := by omega
      subst this
      refine ⟨S, v6, v7, v9, v10, L, r, ho, hL, hl, ?_, fun kx kr v0 v1 v11 => ?_⟩
      · rw [← he, List.drop_length]; simp [ofL]
      · rw [loopN_succ, mo_end (h0 := e0) (h1 := fun c => by rw [lss_n (by omega) (by omega), decide_eq_false (by omega)])]
theorem mul_run {a b : List Nat} (ha : By a) (hb : By b) (la : a.length ≤ 50000) (lb : b.length ≤ 50000) (r : Run S0 S) : ∃ S', Run S0 S' ∧ ∀ k, F17 (.s a) (.s b) S k = k (.s (strN (U.val a * U.val b))) S' := by
  obtain ⟨S1, x, r1, x1, x2, x3⟩ := limbs_run ha (by omega) r
  obtain ⟨S2, y, r2, y1, y2, y3⟩ := limbs_run hb (by omega) r1
  have lx := len_dg ha
  have ly := len_dg hb
  generalize hX : dg B32 (U.val a) = X at *
  generalize hY : dg B32 (U.val b) = Y at *
  have vX : ofL B32 X = U.val a := by rw [← hX]; exact ofL_dg (by decide) _
  have vY : ofL B32 Y = U.val b := by rw [← hY]; exact ofL_dg (by decide) _
  have dX : ∀ z ∈ X, z < B32 := by rw [← hX]; exact dg_lt (by decide) _
  have dY : ∀ z ∈ Y, z < B32 := by rw [← hY]; exact dg_lt (by decide) _
  have sx := x1.srow.keep y2
  have sy := y1.srow
  have r3 := r2.new ((List.replicate (X.length + Y.length) 0).map uu)
  have zl : (List.replicate (X.length + Y.length) 0).length = X.length + Y.length := by simp
  have g0 : ∀ j, (List.replicate (X.length + Y.length) 0).getD j 0 = 0 := fun j => by
    rw [List.getD_eq_getElem?_getD, List.getElem?_replicate]; split <;> rfl
  have v0 : ∀ n, ofL B32 (List.replicate n 0) = 0 := fun n => by
    induction n with
    | zero => rfl
    | succ n ih => rw [List.replicate_succ, ofL, ih]; rfl
  obtain ⟨S', w6, w7, w9, w10, L', z1, z2, z3, z4, z5, z6⟩ := m_out (io := S2.nx) dX dY (by omega) (by omega) rfl 1000000 0 _ (List.replicate (X.length + Y.length) 0) .other .other .other .other .other (by omega) (by omega) zl r3 (Own.new r2 _) (sx.trow r2 _) (sy.trow r2 _) (fun z hz => by rw [(List.mem_replicate.1 hz).2]; decide) (fun j _ => g0 j) (by rw [v0]; simp)
  rw [vX, vY] at z5
  obtain ⟨S5, p1, p2, p3⟩ := pack_run (orow S0 S2.nx L' (by omega)) z2 z1 (by omega) z4
  rw [z5, z3] at p3
  refine ⟨S5, p1, fun k => ?_⟩
  unfold F17 G17
  rw [C17_eq, m_head (a := x) (b := y) (d := nn X.length) (g := nn Y.length) (t := nn (X.length + Y.length)) (o := .sl S2.nx 0 (X.length + Y.length) (X.length + Y.length)) (w4 := nn X.length) (w5 := .b false) (w6 := w6) (w7 := w7) (w9 := w9) (w10 := w10) (r := .s (strN (U.val a * U.val b))) (S1 := S1) (S2 := S2) (S3 := S2.new ((List.replicate (X.length + Y.length) 0).map uu)) (S4 := S') (S5 := S5) (h1 := x3) (h2 := y3)
    (h3 := sx.row.len.1) (h4 := sy.row.len.1) (h5 := fun c => add_n (by omega) c) (h6 := fun c => mks_u (by omega) S2 c) (hL := fun kn kx kr => ?_) (h7 := p3)]
  obtain ⟨kx', e1, e2⟩ := block_loop0 (BO17 (cBlock 2 (cLoop BI17))) kn kx kr
  rw [e2]
  refine (z6 kx' kr _ _ _).trans ?_
  rw [e1]
def F17t : Gn 2 := cur 2 (pureF (E2 (· * ·) 50000))
theorem K17t : FOK Tryz.prog 17 (un 2 F17t) := E2_ok K17 fun a b ha hb la lb => by
  obtain ⟨S', _, z⟩ := mul_run ha hb la lb mkS_run
  exact ⟨S', z⟩
end
end Go.AM
