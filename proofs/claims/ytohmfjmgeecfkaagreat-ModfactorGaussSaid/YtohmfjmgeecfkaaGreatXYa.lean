/- exact.trim, exact.words: the digits of a string to the base 2^64. -/
import Derived.Test.YtohmfjmgeecfkaaGreatXUb
namespace Go.AM
open Go.Proofs
open Go.AM.Q
open Go.AM.U
set_option linter.unusedVariables false
set_option linter.unusedSimpArgs false
noncomputable section
variable {S0 S : St} {out : V × St}
theorem block_loop_at (m : Nat) {n : Nat} (c : CS n) (kn : Fn n) (kx : Nat → Fn n) (kr : Fn n) : ∃ kx' : Nat → Fn n, kx' m = kn ∧ cBlock m (cLoop c) kn kx kr = loopN c kx' kr 1000000 :=
  ⟨fun id' => Bool.rec (fun kx kn => kx) (fun kx kn => kn) (Nat.beq id' m) (kx id') kn, by show Bool.rec (fun kx kn => kx) (fun kx kn => kn) (Nat.beq m m) (kx m) kn = kn; rw [Nat.beq_refl], by unfold cBlock cLoop; rfl⟩
/- trim -/
def B168 : CS 4 := (cSeq (cSeq (cReg fun kn v0 v1 v2 v3 S => pGtr v1 (.i .i64 0) (fun a0 => pGd a0 true (fun c => c v0 S) S (fun a1 S => pGd a0 true (fun c => c v1 S) S (fun a2 S => pGd a0 true (fun c => pSub a2 (.i .i64 1) (fun v => c v S)) S (fun a3 S => pGd a0 true (fun c => pIdx 1 a1 a3 (fun v => c v S)) S (fun a4 S => pGd a0 true (fun c => pLd a4 S (fun v => c v S)) S (fun a5 S => pGd a0 true (fun c => pEql a5 (.i .u64 0) (fun v => c v S)) S (fun a6 S => pPick a0 a6 (.b false) (fun a7 => kn v0 v1 a7 v3 S))))))))) (cCond (fun x y v0 v1 v2 v3 S => pIf v2 (x v0 v1 v2 v3 S) (y v0 v1 v2 v3 S)) cSkip (cExit 0))) (cBlock 1 (cReg fun kn v0 v1 v2 v3 S => pSub v1 (.i .i64 1) (fun a0 => kn v0 a0 v2 v3 S))))
def HT168 (I0 : CS 4) : CS 4 := (cSeq (cReg fun kn v0 v1 v2 v3 S => kn v0 v1 v2 .sn S) (cSeq (cReg fun kn v0 v1 v2 v3 S => pLen v0 (fun a0 => kn v0 a0 v2 v3 S)) (cSeq I0 (cSeq (cReg fun kn v0 v1 v2 v3 S => pSlc 1 v0 none (some v1) none (fun a0 => kn v0 v1 v2 a0 S)) cRet))))
theorem C168_eq : C168 = HT168 (cBlock 0 (cLoop B168)) := by rfl
section
variable (K : Fn 4) (kx : Nat → Fn 4) (kr : Fn 4) (v0 v1 v2 v3 a b q x r w1 w2 : V) (S S' : St)
theorem et_end (h2 : ∀ c, pGtr v1 (nn 0) c = c (.b false)) : B168 K kx kr v0 v1 v2 v3 S = kx 0 v0 v1 (.b false) v3 S := by
  simp only [B168, cSeq, cReg, cCond, cBlock, cSkip, cExit, cRet, h2, pGd_ft, pPick_f, ifF]
theorem et_stop (h2 : ∀ c, pGtr v1 (nn 0) c = c (.b true)) (h3 : ∀ c, pSub v1 (nn 1) c = c b) (h4 : ∀ c, pIdx 1 v0 b c = c q) (h5 : ∀ c, pLd q S c = c x) (h6 : ∀ c, pEql x (uu 0) c = c (.b false)) : B168 K kx kr v0 v1 v2 v3 S = kx 0 v0 v1 (.b false) v3 S := by
  simp only [B168, cSeq, cReg, cCond, cBlock, cSkip, cExit, cRet, h2, h3, h4, h5, h6, pGd_tt, pPick_t, ifF]
theorem et_go (h2 : ∀ c, pGtr v1 (nn 0) c = c (.b true)) (h3 : ∀ c, pSub v1 (nn 1) c = c b) (h4 : ∀ c, pIdx 1 v0 b c = c q) (h5 : ∀ c, pLd q S c = c x) (h6 : ∀ c, pEql x (uu 0) c = c (.b true)) : B168 K kx kr v0 v1 v2 v3 S = K v0 b (.b true) v3 S := by
  simp only [B168, cSeq, cReg, cCond, cBlock, cSkip, cExit, cRet, h2, h3, h4, h5, h6, pGd_tt, pPick_t, ifT]
theorem et_head (I0 : CS 4) (h1 : ∀ c, pLen v0 c = c a) (hL : ∀ (kn : Fn 4) (kx : Nat → Fn 4) (kr : Fn 4), I0 kn kx kr v0 a v2 .sn S = kn v0 w1 w2 .sn S) (h2 : ∀ c, pSlc 1 v0 none (some w1) none c = c r) : HT168 I0 K kx kr v0 v1 v2 v3 S = kr v0 w1 w2 r S := by
  simp only [HT168, cSeq, cReg, cCond, cBlock, cSkip, cExit, cRet, h1, hL, h2]
end
theorem et_loop {v : V} {l : List Nat} (h : KRow .u64 S v l) (hl : l.length ≤ 500000) : ∀ (N n : Nat) (v2 : V), n ≤ l.length → n < N → ∀ (kx : Nat → Fn 4) (kr : Fn 4) (v3 : V), loopN B168 kx kr N v (nn n) v2 v3 S = kx 0 v (nn (trimN l n)) (.b false) v3 S
  | 0, n, v2, h1, h2, kx, kr, v3 => by omega
  | N + 1, 0, v2, h1, h2, kx, kr, v3 => by
    rw [loopN_succ, et_end (h2 := fun c => by rw [gtr_n (by omega) (by omega)]; rfl)]; rfl
  | N + 1, n + 1, v2, h1, h2, kx, kr, v3 => by
    obtain ⟨q, e4, e5⟩ := h.get (i := n) (by omega)
    have e2 : ∀ c, pGtr (nn (n + 1)) (nn 0) c = c (.b true) := fun c => by rw [gtr_n (by omega) (by omega), decide_eq_true (by omega)]
    have e3 : ∀ c, pSub (nn (n + 1)) (nn 1) c = c (nn n) := fun c => by rw [sub_n (by omega) (by omega), Nat.add_sub_cancel]
    by_cases h0 : l.getD n 0 = 0
    · rw [loopN_succ, et_go (h2 := e2) (h3 := e3) (h4 := e4) (h5 := e5) (h6 := fun c => by rw [ueql, decide_eq_true h0])]
      rw [et_loop h hl N n (.b true) (by omega) (by omega)]
      simp only [trimN]
      rw [h0]; rfl
    · rw [loopN_succ, et_stop (h2 := e2) (h3 := e3) (h4 := e4) (h5 := e5) (h6 := fun c => by rw [ueql, decide_eq_false h0])]
      have ht : trimN l (n + 1) = n + 1 := by
        simp only [trimN]
        cases hb : Nat.beq (l.getD n 0) 0 with
        | true => exact absurd (Nat.eq_of_beq_eq_true hb) h0
        | false => rfl
      rw [ht]
theorem etrim_run {v : V} {l : List Nat} (h : KRow .u64 S v l) (hl : l.length ≤ 500000) : ∃ a, KRow .u64 S a (l.take (trimN l l.length)) ∧ Cut v a (trimN l l.length) ∧ ∀ k, F168 v S k = k a S := by
  obtain ⟨r, s1, s2, s3, s4, s5⟩ := h.slc (n := trimN l l.length) (trimN_le l l.length)
  refine ⟨r, s2, ⟨s3, s4, s5⟩, fun k => ?_⟩
  unfold F168 G168
  rw [C168_eq, et_head (a := nn l.length) (w1 := nn (trimN l l.length)) (w2 := .b false) (r := r) (h1 := h.len.1) (hL := fun kn kx kr => ?_) (h2 := s1)]
  obtain ⟨kx', e1, e2⟩ := block_loop_at 0 B168 kn kx kr
  rw [e2, et_loop h hl 1000000 l.length _ (Nat.le_refl _) (by omega), e1]
/-- the digits of a number in a block of one's own, with something behind them -/
def Wd (S0 S : St) (id : Pos) (m : Nat) (l : List Nat) : Prop := ∃ t, l.length + t.length = m ∧ m ≤ 500000 ∧ Own S0 S id (l.map uu ++ t)
theorem Wd.row {id : Pos} {m : Nat} {l : List Nat} (h : Wd S0 S id m l) : KRow .u64 S (.sl id 0 l.length m) l := by
  obtain ⟨t, h1, h2, h0, n, h3, h4⟩ := h
  exact ⟨rfl, by omega, by omega, _, h3, t, by simp⟩
theorem Wd.trow {id b : Pos} {m : Nat} {l : List Nat} (h : Wd S0 S id m l) (hne : id ≠ b) : TRow S0 (.sl id 0 l.length m) l S b := by
  obtain ⟨t, h1, h2, h3⟩ := h
  exact .inr ⟨id, _, h3, hne, fun S' ⟨h0, n, h4, h5⟩ => ⟨rfl, by omega, by omega, _, h4, t, by simp⟩⟩
theorem Wd.trim {id : Pos} {m : Nat} {l : List Nat} (h : Wd S0 S id m l) (hb : ∀ x ∈ l, x < M64) : Wd S0 S id m (dg M64 (ofL M64 l)) ∧ ∀ k, F168 (.sl id 0 l.length m) S k = k (.sl id 0 (dg M64 (ofL M64 l)).length m) S := by
  obtain ⟨a, r1, r2, r3⟩ := etrim_run h.row (by obtain ⟨t, h1, h2, _⟩ := h; omega)
  have hd := trim_dg (B := M64) (by decide) l hb
  have hle := trimN_le l l.length
  have hlen : (dg M64 (ofL M64 l)).length = trimN l l.length := by rw [← hd, List.length_take]; omega
  refine ⟨?_, fun k => by rw [r3, r2.2.1 _ _ _ rfl, hlen]⟩
  obtain ⟨t, h1, h2, h3⟩ := h
  refine ⟨(l.drop (trimN l l.length)).map uu ++ t, by rw [hlen, List.length_append, List.length_map, List.length_drop]; omega, h2, ?_⟩
  rw [← hd, ← List.append_assoc, ← List.map_append, List.take_append_drop]; exact h3
/- words -/
def B137 : CS 8 := (cSeq (cReg fun kn v0 v1 v2 v3 v4 v5 v6 v7 S => pLss v1 v2 (fun a0 => kn v0 v1 v2 a0 v4 v5 v6 v7 S)) (cSeq (cCond (fun x y v0 v1 v2 v3 v4 v5 v6 v7 S => pIf v3 (x v0 v1 v2 v3 v4 v5 v6 v7 S) (y v0 v1 v2 v3 v4 v5 v6 v7 S)) cSkip (cExit 0)) (cSeq (cBlock 1 (cSeq (cReg fun kn v0 v1 v2 v3 v4 v5 v6 v7 S => kn v0 v1 v2 v3 v1 v5 v6 v7 S) (cSeq (cReg fun kn v0 v1 v2 v3 v4 v5 v6 v7 S => pLenS v0 (fun a0 => pSub a0 (.i .i64 1) (fun a1 => pSub a1 v4 (fun a2 => kn v0 v1 v2 v3 v4 v5 a2 v7 S)))) (cReg fun kn v0 v1 v2 v3 v4 v5 v6 v7 S => pQuo v6 (.i .i64 8) (fun a0 => pIdx 1 v5 a0 (fun a1 => pLd a1 S (fun a2 => pSidx v0 v4 (fun a3 => pConv .u64 a3 (fun a4 => pRem v6 (.i .i64 8) (fun a5 => pMul (.i .i64 8) a5 (fun a6 => pShl a4 a6 (fun a7 => pOr a2 a7 (fun a8 => pIdx 1 v5 a0 (fun a9 => pSt 1 a9 a8 S (fun S => kn v0 v1 v2 v3 v4 v5 v6 v7 S))))))))))))))) (cReg fun kn v0 v1 v2 v3 v4 v5 v6 v7 S => pAdd v1 (.i .i64 1) (fun a0 => kn v0 a0 v2 v3 v4 v5 v6 v7 S)))))
def HT137 (f168 : Gn 1) (I0 : CS 8) : CS 8 := (cSeq (cReg fun kn v0 v1 v2 v3 v4 v5 v6 v7 S => kn v0 v1 v2 v3 v4 v5 v6 .sn S) (cSeq (cReg fun kn v0 v1 v2 v3 v4 v5 v6 v7 S => pLenS v0 (fun a0 => pAdd a0 (.i .i64 7) (fun a1 => pQuo a1 (.i .i64 8) (fun a2 => pMks [(.i .u64 0)] a2 a2 S (fun a3 S => kn v0 v1 v2 v3 v4 a3 v6 v7 S))))) (cSeq (cSeq (cReg fun kn v0 v1 v2 v3 v4 v5 v6 v7 S => pLenS v0 (fun a0 => kn v0 (.i .i64 0) a0 v3 v4 v5 v6 v7 S)) I0) (cSeq (cReg fun kn v0 v1 v2 v3 v4 v5 v6 v7 S => f168 v5 S (fun a0 S => kn v0 v1 v2 v3 v4 v5 v6 a0 S)) cRet))))
theorem C137_eq (f168 : Gn 1) : C137 f168 = HT137 f168 (cBlock 0 (cLoop B137)) := by rfl
section
variable (f168 : Gn 1) (K : Fn 8) (kx : Nat → Fn 8) (kr : Fn 8) (v0 v1 v2 v3 v4 v5 v6 v7 a b d j q x y z o r s t uv n' w1 w2 w3 w4 w5 w6 : V) (S S1 S2 : St)
theorem ew_end (h1 : ∀ c, pLss v1 v2 c = c (.b false)) : B137 K kx kr v0 v1 v2 v3 v4 v5 v6 v7 S = kx 0 v0 v1 v2 (.b false) v4 v5 v6 v7 S := by
  simp only [B137, cSeq, cReg, cCond, cBlock, cSkip, cExit, cRet, h1, ifF]
theorem ew_go (h1 : ∀ c, pLss v1 v2 c = c (.b true)) (h2 : ∀ c, pLenS v0 c = c a) (h3 : ∀ c, pSub a (nn 1) c = c b) (h4 : ∀ c, pSub b v1 c = c d) (h5 : ∀ c, pQuo d (nn 8) c = c j) (h6 : ∀ c, pIdx 1 v5 j c = c q) (h7 : ∀ c, pLd q S c = c x)
    (h8 : ∀ c, pSidx v0 v1 c = c y) (h9 : ∀ c, pConv .u64 y c = c z) (h10 : ∀ c, pRem d (nn 8) c = c r) (h11 : ∀ c, pMul (nn 8) r c = c s) (h12 : ∀ c, pShl z s c = c t) (h13 : ∀ c, pOr x t c = c uv) (h14 : ∀ c, pSt 1 q uv S c = c S1) (h15 : ∀ c, pAdd v1 (nn 1) c = c n') :
    B137 K kx kr v0 v1 v2 v3 v4 v5 v6 v7 S = K v0 n' v2 (.b true) v1 v5 d v7 S1 := by
  simp only [B137, cSeq, cReg, cCond, cBlock, cSkip, cExit, cRet, h1, h2, h3, h4, h5, h6, h7, h8, h9, h10, h11, h12, h13, h14, h15, ifT]
theorem ew_head (I0 : CS 8) (h1 : ∀ c, pLenS v0 c = c a) (h2 : ∀ c, pAdd a (nn 7) c = c b) (h3 : ∀ c, pQuo b (nn 8) c = c d) (h4 : ∀ c : Cont, pMks [.i .u64 0] d d S c = c o S1)
    (hL : ∀ (kn : Fn 8) (kx : Nat → Fn 8) (kr : Fn 8), I0 kn kx kr v0 (nn 0) a v3 v4 o v6 .sn S1 = kn v0 w1 w2 w3 w4 o w6 .sn S2) (h5 : ∀ c, f168 o S2 c = c r S2) :
    HT137 f168 I0 K kx kr v0 v1 v2 v3 v4 v5 v6 v7 S = kr v0 w1 w2 w3 w4 o w6 r S2 := by
  simp only [HT137, cSeq, cReg, cCond, cBlock, cSkip, cExit, cRet, h1, h2, h3, h4, hL, h5]
end
theorem ushl {x s : Nat} (hs : s ≤ 63) (hx : x * 2 ^ s < 18446744073709551616) (c : V → R) : pShl (uu x) (nn s) c = c (uu (x * 2 ^ s)) := by
  have e : pShl (uu x) (nn s) c = gu (Bool.not (neg .i64 s)) (retI c .u64 (Nat.mod (Nat.mul x (Nat.pow 2 (minN s (bits .u64)))) (M .u64))) := by rfl
  rw [e, neg_n (by omega)]
  show retI c .u64 (Nat.mod (Nat.mul x (Nat.pow 2 (minN s 64))) (M .u64)) = _
  have hm : minN s 64 = s := by
    unfold minN
    rw [Nat.ble_eq_true_of_le (show s ≤ 64 by omega)]
  rw [retI_eq, hm]
  have : Nat.mod (Nat.mul x (Nat.pow 2 s)) (M .u64) = x * 2 ^ s := Nat.mod_eq_of_lt hx
  rw [this]
theorem uor (a b : Nat) (c : V → R) : pOr (uu a) (uu b) c = c (uu (a ||| b)) := by
  have e : pOr (uu a) (uu b) c = retI c .u64 (Nat.lor a b) := two_i ..
  rw [e, retI_eq]; rfl
theorem getD_ofL {B : Nat} (hB : 0 < B) : ∀ (l : List Nat), (∀ x ∈ l, x < B) → ∀ j, l.getD j 0 = ofL B l / B ^ j % B
  | [], h, j => by simp [ofL]
  | x :: l, h, 0 => by
    have := h x (List.mem_cons_self ..)
    simp only [ofL, List.getD_cons_zero, Nat.pow_zero, Nat.div_one, Nat.add_mul_mod_self_left]
    exact (Nat.mod_eq_of_lt this).symm
  | x :: l, h, j + 1 => by
    have h1 := h x (List.mem_cons_self ..)
    rw [List.getD_cons_succ, getD_ofL hB l (fun y hy => h y (List.mem_cons_of_mem _ hy)) j, ofL, Nat.pow_succ, Nat.mul_comm (B ^ j) B, ← Nat.div_div_eq_div_mul, Nat.add_mul_div_left _ _ hB, Nat.div_eq_of_lt h1, Nat.zero_add]
theorem pow64 (j : Nat) : M64 ^ j = 256 ^ (8 * j) := by rw [Nat.pow_mul]
theorem word_or (p x r : Nat) (hr : r < 8) (hx : x < 256) : (p * 256 ^ (r + 1) % M64) ||| x * 256 ^ r = p * 256 ^ (r + 1) % M64 + x * 256 ^ r ∧ p * 256 ^ (r + 1) % M64 + x * 256 ^ r < M64 := by
  have e64 : M64 = 256 ^ (r + 1) * 256 ^ (7 - r) := by
    rw [← Nat.pow_add, show r + 1 + (7 - r) = 8 by omega]
  have h1 : p * 256 ^ (r + 1) % M64 = 256 ^ (r + 1) * (p % 256 ^ (7 - r)) := by rw [e64, Nat.mul_comm p, Nat.mul_mod_mul_left]
  have h2 : x * 256 ^ r < 256 ^ (r + 1) := by
    rw [Nat.pow_succ, Nat.mul_comm]
    exact Nat.mul_lt_mul_of_pos_left hx (Nat.pow_pos (by decide))
  have h3 : p % 256 ^ (7 - r) < 256 ^ (7 - r) := Nat.mod_lt _ (Nat.pow_pos (by decide))
  rw [h1]
  constructor
  · have e2 : (256 : Nat) ^ (r + 1) = 2 ^ (8 * (r + 1)) := by rw [Nat.pow_mul]
    rw [e2] at h2 ⊢
    exact (Nat.two_pow_add_eq_or_of_lt h2 _).symm
  · have h4 : 256 ^ (r + 1) * (p % 256 ^ (7 - r) + 1) ≤ 256 ^ (r + 1) * 256 ^ (7 - r) := Nat.mul_le_mul_left _ h3
    rw [← e64, Nat.mul_add, Nat.mul_one] at h4
    omega
theorem ew_loop {b : List Nat} {io : Pos} {m : Nat} (hb : By b) (hl : b.length ≤ 400000) (hm : m = (b.length + 7) / 8) : ∀ (N i : Nat) (S : St) (W : List Nat) (v3 v4 v6 : V), i ≤ b.length → b.length < N + i → Run S0 S → Own S0 S io (W.map uu) → W.length = m → (∀ z ∈ W, z < M64) → ofL M64 W = pv b i * 256 ^ (b.length - i) →
    ∃ S' w4 w6 W', Run S0 S' ∧ Own S0 S' io (W'.map uu) ∧ W'.length = m ∧ (∀ z ∈ W', z < M64) ∧ ofL M64 W' = U.val b ∧ (∀ q ds, q ≠ io → Own S0 S q ds → Own S0 S' q ds) ∧
      ∀ (kx : Nat → Fn 8) (kr : Fn 8) (v7 : V), loopN B137 kx kr N (.s b) (nn i) (nn b.length) v3 v4 (.sl io 0 m m) v6 v7 S = kx 0 (.s b) (nn b.length) (nn b.length) (.b false) w4 (.sl io 0 m m) w6 v7 S'
  | 0, i, S, W, v3, v4, v6, h1, h2, r, ho, hW, hz, hv => by omega
  | N + 1, i, S, W, v3, v4, v6, h1, h2, r, ho, hW, hz, hv => by
    by_cases hi : i < b.length
    · obtain ⟨k, hk⟩ : ∃ k, b.length = i + k + 1 := ⟨b.length - i - 1, by omega⟩
      have hx := hb.get i
      have hr : k % 8 < 8 := Nat.mod_lt _ (by decide)
      have hkj := Nat.div_add_mod k 8
      have hj : k / 8 < W.length := by omega
      have hg : W.getD (k / 8) 0 = pv b i * 256 ^ (k % 8 + 1) % M64 := by
        rw [getD_ofL (by decide) W hz, hv, pow64, show b.length - i = 8 * (k / 8) + (k % 8 + 1) by omega, Nat.pow_add, Nat.mul_left_comm, Nat.mul_div_cancel_left _ (Nat.pow_pos (by decide))]
      obtain ⟨g1, g2⟩ := word_or (pv b i) (b.getD i 0) (k % 8) hr hx
      have hp2 : b.getD i 0 * 2 ^ (8 * (k % 8)) = b.getD i 0 * 256 ^ (k % 8) := by rw [Nat.pow_mul]
      obtain ⟨S1, r1, o1, k1, a1⟩ := U.Own_put (x := uu (W.getD (k / 8) 0 + b.getD i 0 * 256 ^ (k % 8))) ho r (i := k / 8) (by rw [List.length_map]; exact hj) (fun k => cellsK_i _ _ k)
      rw [map_set_uu] at o1
      have hs := ofL_set (B := M64) W (k / 8) (W.getD (k / 8) 0 + b.getD i 0 * 256 ^ (k % 8)) hj
      have hs2 : ofL M64 (W.set (k / 8) (W.getD (k / 8) 0 + b.getD i 0 * 256 ^ (k % 8))) = pv b (i + 1) * 256 ^ (b.length - (i + 1)) := by
        rw [Nat.mul_add, hv] at hs
        have e1 : M64 ^ (k / 8) * (b.getD i 0 * 256 ^ (k % 8)) = b.getD i 0 * 256 ^ k := by
          rw [pow64, Nat.mul_left_comm, ← Nat.pow_add, hkj]
        have e2 : pv b (i + 1) * 256 ^ (b.length - (i + 1)) = pv b i * 256 ^ (b.length - i) + b.getD i 0 * 256 ^ k := by
          rw [show b.length - (i + 1) = k by omega, show b.length - i = k + 1 by omega, Nat.pow_succ]
          show (pv b i * 256 + b.getD i 0) * 256 ^ k = _
          rw [Nat.add_mul, Nat.mul_assoc, Nat.mul_comm 256]
        rw [e1] at hs
        rw [e2]; omega
      obtain ⟨S', w4, w6, W', z1, z2, z3, z4, z5, z6, z7⟩ := ew_loop hb hl hm N (i + 1) S1 (W.set (k / 8) (W.getD (k / 8) 0 + b.getD i 0 * 256 ^ (k % 8))) (.b true) (nn i) (nn k) hi (by omega) r1 o1 (by rw [List.length_set]; exact hW) (fun z h => by
        rcases List.mem_or_eq_of_mem_set h with h | h
        · exact hz z h
        · rw [h, hg]; exact g2) hs2
      refine ⟨S', w4, w6, W', z1, z2, z3, z4, z5, fun q ds hq h => z6 q ds hq (k1 q ds hq h), fun kx kr v7 => ?_⟩
      rw [loopN_succ, ew_go (h1 := fun c => by rw [lss_n (by omega) (by omega), decide_eq_true hi]) (h2 := fun c => lenS (by omega) c) (h3 := fun c => sub_n (by omega) (by omega) c) (h4 := fun c => by rw [sub_n (by omega) (by omega), show b.length - 1 - i = k by omega]) (h5 := fun c => quo_n (by omega) (by omega) (by omega) c)
        (h6 := fun c => idx_sl io (by omega) (by omega) c) (h7 := fun c => U.Own_get ho hj c) (h8 := fun c => sidx hi (by omega) c) (h9 := fun c => conv8u hx c) (h10 := fun c => rem_n (by omega) (by omega) (by omega) c) (h11 := fun c => mul_n (by omega) c) (h12 := fun c => ushl (by omega) (by rw [hp2]; have eM : M64 = 18446744073709551616 := rfl; omega) c) (h13 := fun c => by rw [uor, hp2, hg, g1, ← hg]) (h14 := a1) (h15 := fun c => add_n (by omega) c)]
      exact z7 kx kr v7
    · have : i = b.length := by omega
      subst this
      refine ⟨S, v4, v6, W, r, ho, hW, hz, ?_, fun q ds _ h => h, fun kx kr v7 => ?_⟩
      · rw [hv, Nat.sub_self, Nat.pow_zero, Nat.mul_one]; rfl
      · rw [loopN_succ, ew_end (h1 := fun c => by rw [lss_n (by omega) (by omega), decide_eq_false (by omega)])]
theorem ofL_rep (B n : Nat) : ofL B (List.replicate n 0) = 0 := by
  induction n with
  | zero => rfl
  | succ n ih => rw [List.replicate_succ, ofL, ih]; rfl
theorem words_run {b : List Nat} (hb : By b) (hl : b.length ≤ 400000) (r : Run S0 S) : ∃ S' id m, Run S0 S' ∧ Wd S0 S' id m (dg M64 (U.val b)) ∧ (∀ q ds, Own S0 S q ds → Own S0 S' q ds ∧ q ≠ id) ∧ ∀ k, F137 (.s b) S k = k (.sl id 0 (dg M64 (U.val b)).length m) S' := by
  have hm : (b.length + 7) / 8 ≤ 100000 := by omega
  obtain ⟨S', w4, w6, W', z1, z2, z3, z4, z5, z6, z7⟩ := ew_loop (io := S.nx) hb hl rfl 1000000 0 (S.new ((List.replicate ((b.length + 7) / 8) 0).map uu)) (List.replicate ((b.length + 7) / 8) 0) .other .other .other (by omega) (by omega) (r.new _) (Own.new r _) (List.length_replicate ..) (fun z h => by rw [List.eq_of_mem_replicate h]; decide) (by rw [ofL_rep]; simp [pv])
  have hw : Wd S0 S' S.nx ((b.length + 7) / 8) W' := ⟨[], by simpa using z3, by omega, by simpa using z2⟩
  obtain ⟨t1, t2⟩ := hw.trim z4
  rw [z5] at t1 t2
  rw [z3] at t2
  refine ⟨S', S.nx, (b.length + 7) / 8, z1, t1, fun q ds h => ?_, fun k => ?_⟩
  · obtain ⟨k1, k2⟩ := h.keep r ((List.replicate ((b.length + 7) / 8) 0).map uu)
    exact ⟨z6 q ds k2 k1, k2⟩
  · unfold F137 G137
    rw [C137_eq, ew_head (a := nn b.length) (w1 := nn b.length) (w2 := nn b.length) (w3 := .b false) (w4 := w4) (w6 := w6) (o := .sl S.nx 0 ((b.length + 7) / 8) ((b.length + 7) / 8)) (S2 := S') (h1 := fun c => lenS (by omega) c) (h2 := fun c => add_n (by omega) c) (h3 := fun c => quo_n (by omega) (by omega) (by omega) c) (h4 := fun c => mks_u (by omega) S c) (hL := fun kn kx kr => ?_) (h5 := t2)]
    obtain ⟨kx', e1, e2⟩ := block_loop_at 0 B137 kn kx kr
    rw [e2]
    refine (z7 kx' kr _).trans ?_
    rw [e1]
end
end Go.AM

/- exact.pack: the string of digits to the base 2^64. -/
namespace Go.AM
open Go.Proofs
open Go.AM.Q
open Go.AM.U
set_option linter.unusedVariables false
set_option linter.unusedSimpArgs false
noncomputable section
variable {S0 S : St} {out : V × St}
def BI139 : CS 15 := (cSeq (cReg fun kn v0 v1 v2 v3 v4 v5 v6 v7 v8 v9 v10 v11 v12 v13 v14 S => pLss v6 (.i .i64 8) (fun a0 => kn v0 v1 v2 v3 v4 v5 v6 a0 v8 v9 v10 v11 v12 v13 v14 S)) (cSeq (cCond (fun x y v0 v1 v2 v3 v4 v5 v6 v7 v8 v9 v10 v11 v12 v13 v14 S => pIf v7 (x v0 v1 v2 v3 v4 v5 v6 v7 v8 v9 v10 v11 v12 v13 v14 S) (y v0 v1 v2 v3 v4 v5 v6 v7 v8 v9 v10 v11 v12 v13 v14 S)) cSkip (cExit 2)) (cSeq (cBlock 3 (cSeq (cReg fun kn v0 v1 v2 v3 v4 v5 v6 v7 v8 v9 v10 v11 v12 v13 v14 S => kn v0 v1 v2 v3 v4 v5 v6 v7 v8 v9 v6 v11 v12 v13 v14 S) (cReg fun kn v0 v1 v2 v3 v4 v5 v6 v7 v8 v9 v10 v11 v12 v13 v14 S => pLen v8 (fun a0 => pSub a0 (.i .i64 1) (fun a1 => pMul (.i .i64 8) v9 (fun a2 => pSub a1 a2 (fun a3 => pSub a3 v10 (fun a4 => pMul (.i .i64 8) v10 (fun a5 => pShr v11 a5 (fun a6 => pConv .u8 a6 (fun a7 => pIdx 1 v8 a4 (fun a8 => pSt 1 a8 a7 S (fun S => kn v0 v1 v2 v3 v4 v5 v6 v7 v8 v9 v10 v11 v12 v13 v14 S))))))))))))) (cReg fun kn v0 v1 v2 v3 v4 v5 v6 v7 v8 v9 v10 v11 v12 v13 v14 S => pAdd v6 (.i .i64 1) (fun a0 => kn v0 v1 v2 v3 v4 v5 a0 v7 v8 v9 v10 v11 v12 v13 v14 S)))))
def BO139 (I1 : CS 15) : CS 15 := (cSeq (cReg fun kn v0 v1 v2 v3 v4 v5 v6 v7 v8 v9 v10 v11 v12 v13 v14 S => pLss v2 v3 (fun a0 => kn v0 v1 v2 v3 a0 v5 v6 v7 v8 v9 v10 v11 v12 v13 v14 S)) (cSeq (cCond (fun x y v0 v1 v2 v3 v4 v5 v6 v7 v8 v9 v10 v11 v12 v13 v14 S => pIf v4 (x v0 v1 v2 v3 v4 v5 v6 v7 v8 v9 v10 v11 v12 v13 v14 S) (y v0 v1 v2 v3 v4 v5 v6 v7 v8 v9 v10 v11 v12 v13 v14 S)) cSkip (cExit 0)) (cSeq (cBlock 1 (cSeq (cReg fun kn v0 v1 v2 v3 v4 v5 v6 v7 v8 v9 v10 v11 v12 v13 v14 S => pIdx 1 v5 v2 (fun a0 => pLd a0 S (fun a1 => kn v0 v1 v2 v3 v4 v5 v6 v7 v8 v2 v10 a1 v12 v13 v14 S))) (cSeq (cReg fun kn v0 v1 v2 v3 v4 v5 v6 v7 v8 v9 v10 v11 v12 v13 v14 S => kn v0 v1 v2 v3 v4 v5 (.i .i64 0) v7 v8 v9 v10 v11 v12 v13 v14 S) I1))) (cReg fun kn v0 v1 v2 v3 v4 v5 v6 v7 v8 v9 v10 v11 v12 v13 v14 S => pAdd v2 (.i .i64 1) (fun a0 => kn v0 v1 a0 v3 v4 v5 v6 v7 v8 v9 v10 v11 v12 v13 v14 S)))))
def BZ139 : CS 15 := (cSeq (cSeq (cReg fun kn v0 v1 v2 v3 v4 v5 v6 v7 v8 v9 v10 v11 v12 v13 v14 S => pIdx 1 v8 v12 (fun a0 => pLd a0 S (fun a1 => pEql a1 (.i .u8 0) (fun a2 => kn v0 v1 v2 v3 v4 v5 v6 v7 v8 v9 v10 v11 v12 a2 v14 S)))) (cCond (fun x y v0 v1 v2 v3 v4 v5 v6 v7 v8 v9 v10 v11 v12 v13 v14 S => pIf v13 (x v0 v1 v2 v3 v4 v5 v6 v7 v8 v9 v10 v11 v12 v13 v14 S) (y v0 v1 v2 v3 v4 v5 v6 v7 v8 v9 v10 v11 v12 v13 v14 S)) cSkip (cExit 4))) (cBlock 5 (cReg fun kn v0 v1 v2 v3 v4 v5 v6 v7 v8 v9 v10 v11 v12 v13 v14 S => pAdd v12 (.i .i64 1) (fun a0 => kn v0 v1 v2 v3 v4 v5 v6 v7 v8 v9 v10 v11 a0 v13 v14 S))))
def HT139 (f168 : Gn 1) (I0 I2 : CS 15) : CS 15 := (cSeq (cReg fun kn v0 v1 v2 v3 v4 v5 v6 v7 v8 v9 v10 v11 v12 v13 v14 S => kn v0 v1 v2 v3 v4 v5 v6 v7 v8 v9 v10 v11 v12 v13 (.s []) S) (cSeq (cReg fun kn v0 v1 v2 v3 v4 v5 v6 v7 v8 v9 v10 v11 v12 v13 v14 S => f168 v0 S (fun a0 S => kn a0 v1 v2 v3 v4 v5 v6 v7 v8 v9 v10 v11 v12 v13 v14 S)) (cSeq (cSeq (cReg fun kn v0 v1 v2 v3 v4 v5 v6 v7 v8 v9 v10 v11 v12 v13 v14 S => pLen v0 (fun a0 => pEql a0 (.i .i64 0) (fun a1 => kn v0 a1 v2 v3 v4 v5 v6 v7 v8 v9 v10 v11 v12 v13 v14 S))) (cCond (fun x y v0 v1 v2 v3 v4 v5 v6 v7 v8 v9 v10 v11 v12 v13 v14 S => pIf v1 (x v0 v1 v2 v3 v4 v5 v6 v7 v8 v9 v10 v11 v12 v13 v14 S) (y v0 v1 v2 v3 v4 v5 v6 v7 v8 v9 v10 v11 v12 v13 v14 S)) (cSeq (cReg fun kn v0 v1 v2 v3 v4 v5 v6 v7 v8 v9 v10 v11 v12 v13 v14 S => kn v0 v1 v2 v3 v4 v5 v6 v7 v8 v9 v10 v11 v12 v13 (.s []) S) cRet) cSkip)) (cSeq (cReg fun kn v0 v1 v2 v3 v4 v5 v6 v7 v8 v9 v10 v11 v12 v13 v14 S => pLen v0 (fun a0 => pMul (.i .i64 8) a0 (fun a1 => pMks [(.i .u8 0)] a1 a1 S (fun a2 S => kn v0 v1 v2 v3 v4 v5 v6 v7 a2 v9 v10 v11 v12 v13 v14 S)))) (cSeq (cSeq (cReg fun kn v0 v1 v2 v3 v4 v5 v6 v7 v8 v9 v10 v11 v12 v13 v14 S => pLen v0 (fun a0 => kn v0 v1 (.i .i64 0) a0 v4 v0 v6 v7 v8 v9 v10 v11 v12 v13 v14 S)) I0) (cSeq (cReg fun kn v0 v1 v2 v3 v4 v5 v6 v7 v8 v9 v10 v11 v12 v13 v14 S => kn v0 v1 v2 v3 v4 v5 v6 v7 v8 v9 v10 v11 (.i .i64 0) v13 v14 S) (cSeq I2 (cSeq (cReg fun kn v0 v1 v2 v3 v4 v5 v6 v7 v8 v9 v10 v11 v12 v13 v14 S => pSlc 1 v8 (some v12) none none (fun a0 => pB2s a0 S (fun a1 => kn v0 v1 v2 v3 v4 v5 v6 v7 v8 v9 v10 v11 v12 v13 a1 S))) cRet))))))))
theorem C139_eq (f168 : Gn 1) : C139 f168 = HT139 f168 (cBlock 0 (cLoop (BO139 (cBlock 2 (cLoop BI139))))) (cBlock 4 (cLoop BZ139)) := by rfl
section
variable (f168 : Gn 1) (K : Fn 15) (kx : Nat → Fn 15) (kr : Fn 15) (v0 v1 v2 v3 v4 v5 v6 v7 v8 v9 v10 v11 v12 v13 v14 a b d e g j q x y o p r n n' w1 w2 w3 w4 w5 w6 w7 w9 w10 w11 w12 w13 : V) (S S1 S2 : St)
theorem ei_end (h1 : ∀ c, pLss v6 (nn 8) c = c (.b false)) : BI139 K kx kr v0 v1 v2 v3 v4 v5 v6 v7 v8 v9 v10 v11 v12 v13 v14 S = kx 2 v0 v1 v2 v3 v4 v5 v6 (.b false) v8 v9 v10 v11 v12 v13 v14 S := by
  simp only [BI139, cSeq, cReg, cCond, cBlock, cSkip, cExit, cRet, h1, ifF]
theorem ei_go (h1 : ∀ c, pLss v6 (nn 8) c = c (.b true)) (h2 : ∀ c, pLen v8 c = c a) (h3 : ∀ c, pSub a (nn 1) c = c b) (h4 : ∀ c, pMul (nn 8) v9 c = c d) (h5 : ∀ c, pSub b d c = c e) (h6 : ∀ c, pSub e v6 c = c g) (h7 : ∀ c, pMul (nn 8) v6 c = c j) (h8 : ∀ c, pShr v11 j c = c x) (h9 : ∀ c, pConv .u8 x c = c y)
    (h10 : ∀ c, pIdx 1 v8 g c = c q) (h11 : ∀ c, pSt 1 q y S c = c S1) (h12 : ∀ c, pAdd v6 (nn 1) c = c n') : BI139 K kx kr v0 v1 v2 v3 v4 v5 v6 v7 v8 v9 v10 v11 v12 v13 v14 S = K v0 v1 v2 v3 v4 v5 n' (.b true) v8 v9 v6 v11 v12 v13 v14 S1 := by
  simp only [BI139, cSeq, cReg, cCond, cBlock, cSkip, cExit, cRet, h1, h2, h3, h4, h5, h6, h7, h8, h9, h10, h11, h12, ifT]
theorem eo_end (I1 : CS 15) (h1 : ∀ c, pLss v2 v3 c = c (.b false)) : BO139 I1 K kx kr v0 v1 v2 v3 v4 v5 v6 v7 v8 v9 v10 v11 v12 v13 v14 S = kx 0 v0 v1 v2 v3 (.b false) v5 v6 v7 v8 v9 v10 v11 v12 v13 v14 S := by
  simp only [BO139, cSeq, cReg, cCond, cBlock, cSkip, cExit, cRet, h1, ifF]
theorem eo_go (I1 : CS 15) (h1 : ∀ c, pLss v2 v3 c = c (.b true)) (h2 : ∀ c, pIdx 1 v5 v2 c = c q) (h3 : ∀ c, pLd q S c = c x)
    (hI : ∀ (kn : Fn 15) (kx : Nat → Fn 15) (kr : Fn 15), I1 kn kx kr v0 v1 v2 v3 (.b true) v5 (nn 0) v7 v8 v2 v10 x v12 v13 v14 S = kn v0 v1 v2 v3 (.b true) v5 w6 w7 v8 v2 w10 x v12 v13 v14 S1) (h4 : ∀ c, pAdd v2 (nn 1) c = c n') :
    BO139 I1 K kx kr v0 v1 v2 v3 v4 v5 v6 v7 v8 v9 v10 v11 v12 v13 v14 S = K v0 v1 n' v3 (.b true) v5 w6 w7 v8 v2 w10 x v12 v13 v14 S1 := by
  simp only [BO139, cSeq, cReg, cCond, cBlock, cSkip, cExit, cRet, h1, h2, h3, hI, h4, ifT]
theorem ez_go (h1 : ∀ c, pIdx 1 v8 v12 c = c q) (h2 : ∀ c, pLd q S c = c x) (h3 : ∀ c, pEql x (.i .u8 0) c = c (.b true)) (h4 : ∀ c, pAdd v12 (nn 1) c = c n') : BZ139 K kx kr v0 v1 v2 v3 v4 v5 v6 v7 v8 v9 v10 v11 v12 v13 v14 S = K v0 v1 v2 v3 v4 v5 v6 v7 v8 v9 v10 v11 n' (.b true) v14 S := by
  simp only [BZ139, cSeq, cReg, cCond, cBlock, cSkip, cExit, cRet, h1, h2, h3, h4, ifT]
theorem ez_end (h1 : ∀ c, pIdx 1 v8 v12 c = c q) (h2 : ∀ c, pLd q S c = c x) (h3 : ∀ c, pEql x (.i .u8 0) c = c (.b false)) : BZ139 K kx kr v0 v1 v2 v3 v4 v5 v6 v7 v8 v9 v10 v11 v12 v13 v14 S = kx 4 v0 v1 v2 v3 v4 v5 v6 v7 v8 v9 v10 v11 v12 (.b false) v14 S := by
  simp only [BZ139, cSeq, cReg, cCond, cBlock, cSkip, cExit, cRet, h1, h2, h3, ifF]
theorem ep_nil (I0 I2 : CS 15) (h1 : ∀ c, f168 v0 S c = c a S) (h2 : ∀ c, pLen a c = c n) (h3 : ∀ c, pEql n (nn 0) c = c (.b true)) : HT139 f168 I0 I2 K kx kr v0 v1 v2 v3 v4 v5 v6 v7 v8 v9 v10 v11 v12 v13 v14 S = kr a (.b true) v2 v3 v4 v5 v6 v7 v8 v9 v10 v11 v12 v13 (.s []) S := by
  simp only [HT139, cSeq, cReg, cCond, cBlock, cSkip, cExit, cRet, h1, h2, h3, ifT]
theorem ep_head (I0 I2 : CS 15) (h1 : ∀ c, f168 v0 S c = c a S) (h2 : ∀ c, pLen a c = c n) (h3 : ∀ c, pEql n (nn 0) c = c (.b false)) (h4 : ∀ c, pMul (nn 8) n c = c d) (h5 : ∀ c : Cont, pMks [.i .u8 0] d d S c = c o S1)
    (hL : ∀ (kn : Fn 15) (kx : Nat → Fn 15) (kr : Fn 15), I0 kn kx kr a (.b false) (nn 0) n v4 a v6 v7 o v9 v10 v11 v12 v13 (.s []) S1 = kn a (.b false) w2 w3 w4 w5 w6 w7 o w9 w10 w11 v12 v13 (.s []) S2)
    (hZ : ∀ (kn : Fn 15) (kx : Nat → Fn 15) (kr : Fn 15), I2 kn kx kr a (.b false) w2 w3 w4 w5 w6 w7 o w9 w10 w11 (nn 0) v13 (.s []) S2 = kn a (.b false) w2 w3 w4 w5 w6 w7 o w9 w10 w11 w12 w13 (.s []) S2)
    (h6 : ∀ c, pSlc 1 o (some w12) none none c = c p) (h7 : ∀ c, pB2s p S2 c = c r) :
    HT139 f168 I0 I2 K kx kr v0 v1 v2 v3 v4 v5 v6 v7 v8 v9 v10 v11 v12 v13 v14 S = kr a (.b false) w2 w3 w4 w5 w6 w7 o w9 w10 w11 w12 w13 r S2 := by
  simp only [HT139, cSeq, cReg, cCond, cBlock, cSkip, cExit, cRet, h1, h2, h3, h4, h5, hL, hZ, h6, h7, ifF]
end
theorem rev_set {α : Type} (R : List α) (t : Nat) (y : α) (h : t < R.length) : R.reverse.set (R.length - 1 - t) y = (R.set t y).reverse := by
  refine List.ext_getElem (by simp) fun i h1 h2 => ?_
  have h1' : i < R.length := by simpa using h1
  rw [List.getElem_set, List.getElem_reverse, List.getElem_reverse, List.getElem_set]
  by_cases e : R.length - 1 - t = i
  · rw [if_pos e, if_pos (by simp; omega)]
  · rw [if_neg e, if_neg (by simp; omega)]
    simp
theorem mks_b {n : Nat} (hn : n ≤ 16777216) (S : St) (c : Cont) : pMks [.i .u8 0] (nn n) (nn n) S c = c (.sl S.nx 0 n n) (S.new ((List.replicate n 0).map bb)) := by
  show gu (Bool.and (Bool.and (Bool.not (neg .i64 n)) (Bool.not (neg .i64 n))) (Bool.and (Nat.ble n n) (Nat.ble n 16777216))) (repK [.i .u8 0] n (fun cs => newK cs S (fun nx S' => c (.sl nx 0 n n) S'))) = _
  rw [neg_n (by omega), Nat.ble_eq_true_of_le hn, Nat.ble_eq_true_of_le (Nat.le_refl n), repK_one, newK_eq, List.map_replicate]; rfl
theorem slc_low (id : Pos) {m i : Nat} (hi : i < m) (hm : m ≤ 1073741824) (c : V → R) : pSlc 1 (.sl id 0 m m) (some (nn i)) none none c = c (.sl id i (m - i) (m - i)) := by
  show gu (Nat.ble m m) (gu (Nat.ble m m) (gu (Bool.not (neg .i64 i)) (gu (Nat.ble i m) (fN (cut 1 0 i m) (fun o => fN (Nat.sub m i) (fun n' => fN (Nat.sub m i) (fun q => c (.sl id o n' q)))))))) = _
  rw [neg_n (by omega), Nat.ble_eq_true_of_le (Nat.le_refl m), Nat.ble_eq_true_of_le (show i ≤ m by omega)]
  simp only [fN_eq]
  have e : cut 1 0 i m = i := by
    unfold cut
    have : Nat.beq m i = false := by
      cases h : Nat.beq m i with
      | false => rfl
      | true => have := Nat.eq_of_beq_eq_true h; omega
    rw [this]
    show 0 + i * 1 = i
    omega
  show c (.sl id (cut 1 0 i m) (m - i) (m - i)) = _
  rw [e]
theorem len_sl (id : Pos) {n m : Nat} (hn : n ≤ 1073741824) (c : V → R) : pLen (.sl id 0 n m) c = c (nn n) := by
  show gu (Nat.ble n 1073741824) (retI c .i64 n) = _
  rw [Nat.ble_eq_true_of_le hn, gu_true, retI_eq]
theorem beql8 (a b : Nat) (c : V → R) : pEql (bb a) (bb b) c = c (.b (decide (a = b))) := by
  rw [pEql_i]
  congr 2
  cases h : Nat.beq a b with
  | true => have := Nat.eq_of_beq_eq_true h; rw [decide_eq_true this]
  | false =>
    rw [decide_eq_false]
    intro e; subst e; rw [Nat.beq_refl] at h; cases h
theorem byte_of (V s i : Nat) (hs : s < 8) : V / M64 ^ i % M64 / 256 ^ s % 256 = V / 256 ^ (8 * i + s) % 256 := by
  have e64 : M64 = 256 ^ s * 256 ^ (8 - s) := by
    rw [← Nat.pow_add, show s + (8 - s) = 8 by omega]
  have e1 : V / M64 ^ i % M64 / 256 ^ s = V / M64 ^ i / 256 ^ s % 256 ^ (8 - s) := by
    conv => lhs; arg 1; arg 2; rw [e64]
    rw [Nat.mod_mul_right_div_self]
  rw [e1, Nat.mod_mod_of_dvd _ (by
    obtain ⟨k, hk⟩ : ∃ k, 8 - s = k + 1 := ⟨7 - s, by omega⟩
    rw [hk, Nat.pow_succ]; exact Nat.dvd_mul_left ..), pow64, Nat.div_div_eq_div_mul, ← Nat.pow_add]
/-- t bytes of V are written -/
def Byt (V t M : Nat) (R : List Nat) : Prop := R.length = M ∧ (∀ z ∈ R, z < 256) ∧ ofL 256 R = V % 256 ^ t
theorem Byt.step {V t M : Nat} {R : List Nat} (h : Byt V t M R) (ht : t < M) : Byt V (t + 1) M (R.set t (V / 256 ^ t % 256)) := by
  obtain ⟨h1, h2, h3⟩ := h
  refine ⟨by rw [List.length_set]; exact h1, fun z hz => ?_, ?_⟩
  · rcases List.mem_or_eq_of_mem_set hz with h | h
    · exact h2 z h
    · rw [h]; exact Nat.mod_lt _ (by decide)
  · have hs := ofL_set (B := 256) R t (V / 256 ^ t % 256) (by omega)
    have h0 : R.getD t 0 = 0 := by
      rw [getD_ofL (by decide) R h2, h3, Nat.div_eq_of_lt (Nat.mod_lt _ (Nat.pow_pos (by decide)))]
    rw [h0, Nat.mul_zero, Nat.add_zero, h3] at hs
    rw [hs, Nat.mod_pow_succ]
theorem ei_loop {X M i : Nat} {io : Pos} (hM : M ≤ 4000000) (hi : 8 * i + 8 ≤ M) : ∀ (N s : Nat) (S : St) (R : List Nat) (v7 v10 : V), s ≤ 8 → 8 < N + s → Run S0 S → Own S0 S io (R.reverse.map bb) → Byt X (8 * i + s) M R →
    ∃ S' w7 w10 R', Run S0 S' ∧ Own S0 S' io (R'.reverse.map bb) ∧ Byt X (8 * i + 8) M R' ∧ (∀ q ds, q ≠ io → Own S0 S q ds → Own S0 S' q ds) ∧
      ∀ (kx : Nat → Fn 15) (kr : Fn 15) (v0 v1 v2 v3 v4 v5 v12 v13 v14 : V), loopN BI139 kx kr N v0 v1 v2 v3 v4 v5 (nn s) v7 (.sl io 0 M M) (nn i) v10 (uu (X / M64 ^ i % M64)) v12 v13 v14 S = kx 2 v0 v1 v2 v3 v4 v5 (nn 8) w7 (.sl io 0 M M) (nn i) w10 (uu (X / M64 ^ i % M64)) v12 v13 v14 S'
  | 0, s, S, R, v7, v10, h1, h2, r, ho, hb => by omega
  | N + 1, s, S, R, v7, v10, h1, h2, r, ho, hb => by
    by_cases hs : s < 8
    · have hR := hb.1
      obtain ⟨S1, r1, o1, k1, a1⟩ := U.Own_put (x := bb (X / 256 ^ (8 * i + s) % 256)) ho r (i := M - 1 - (8 * i + s)) (by rw [List.length_map, List.length_reverse]; omega) (fun k => cellsK_i _ _ k)
      have e1 : (R.reverse.map bb).set (M - 1 - (8 * i + s)) (bb (X / 256 ^ (8 * i + s) % 256)) = (R.set (8 * i + s) (X / 256 ^ (8 * i + s) % 256)).reverse.map bb := by
        rw [← rev_set R _ _ (by omega), ← List.map_set, hR]
      rw [e1] at o1
      obtain ⟨S', w7, w10, R', z1, z2, z3, z4, z5⟩ := ei_loop hM hi N (s + 1) S1 _ (.b true) (nn s) hs (by omega) r1 o1 (hb.step (by omega))
      refine ⟨S', w7, w10, R', z1, z2, z3, fun q ds hq h => z4 q ds hq (k1 q ds hq h), fun kx kr v0 v1 v2 v3 v4 v5 v12 v13 v14 => ?_⟩
      rw [loopN_succ, ei_go (h1 := fun c => by rw [lss_n (by omega) (by omega), decide_eq_true hs]) (h2 := fun c => len_sl io (by omega) c) (h3 := fun c => sub_n (by omega) (by omega) c) (h4 := fun c => mul_n (by omega) c) (h5 := fun c => sub_n (by omega) (by omega) c) (h6 := fun c => by rw [sub_n (by omega) (by omega), show M - 1 - 8 * i - s = M - 1 - (8 * i + s) by omega]) (h7 := fun c => mul_n (by omega) c)
        (h8 := fun c => by rw [ushr (by omega), Nat.pow_mul]) (h9 := fun c => by
          have : (2 : Nat) ^ 8 = 256 := by decide
          rw [conv8, this, byte_of X s i hs]) (h10 := fun c => idx_sl io (by omega) (by omega) c) (h11 := a1) (h12 := fun c => add_n (by omega) c)]
      exact z5 kx kr v0 v1 v2 v3 v4 v5 v12 v13 v14
    · have : s = 8 := by omega
      subst this
      refine ⟨S, .b false, v10, R, r, ho, hb, fun q ds _ h => h, fun kx kr v0 v1 v2 v3 v4 v5 v12 v13 v14 => ?_⟩
      rw [loopN_succ, ei_end (h1 := fun c => by rw [lss_n (by omega) (by omega), decide_eq_false (by omega)])]
theorem eo_loop {vx : V} {x : List Nat} {io : Pos} {M : Nat} (hx : ∀ z ∈ x, z < M64) (hl : x.length ≤ 100000) (hM : M = 8 * x.length) : ∀ (N i : Nat) (S : St) (R : List Nat) (v4 v6 v7 v9 v10 v11 : V), i ≤ x.length → x.length < N + i → Run S0 S → Own S0 S io (R.reverse.map bb) → TRow S0 vx x S io → Byt (ofL M64 x) (8 * i) M R →
    ∃ S' w4 w6 w7 w9 w10 w11 R', Run S0 S' ∧ Own S0 S' io (R'.reverse.map bb) ∧ Byt (ofL M64 x) (8 * x.length) M R' ∧ (∀ q ds, q ≠ io → Own S0 S q ds → Own S0 S' q ds) ∧
      ∀ (kx : Nat → Fn 15) (kr : Fn 15) (v0 v1 v12 v13 v14 : V), loopN (BO139 (cBlock 2 (cLoop BI139))) kx kr N v0 v1 (nn i) (nn x.length) v4 vx v6 v7 (.sl io 0 M M) v9 v10 v11 v12 v13 v14 S = kx 0 v0 v1 (nn x.length) (nn x.length) w4 vx w6 w7 (.sl io 0 M M) w9 w10 w11 v12 v13 v14 S'
  | 0, i, S, R, v4, v6, v7, v9, v10, v11, h1, h2, r, ho, t, hb => by omega
  | N + 1, i, S, R, v4, v6, v7, v9, v10, v11, h1, h2, r, ho, t, hb => by
    by_cases hi : i < x.length
    · obtain ⟨q, s1, s2⟩ := t.row.get hi
      rw [getD_ofL (by decide) x hx] at s2
      obtain ⟨S1, w7, w10, R1, z1, z2, z3, z4, z5⟩ := ei_loop (X := ofL M64 x) (M := M) (i := i) (io := io) (by omega) (by omega) 1000000 0 S R v7 v10 (by omega) (by omega) r ho hb
      obtain ⟨S', x4, x6, x7, x9, x10, x11, R', y1, y2, y3, y4, y5⟩ := eo_loop hx hl hM N (i + 1) S1 R1 (.b true) (nn 8) w7 (nn i) w10 (uu (ofL M64 x / M64 ^ i % M64)) hi (by omega) z1 z2 (t.step z4) (by rw [Nat.mul_add]; exact z3)
      refine ⟨S', x4, x6, x7, x9, x10, x11, R', y1, y2, y3, fun q ds hq h => y4 q ds hq (z4 q ds hq h), fun kx kr v0 v1 v12 v13 v14 => ?_⟩
      rw [loopN_succ, eo_go (h1 := fun c => by rw [lss_n (by omega) (by omega), decide_eq_true hi]) (h2 := s1) (h3 := s2) (hI := fun kn kx kr => by
        obtain ⟨kx', e1, e2⟩ := block_loop_at 2 BI139 kn kx kr
        rw [e2]
        refine (z5 kx' kr _ _ _ _ _ _ _ _ _).trans ?_
        rw [e1]) (h4 := fun c => add_n (by omega) c)]
      exact y5 kx kr v0 v1 v12 v13 v14
    · have : i = x.length := by omega
      subst this
      refine ⟨S, .b false, v6, v7, v9, v10, v11, R, r, ho, hb, fun q ds _ h => h, fun kx kr v0 v1 v12 v13 v14 => ?_⟩
      rw [loopN_succ, eo_end (h1 := fun c => by rw [lss_n (by omega) (by omega), decide_eq_false (by omega)])]
theorem ez_loop {io : Pos} {M : Nat} {R : List Nat} (hR : R.length = M) (hM : M ≤ 1000000) (ho : Own S0 S io (R.reverse.map bb)) (h0 : trimN R M ≠ 0) : ∀ (N j : Nat) (v13 : V), j ≤ M → j < N → trimN R j = trimN R M →
    ∃ w13, ∀ (kx : Nat → Fn 15) (kr : Fn 15) (v0 v1 v2 v3 v4 v5 v6 v7 v9 v10 v11 v14 : V), loopN BZ139 kx kr N v0 v1 v2 v3 v4 v5 v6 v7 (.sl io 0 M M) v9 v10 v11 (nn (M - j)) v13 v14 S = kx 4 v0 v1 v2 v3 v4 v5 v6 v7 (.sl io 0 M M) v9 v10 v11 (nn (M - trimN R M)) w13 v14 S
  | 0, j, v13, h1, h2, h3 => by omega
  | N + 1, 0, v13, h1, h2, h3 => by exact absurd h3.symm h0
  | N + 1, j + 1, v13, h1, h2, h3 => by
    have hld : ∀ c, pLd (.p io (M - (j + 1))) S c = c (bb (R.getD j 0)) := fun c => by
      obtain ⟨g0, n, g1, g2⟩ := ho
      refine pLd_eq g1 ?_ c
      rw [List.getElem?_map, List.getElem?_reverse (by omega), show R.length - 1 - (M - (j + 1)) = j by omega, getD_of (by omega)]; rfl
    by_cases hz : R.getD j 0 = 0
    · have ht : trimN R (j + 1) = trimN R j := by simp only [trimN]; rw [hz]; rfl
      obtain ⟨w13, z⟩ := ez_loop hR hM ho h0 N j (.b true) (by omega) (by omega) (by rw [← ht]; exact h3)
      refine ⟨w13, fun kx kr v0 v1 v2 v3 v4 v5 v6 v7 v9 v10 v11 v14 => ?_⟩
      rw [loopN_succ, ez_go (h1 := fun c => idx_sl io (by omega) (by omega) c) (h2 := hld) (h3 := fun c => by rw [beql8, decide_eq_true hz]) (h4 := fun c => by rw [add_n (by omega), show M - (j + 1) + 1 = M - j by omega])]
      exact z kx kr v0 v1 v2 v3 v4 v5 v6 v7 v9 v10 v11 v14
    · have ht : trimN R (j + 1) = j + 1 := by
        simp only [trimN]
        cases hb : Nat.beq (R.getD j 0) 0 with
        | true => exact absurd (Nat.eq_of_beq_eq_true hb) hz
        | false => rfl
      refine ⟨.b false, fun kx kr v0 v1 v2 v3 v4 v5 v6 v7 v9 v10 v11 v14 => ?_⟩
      rw [loopN_succ, ez_end (h1 := fun c => idx_sl io (by omega) (by omega) c) (h2 := hld) (h3 := fun c => by rw [beql8, decide_eq_false hz]), ← h3, ht]
theorem epack_nil : ∀ k, F139 .sn S k = k (.s []) S := fun k => by
  obtain ⟨a, r1, r2, r3⟩ := etrim_run (S := S) (v := .sn) (l := []) rfl (by simp)
  have e := r2.2.2 rfl
  subst e
  unfold F139 G139
  rw [C139_eq, ep_nil (a := .sn) (n := nn 0) (h1 := r3) (h2 := fun c => by rfl) (h3 := fun c => by rw [eql_n]; rfl)]
theorem epack_run {id : Pos} {m : Nat} {l : List Nat} (h : Wd S0 S id m l) (r : Run S0 S) (hl : l.length ≤ 100000) (hb : ∀ x ∈ l, x < M64) : ∃ S', Run S0 S' ∧ (∀ q ds, Own S0 S q ds → Own S0 S' q ds) ∧ ∀ k, F139 (.sl id 0 l.length m) S k = k (.s (strN (ofL M64 l))) S' := by
  obtain ⟨t1, t2⟩ := h.trim hb
  have hxm : (dg M64 (ofL M64 l)).length ≤ l.length := dg_len (by decide) _ _ (ofL_lt (by decide) hb)
  generalize hV : ofL M64 l = V at *
  have hV2 : ofL M64 (dg M64 V) = V := ofL_dg (by decide) V
  have hlt : ∀ z ∈ dg M64 V, z < M64 := dg_lt (by decide) V
  generalize hx : dg M64 V = x at *
  have hlen := t1.row.len.1
  by_cases h0 : x.length = 0
  · have : x = [] := List.length_eq_zero_iff.1 h0
    subst this
    refine ⟨S, r, fun q ds h => h, fun k => ?_⟩
    have hV0 : V = 0 := by rw [← hV2]; rfl
    unfold F139 G139
    rw [C139_eq, ep_nil (h1 := t2) (h2 := hlen) (h3 := fun c => by rw [eql_n]; rfl), hV0, strN_zero]
  · have hVne : V ≠ 0 := fun e => by subst e; rw [dg_zero] at hx; subst hx; exact h0 rfl
    obtain ⟨k1, k2⟩ := t1.choose_spec.2.2.keep r ((List.replicate (8 * x.length) 0).map bb)
    have htr : TRow S0 (.sl id 0 x.length m) x (S.new ((List.replicate (8 * x.length) 0).map bb)) S.nx :=
      Wd.trow (S := S.new ((List.replicate (8 * x.length) 0).map bb)) ⟨t1.choose, t1.choose_spec.1, t1.choose_spec.2.1, k1⟩ k2
    have hrr : (List.replicate (8 * x.length) 0 : List Nat).reverse = List.replicate (8 * x.length) 0 := List.reverse_replicate ..
    obtain ⟨S2, w4, w6, w7, w9, w10, w11, R, z1, z2, z3, z4, z5⟩ := eo_loop (io := S.nx) hlt (by omega) rfl 1000000 0 (S.new ((List.replicate (8 * x.length) 0).map bb)) (List.replicate (8 * x.length) 0) .other .other .other .other .other .other (by omega) (by omega) (r.new _) (by rw [hrr]; exact Own.new r _) htr ⟨List.length_replicate .., fun z hz => by rw [List.eq_of_mem_replicate hz]; decide, by rw [ofL_rep, Nat.mul_zero, Nat.pow_zero, Nat.mod_one]⟩
    obtain ⟨q1, q2, q3⟩ := z3
    rw [hV2, Nat.mod_eq_of_lt (by rw [← pow64]; have := ofL_lt (B := M64) (by decide) hlt; rw [hV2] at this; exact this)] at q3
    have hd := trim_dg (B := 256) (by decide) R q2
    rw [q3, q1] at hd
    have hn0 : trimN R (8 * x.length) ≠ 0 := fun e => by
      rw [e, List.take_zero] at hd
      have := ofL_dg (B := 256) (by decide) V
      rw [← hd] at this
      exact hVne this.symm
    have hnle := trimN_le R (8 * x.length)
    obtain ⟨w13, y1⟩ := ez_loop (S := S2) q1 (by omega) z2 hn0 1000000 (8 * x.length) .other (Nat.le_refl _) (by omega) rfl
    rw [Nat.sub_self] at y1
    refine ⟨S2, z1, fun q ds hq => ?_, fun k => ?_⟩
    · obtain ⟨g1, g2⟩ := hq.keep r ((List.replicate (8 * x.length) 0).map bb)
      exact z4 q ds g2 g1
    · have hp : ∀ c, pB2s (.sl S.nx (8 * x.length - trimN R (8 * x.length)) (8 * x.length - (8 * x.length - trimN R (8 * x.length))) (8 * x.length - (8 * x.length - trimN R (8 * x.length)))) S2 c = c (.s (strN V)) := fun c => by
        obtain ⟨g0, n, g1, g2⟩ := z2
        rw [show 8 * x.length - (8 * x.length - trimN R (8 * x.length)) = trimN R (8 * x.length) by omega]
        show elems 1 S.nx (8 * x.length - trimN R (8 * x.length)) (trimN R (8 * x.length)) S2 (fun l => bytesK l (fun s => c (.s s))) = _
        rw [elems_eq g1 (by show _ ≤ (R.reverse.map bb).length; rw [List.length_map, List.length_reverse]; omega)]
        show bytesK (((R.reverse.map bb).drop (8 * x.length - trimN R (8 * x.length))).take (trimN R (8 * x.length) * 1)) _ = _
        rw [← List.map_drop, List.drop_reverse, q1, show 8 * x.length - (8 * x.length - trimN R (8 * x.length)) = trimN R (8 * x.length) by omega, hd, List.take_of_length_le (by rw [List.length_map, List.length_reverse, ← hd, List.length_take]; omega), bytesK_eq]; rfl
      unfold F139 G139
      rw [C139_eq, ep_head (a := .sl id 0 x.length m) (n := nn x.length) (o := .sl S.nx 0 (8 * x.length) (8 * x.length)) (w2 := nn x.length) (w3 := nn x.length) (w4 := w4) (w5 := .sl id 0 x.length m) (w6 := w6) (w7 := w7) (w9 := w9) (w10 := w10) (w11 := w11) (w12 := nn (8 * x.length - trimN R (8 * x.length))) (w13 := w13) (S2 := S2)
        (h1 := t2) (h2 := hlen) (h3 := fun c => by rw [eql_n, decide_eq_false h0]) (h4 := fun c => mul_n (by omega) c) (h5 := fun c => mks_b (by omega) S c) (hL := fun kn kx kr => ?_) (hZ := fun kn kx kr => ?_) (h6 := fun c => slc_low S.nx (by omega) (by omega) c) (h7 := hp)]
      · obtain ⟨kx', e1, e2⟩ := block_loop_at 0 (BO139 (cBlock 2 (cLoop BI139))) kn kx kr
        rw [e2]
        refine (z5 kx' kr _ _ _ _ _).trans ?_
        rw [e1]
      · obtain ⟨kx', e1, e2⟩ := block_loop_at 4 BZ139 kn kx kr
        rw [e2]
        refine (y1 kx' kr _ _ _ _ _ _ _ _ _ _ _ _).trans ?_
        rw [e1]
end
end Go.AM

/- exact.NatAdd, NatSub, NatCmp, NatOf: pure texts on strings. -/
namespace Go.AM
open Go.Proofs
open Go.AM.Q
open Go.AM.U
set_option linter.unusedVariables false
set_option linter.unusedSimpArgs false
noncomputable section
variable {S0 S : St} {out : V × St}
theorem f138_eq {x y z : Nat} (hz : z ≤ 1) (S : St) (k : Cont) : F138 (uu x) (uu y) (uu z) S k = k (.tu [uu ((x + y + z) % M64), uu ((x + y + z) / M64)]) S := by
  show gu (Nat.ble z 1) (fN (Nat.mod (Nat.add (Nat.add x y) z) 18446744073709551616) (fun l => fN (Nat.div (Nat.add (Nat.add x y) z) 18446744073709551616) (fun h => k (.tu [.i .u64 l, .i .u64 h]) S))) = _
  rw [Nat.ble_eq_true_of_le hz, gu_true, fN_eq, fN_eq]; rfl
theorem f140_eq {x y z : Nat} (hz : z ≤ 1) (S : St) (k : Cont) : F140 (uu x) (uu y) (uu z) S k = k (.tu [uu ((x + M64 - (y + z)) % M64), uu (if x < y + z then 1 else 0)]) S := by
  show gu (Nat.ble z 1) (fN (Nat.mod (Nat.sub (Nat.add x 18446744073709551616) (Nat.add y z)) 18446744073709551616) (fun l => Bool.rec (k (.tu [.i .u64 l, .i .u64 0]) S) (k (.tu [.i .u64 l, .i .u64 1]) S) (Nat.blt x (Nat.add y z)))) = _
  rw [Nat.ble_eq_true_of_le hz, gu_true, fN_eq, blt_eq]
  by_cases h : x < y + z
  · rw [if_pos h]
    have : decide (x < Nat.add y z) = true := decide_eq_true h
    rw [this]; rfl
  · rw [if_neg h]
    have : decide (x < Nat.add y z) = false := decide_eq_false h
    rw [this]; rfl
theorem ext0 (a b : V) (c : V → R) : pExt (.tu [a, b]) 0 c = c a := by rfl
theorem ext1 (a b : V) (c : V → R) : pExt (.tu [a, b]) 1 c = c b := by rfl
/- NatAdd -/
def B96 (f138 : Gn 3) : CS 14 := (cSeq (cReg fun kn v0 v1 v2 v3 v4 v5 v6 v7 v8 v9 v10 v11 v12 v13 S => pLss v5 v6 (fun a0 => kn v0 v1 v2 v3 v4 v5 v6 a0 v8 v9 v10 v11 v12 v13 S)) (cSeq (cCond (fun x y v0 v1 v2 v3 v4 v5 v6 v7 v8 v9 v10 v11 v12 v13 S => pIf v7 (x v0 v1 v2 v3 v4 v5 v6 v7 v8 v9 v10 v11 v12 v13 S) (y v0 v1 v2 v3 v4 v5 v6 v7 v8 v9 v10 v11 v12 v13 S)) cSkip (cExit 0)) (cSeq (cBlock 1 (cSeq (cReg fun kn v0 v1 v2 v3 v4 v5 v6 v7 v8 v9 v10 v11 v12 v13 S => kn v0 v1 v2 v3 v4 v5 v6 v7 v5 v9 v10 v11 v12 v13 S) (cSeq (cReg fun kn v0 v1 v2 v3 v4 v5 v6 v7 v8 v9 v10 v11 v12 v13 S => kn v0 v1 v2 v3 v4 v5 v6 v7 v8 v9 v10 (.i .u64 0) v12 v13 S) (cSeq (cSeq (cReg fun kn v0 v1 v2 v3 v4 v5 v6 v7 v8 v9 v10 v11 v12 v13 S => pLen v3 (fun a0 => pLss v8 a0 (fun a1 => kn v0 v1 v2 v3 v4 v5 v6 v7 v8 a1 v10 v11 v12 v13 S))) (cCond (fun x y v0 v1 v2 v3 v4 v5 v6 v7 v8 v9 v10 v11 v12 v13 S => pIf v9 (x v0 v1 v2 v3 v4 v5 v6 v7 v8 v9 v10 v11 v12 v13 S) (y v0 v1 v2 v3 v4 v5 v6 v7 v8 v9 v10 v11 v12 v13 S)) (cReg fun kn v0 v1 v2 v3 v4 v5 v6 v7 v8 v9 v10 v11 v12 v13 S => pIdx 1 v3 v8 (fun a0 => pLd a0 S (fun a1 => kn v0 v1 v2 v3 v4 v5 v6 v7 v8 v9 v10 a1 v12 v13 S))) cSkip)) (cReg fun kn v0 v1 v2 v3 v4 v5 v6 v7 v8 v9 v10 v11 v12 v13 S => pIdx 1 v2 v8 (fun a0 => pLd a0 S (fun a1 => f138 a1 v11 v12 S (fun a2 S => pExt a2 0 (fun a3 => pExt a2 1 (fun a4 => pIdx 1 v10 v8 (fun a5 => pSt 1 a5 a3 S (fun S => kn v0 v1 v2 v3 v4 v5 v6 v7 v8 v9 v10 v11 a4 v13 S)))))))))))) (cReg fun kn v0 v1 v2 v3 v4 v5 v6 v7 v8 v9 v10 v11 v12 v13 S => pAdd v5 (.i .i64 1) (fun a0 => kn v0 v1 v2 v3 v4 a0 v6 v7 v8 v9 v10 v11 v12 v13 S)))))
def HT96 (f137 f139 : Gn 1) (I0 : CS 14) : CS 14 := (cSeq (cReg fun kn v0 v1 v2 v3 v4 v5 v6 v7 v8 v9 v10 v11 v12 v13 S => kn v0 v1 v2 v3 v4 v5 v6 v7 v8 v9 v10 v11 v12 (.s []) S) (cSeq (cReg fun kn v0 v1 v2 v3 v4 v5 v6 v7 v8 v9 v10 v11 v12 v13 S => f137 v0 S (fun a0 S => f137 v1 S (fun a1 S => kn v0 v1 a0 a1 v4 v5 v6 v7 v8 v9 v10 v11 v12 v13 S))) (cSeq (cSeq (cReg fun kn v0 v1 v2 v3 v4 v5 v6 v7 v8 v9 v10 v11 v12 v13 S => pLen v2 (fun a0 => pLen v3 (fun a1 => pLss a0 a1 (fun a2 => kn v0 v1 v2 v3 a2 v5 v6 v7 v8 v9 v10 v11 v12 v13 S)))) (cCond (fun x y v0 v1 v2 v3 v4 v5 v6 v7 v8 v9 v10 v11 v12 v13 S => pIf v4 (x v0 v1 v2 v3 v4 v5 v6 v7 v8 v9 v10 v11 v12 v13 S) (y v0 v1 v2 v3 v4 v5 v6 v7 v8 v9 v10 v11 v12 v13 S)) (cReg fun kn v0 v1 v2 v3 v4 v5 v6 v7 v8 v9 v10 v11 v12 v13 S => kn v0 v1 v3 v2 v4 v5 v6 v7 v8 v9 v10 v11 v12 v13 S) cSkip)) (cSeq (cReg fun kn v0 v1 v2 v3 v4 v5 v6 v7 v8 v9 v10 v11 v12 v13 S => pLen v2 (fun a0 => pAdd a0 (.i .i64 1) (fun a1 => pMks [(.i .u64 0)] a1 a1 S (fun a2 S => kn v0 v1 v2 v3 v4 v5 v6 v7 v8 v9 a2 v11 v12 v13 S)))) (cSeq (cReg fun kn v0 v1 v2 v3 v4 v5 v6 v7 v8 v9 v10 v11 v12 v13 S => kn v0 v1 v2 v3 v4 v5 v6 v7 v8 v9 v10 v11 (.i .u64 0) v13 S) (cSeq (cSeq (cReg fun kn v0 v1 v2 v3 v4 v5 v6 v7 v8 v9 v10 v11 v12 v13 S => pLen v2 (fun a0 => kn v0 v1 v2 v3 v4 (.i .i64 0) a0 v7 v8 v9 v10 v11 v12 v13 S)) I0) (cSeq (cReg fun kn v0 v1 v2 v3 v4 v5 v6 v7 v8 v9 v10 v11 v12 v13 S => pLen v2 (fun a0 => pIdx 1 v10 a0 (fun a1 => pSt 1 a1 v12 S (fun S => kn v0 v1 v2 v3 v4 v5 v6 v7 v8 v9 v10 v11 v12 v13 S)))) (cSeq (cReg fun kn v0 v1 v2 v3 v4 v5 v6 v7 v8 v9 v10 v11 v12 v13 S => f139 v10 S (fun a0 S => kn v0 v1 v2 v3 v4 v5 v6 v7 v8 v9 v10 v11 v12 a0 S)) cRet))))))))
theorem C96_eq (f137 : Gn 1) (f138 : Gn 3) (f139 : Gn 1) : C96 f137 f138 f139 = HT96 f137 f139 (cBlock 0 (cLoop (B96 f138))) := by rfl
section
variable (f137 : Gn 1) (f138 f140 : Gn 3) (f139 : Gn 1) (K : Fn 14) (kx : Nat → Fn 14) (kr : Fn 14) (v0 v1 v2 v3 v4 v5 v6 v7 v8 v9 v10 v11 v12 v13 a b d la lb q q' p x y s o r c' n' w5 w6 w7 w8 w9 w11 w12 : V) (S S1 S2 S3 S4 S5 S6 : St)
theorem na_end (h1 : ∀ c, pLss v5 v6 c = c (.b false)) : B96 f138 K kx kr v0 v1 v2 v3 v4 v5 v6 v7 v8 v9 v10 v11 v12 v13 S = kx 0 v0 v1 v2 v3 v4 v5 v6 (.b false) v8 v9 v10 v11 v12 v13 S := by
  simp only [B96, cSeq, cReg, cCond, cBlock, cSkip, cExit, cRet, h1, ifF]
theorem na_two (h1 : ∀ c, pLss v5 v6 c = c (.b true)) (h2 : ∀ c, pLen v3 c = c b) (h3 : ∀ c, pLss v5 b c = c (.b true)) (h4 : ∀ c, pIdx 1 v3 v5 c = c q') (h5 : ∀ c, pLd q' S c = c y) (h6 : ∀ c, pIdx 1 v2 v5 c = c q) (h7 : ∀ c, pLd q S c = c x) (h8 : ∀ k, f138 x y v12 S k = k (.tu [s, c']) S)
    (h9 : ∀ c, pIdx 1 v10 v5 c = c p) (h10 : ∀ c, pSt 1 p s S c = c S1) (h11 : ∀ c, pAdd v5 (nn 1) c = c n') : B96 f138 K kx kr v0 v1 v2 v3 v4 v5 v6 v7 v8 v9 v10 v11 v12 v13 S = K v0 v1 v2 v3 v4 n' v6 (.b true) v5 (.b true) v10 y c' v13 S1 := by
  simp only [B96, cSeq, cReg, cCond, cBlock, cSkip, cExit, cRet, h1, h2, h3, h4, h5, h6, h7, h8, ext0, ext1, h9, h10, h11, ifT]
theorem na_one (h1 : ∀ c, pLss v5 v6 c = c (.b true)) (h2 : ∀ c, pLen v3 c = c b) (h3 : ∀ c, pLss v5 b c = c (.b false)) (h6 : ∀ c, pIdx 1 v2 v5 c = c q) (h7 : ∀ c, pLd q S c = c x) (h8 : ∀ k, f138 x (uu 0) v12 S k = k (.tu [s, c']) S)
    (h9 : ∀ c, pIdx 1 v10 v5 c = c p) (h10 : ∀ c, pSt 1 p s S c = c S1) (h11 : ∀ c, pAdd v5 (nn 1) c = c n') : B96 f138 K kx kr v0 v1 v2 v3 v4 v5 v6 v7 v8 v9 v10 v11 v12 v13 S = K v0 v1 v2 v3 v4 n' v6 (.b true) v5 (.b false) v10 (uu 0) c' v13 S1 := by
  simp only [B96, cSeq, cReg, cCond, cBlock, cSkip, cExit, cRet, h1, h2, h3, h6, h7, h8, ext0, ext1, h9, h10, h11, ifT, ifF]
theorem na_head (I0 : CS 14) (h1 : ∀ c, f137 v0 S c = c a S1) (h2 : ∀ c, f137 v1 S1 c = c b S2) (h3 : ∀ c, pLen a c = c la) (h4 : ∀ c, pLen b c = c lb) (h5 : ∀ c, pLss la lb c = c (.b false)) (h6 : ∀ c, pAdd la (nn 1) c = c d) (h7 : ∀ c : Cont, pMks [.i .u64 0] d d S2 c = c o S3)
    (hL : ∀ (kn : Fn 14) (kx : Nat → Fn 14) (kr : Fn 14), I0 kn kx kr v0 v1 a b (.b false) (nn 0) la v7 v8 v9 o v11 (uu 0) (.s []) S3 = kn v0 v1 a b (.b false) w5 w6 w7 w8 w9 o w11 w12 (.s []) S4) (h8 : ∀ c, pIdx 1 o la c = c q) (h9 : ∀ c, pSt 1 q w12 S4 c = c S5) (h10 : ∀ c, f139 o S5 c = c r S6) :
    HT96 f137 f139 I0 K kx kr v0 v1 v2 v3 v4 v5 v6 v7 v8 v9 v10 v11 v12 v13 S = kr v0 v1 a b (.b false) w5 w6 w7 w8 w9 o w11 w12 r S6 := by
  simp only [HT96, cSeq, cReg, cCond, cBlock, cSkip, cExit, cRet, h1, h2, h3, h4, h5, h6, h7, hL, h8, h9, h10, ifF]
theorem na_head_s (I0 : CS 14) (h1 : ∀ c, f137 v0 S c = c a S1) (h2 : ∀ c, f137 v1 S1 c = c b S2) (h3 : ∀ c, pLen a c = c la) (h4 : ∀ c, pLen b c = c lb) (h5 : ∀ c, pLss la lb c = c (.b true)) (h6 : ∀ c, pAdd lb (nn 1) c = c d) (h7 : ∀ c : Cont, pMks [.i .u64 0] d d S2 c = c o S3)
    (hL : ∀ (kn : Fn 14) (kx : Nat → Fn 14) (kr : Fn 14), I0 kn kx kr v0 v1 b a (.b true) (nn 0) lb v7 v8 v9 o v11 (uu 0) (.s []) S3 = kn v0 v1 b a (.b true) w5 w6 w7 w8 w9 o w11 w12 (.s []) S4) (h8 : ∀ c, pIdx 1 o lb c = c q) (h9 : ∀ c, pSt 1 q w12 S4 c = c S5) (h10 : ∀ c, f139 o S5 c = c r S6) :
    HT96 f137 f139 I0 K kx kr v0 v1 v2 v3 v4 v5 v6 v7 v8 v9 v10 v11 v12 v13 S = kr v0 v1 b a (.b true) w5 w6 w7 w8 w9 o w11 w12 r S6 := by
  simp only [HT96, cSeq, cReg, cCond, cBlock, cSkip, cExit, cRet, h1, h2, h3, h4, h5, h6, h7, hL, h8, h9, h10, ifT]
end
theorem na_loop {vx vy : V} {x y : List Nat} {io : Pos} {m : Nat} (hx : ∀ z ∈ x, z < M64) (hy : ∀ z ∈ y, z < M64) (lx : x.length ≤ 90000) (hm : m = x.length + 1) (hyx : y.length ≤ x.length) :
    ∀ (N i c : Nat) (S : St) (L : List Nat) (v7 v8 v9 v11 : V), i ≤ x.length → x.length < N + i → L.length = m → c ≤ 1 → Run S0 S → Own S0 S io (L.map uu) → TRow S0 vx x S io → TRow S0 vy y S io → (∀ z ∈ L, z < M64) → (∀ j, i ≤ j → L.getD j 0 = 0) →
    ofL M64 L + M64 ^ i * (c + ofL M64 (x.drop i) + ofL M64 (y.drop i)) = ofL M64 x + ofL M64 y →
    ∃ (S' : St) (c' : Nat) (w8 w9 w11 : V) (L' : List Nat), c' ≤ 1 ∧ Run S0 S' ∧ Own S0 S' io (L'.map uu) ∧ L'.length = m ∧ (∀ z ∈ L', z < M64) ∧ ofL M64 (L'.set x.length c') = ofL M64 x + ofL M64 y ∧
      ∀ (kx : Nat → Fn 14) (kr : Fn 14) (v0 v1 v4 v13 : V), loopN (B96 F138) kx kr N v0 v1 vx vy v4 (nn i) (nn x.length) v7 v8 v9 (.sl io 0 m m) v11 (uu c) v13 S = kx 0 v0 v1 vx vy v4 (nn x.length) (nn x.length) (.b false) w8 w9 (.sl io 0 m m) w11 (uu c') v13 S'
  | 0, i, c, S, L, v7, v8, v9, v11, h1, h2, hL, hc, r, ho, t1, t2, hl, hz, he => by omega
  | N + 1, i, c, S, L, v7, v8, v9, v11, h1, h2, hL, hc, r, ho, t1, t2, hl, hz, he => by
    by_cases hi : i < x.length
    · have eM : M64 = 18446744073709551616 := rfl
      have bx := getD_lt hx (by decide) i
      have by' := getD_lt hy (by decide) i
      have hs : x.getD i 0 + y.getD i 0 + c < 2 * M64 := by omega
      have hc1 : (x.getD i 0 + y.getD i 0 + c) / M64 ≤ 1 := by
        have : (x.getD i 0 + y.getD i 0 + c) / M64 < 2 := Nat.div_lt_of_lt_mul (by omega)
        omega
      obtain ⟨q, t3, t4⟩ := t1.row.get hi
      obtain ⟨S1, r1, o1, k1, a1⟩ := U.Own_put (x := uu ((x.getD i 0 + y.getD i 0 + c) % M64)) ho r (i := i) (by rw [List.length_map]; omega) (fun k => cellsK_i _ _ k)
      rw [map_set_uu] at o1
      have hdm := Nat.div_add_mod (x.getD i 0 + y.getD i 0 + c) M64
      have key : ofL M64 (L.set i ((x.getD i 0 + y.getD i 0 + c) % M64)) + M64 ^ (i + 1) * ((x.getD i 0 + y.getD i 0 + c) / M64 + ofL M64 (x.drop (i + 1)) + ofL M64 (y.drop (i + 1))) = ofL M64 x + ofL M64 y := by
        have e1 := ofL_set (B := M64) L i ((x.getD i 0 + y.getD i 0 + c) % M64) (by omega)
        rw [hz i (Nat.le_refl _), Nat.mul_zero, Nat.add_zero] at e1
        rw [e1, ← he, dropG M64 x i, dropG M64 y i, Nat.pow_succ]
        generalize ofL M64 (x.drop (i + 1)) = X
        generalize ofL M64 (y.drop (i + 1)) = Y
        rw [Nat.add_assoc]
        congr 1
        rw [Nat.mul_assoc, ← Nat.mul_add]
        congr 1
        rw [Nat.mul_add, Nat.mul_add]
        omega
      obtain ⟨S', c', w8, w9, w11, L', z0, z1, z2, z3, z4, z5, z6⟩ := na_loop hx hy lx hm hyx N (i + 1) ((x.getD i 0 + y.getD i 0 + c) / M64) S1 (L.set i ((x.getD i 0 + y.getD i 0 + c) % M64)) (.b true) (nn i) (.b (decide (i < y.length))) (if i < y.length then uu (y.getD i 0) else uu 0) hi (by omega) (by rw [List.length_set]; exact hL) hc1 r1 o1 (t1.step k1) (t2.step k1) (fun z hz => by
        rcases List.mem_or_eq_of_mem_set hz with h | h
        · exact hl z h
        · rw [h]; exact Nat.mod_lt _ (by decide)) (fun j hj => by rw [gset, if_neg (by omega), hz j (by omega)]) key
      refine ⟨S', c', w8, w9, w11, L', z0, z1, z2, z3, z4, z5, fun kx kr v0 v1 v4 v13 => ?_⟩
      rw [loopN_succ]
      refine Eq.trans ?_ (z6 kx kr v0 v1 v4 v13)
      by_cases hyi : i < y.length
      · obtain ⟨q', t5, t6⟩ := t2.row.get hyi
        rw [if_pos hyi, decide_eq_true hyi, na_two (h1 := fun c => by rw [lss_n (by omega) (by omega), decide_eq_true hi]) (h2 := t2.row.len.1) (h3 := fun c => by rw [lss_n (by omega) (by omega), decide_eq_true hyi]) (h4 := t5) (h5 := t6) (h6 := t3) (h7 := t4) (h8 := fun k => f138_eq hc S k) (h9 := fun c => idx_sl io (by omega) (by omega) c) (h10 := a1) (h11 := fun c => add_n (by omega) c)]
      · have hy0 := getD_out hyi
        rw [hy0] at a1 ⊢
        rw [if_neg hyi, decide_eq_false hyi, na_one (h1 := fun c => by rw [lss_n (by omega) (by omega), decide_eq_true hi]) (h2 := t2.row.len.1) (h3 := fun c => by rw [lss_n (by omega) (by omega), decide_eq_false hyi]) (h6 := t3) (h7 := t4) (h8 := fun k => f138_eq hc S k) (h9 := fun c => idx_sl io (by omega) (by omega) c) (h10 := a1) (h11 := fun c => add_n (by omega) c)]
    · have : i = x.length := by omega
      subst this
      refine ⟨S, c, v8, v9, v11, L, hc, r, ho, hL, hl, ?_, fun kx kr v0 v1 v4 v13 => ?_⟩
      · have e1 := ofL_set (B := M64) L x.length c (by omega)
        rw [hz _ (Nat.le_refl _), Nat.mul_zero, Nat.add_zero] at e1
        rw [e1, ← he, List.drop_length, List.drop_eq_nil_of_le hyx]; simp [ofL]
      · rw [loopN_succ, na_end (h1 := fun c => by rw [lss_n (by omega) (by omega), decide_eq_false (by omega)])]
theorem len_w {b : List Nat} (hb : By b) : (dg M64 (U.val b)).length ≤ b.length := by
  refine dg_len (by decide) _ _ (Nat.lt_of_lt_of_le (pv_lt hb b.length) (Nat.pow_le_pow_left (by decide) _))
theorem nadd_run {a b : List Nat} (ha : By a) (hb : By b) (la : a.length ≤ 50000) (lb : b.length ≤ 50000) (r : Run S0 S) : ∃ S', Run S0 S' ∧ ∀ k, F96 (.s a) (.s b) S k = k (.s (strN (U.val a + U.val b))) S' := by
  obtain ⟨S1, ix, mx, r1, x1, x2, x3⟩ := words_run ha (by omega) r
  obtain ⟨S2, iy, my, r2, y1, y2, y3⟩ := words_run hb (by omega) r1
  have lx := len_w ha
  have ly := len_w hb
  have hX : ofL M64 (dg M64 (U.val a)) = U.val a := ofL_dg (by decide) _
  have hY : ofL M64 (dg M64 (U.val b)) = U.val b := ofL_dg (by decide) _
  have bX : ∀ z ∈ dg M64 (U.val a), z < M64 := dg_lt (by decide) _
  have bY : ∀ z ∈ dg M64 (U.val b), z < M64 := dg_lt (by decide) _
  generalize dg M64 (U.val a) = X at *
  generalize dg M64 (U.val b) = Y at *
  have x1 : Wd S0 S2 ix mx X := by obtain ⟨t, g1, g2, g3⟩ := x1; exact ⟨t, g1, g2, (y2 _ _ g3).1⟩
  have ex := x1.row.len.1
  have ey := y1.row.len.1
  have tr : ∀ {id m : _} {l : List Nat} (h : Wd S0 S2 id m l) (cs : List V), TRow S0 (.sl id 0 l.length m) l (S2.new cs) S2.nx := fun h cs => by
    obtain ⟨t, g1, g2, g3⟩ := h
    obtain ⟨k1, k2⟩ := g3.keep r2 cs
    exact Wd.trow (S := S2.new cs) ⟨t, g1, g2, k1⟩ k2
  have fin : ∀ {n : Nat} {S4 : St} {L : List Nat} {c : Nat} {io : Pos}, Run S0 S4 → Own S0 S4 io (L.map uu) → L.length = n + 1 → n ≤ 50000 → (∀ z ∈ L, z < M64) → c ≤ 1 → ofL M64 (L.set n c) = U.val a + U.val b → ∃ S5 S6, (∀ k : St → R, pSt 1 (.p io n) (uu c) S4 k = k S5) ∧ Run S0 S6 ∧ ∀ k, F139 (.sl io 0 (n + 1) (n + 1)) S5 k = k (.s (strN (U.val a + U.val b))) S6 := fun {n S4 L c io} r4 ho hL hn hl hc hv => by
    obtain ⟨S5, r5, o5, k5, a5⟩ := U.Own_put (x := uu c) ho r4 (i := n) (by rw [List.length_map]; omega) (fun k => cellsK_i _ _ k)
    rw [map_set_uu] at o5
    have hw : Wd S0 S5 io (n + 1) (L.set n c) := ⟨[], by rw [List.length_set]; simpa using hL, by omega, by simpa using o5⟩
    obtain ⟨S6, p1, p2, p3⟩ := epack_run hw r5 (by rw [List.length_set]; omega) (fun z hz => by
      rcases List.mem_or_eq_of_mem_set hz with h | h
      · exact hl z h
      · rw [h]; exact Nat.lt_of_le_of_lt hc (by decide))
    rw [hv, List.length_set, hL] at p3
    exact ⟨S5, S6, a5, p1, p3⟩
  have rep : ∀ n, (∀ z ∈ List.replicate n 0, z < M64) ∧ ∀ j, (List.replicate n 0).getD j 0 = 0 := fun n => ⟨fun z h => by rw [List.eq_of_mem_replicate h]; decide, fun j => by
    rw [List.getD_eq_getElem?_getD, List.getElem?_replicate]; split <;> rfl⟩
  by_cases hs : X.length < Y.length
  · obtain ⟨S4, c', w8, w9, w11, L, z0, z1, z2, z3, z4, z5, z6⟩ := na_loop (io := S2.nx) bY bX (by omega) rfl (Nat.le_of_lt hs) 1000000 0 0 (S2.new ((List.replicate (Y.length + 1) 0).map uu)) (List.replicate (Y.length + 1) 0) .other .other .other .other (by omega) (by omega) (List.length_replicate ..) (by omega) (r2.new _) (Own.new r2 _) (tr y1 _) (tr x1 _) (rep _).1 (fun j _ => (rep _).2 j) (by rw [ofL_rep]; simp)
    obtain ⟨S5, S6, f1, f2, f3⟩ := fin z1 z2 z3 (by omega) z4 z0 (by rw [z5, hX, hY, Nat.add_comm])
    refine ⟨S6, f2, fun k => ?_⟩
    unfold F96 G96
    rw [C96_eq, na_head_s (a := .sl ix 0 X.length mx) (b := .sl iy 0 Y.length my) (o := .sl S2.nx 0 (Y.length + 1) (Y.length + 1)) (w5 := nn Y.length) (w6 := nn Y.length) (w7 := .b false) (w8 := w8) (w9 := w9) (w11 := w11) (w12 := uu c') (S4 := S4) (h1 := x3) (h2 := y3) (h3 := ex) (h4 := ey) (h5 := fun c => by rw [lss_n (by omega) (by omega), decide_eq_true hs]) (h6 := fun c => add_n (by omega) c) (h7 := fun c => mks_u (by omega) S2 c) (hL := fun kn kx kr => ?_) (h8 := fun c => idx_sl _ (by omega) (by omega) c) (h9 := f1) (h10 := f3)]
    obtain ⟨kx', e1, e2⟩ := block_loop_at 0 (B96 F138) kn kx kr
    rw [e2]
    refine (z6 kx' kr _ _ _ _).trans ?_
    rw [e1]
  · obtain ⟨S4, c', w8, w9, w11, L, z0, z1, z2, z3, z4, z5, z6⟩ := na_loop (io := S2.nx) bX bY (by omega) rfl (Nat.le_of_not_lt hs) 1000000 0 0 (S2.new ((List.replicate (X.length + 1) 0).map uu)) (List.replicate (X.length + 1) 0) .other .other .other .other (by omega) (by omega) (List.length_replicate ..) (by omega) (r2.new _) (Own.new r2 _) (tr x1 _) (tr y1 _) (rep _).1 (fun j _ => (rep _).2 j) (by rw [ofL_rep]; simp)
    obtain ⟨S5, S6, f1, f2, f3⟩ := fin z1 z2 z3 (by omega) z4 z0 (by rw [z5, hX, hY])
    refine ⟨S6, f2, fun k => ?_⟩
    unfold F96 G96
    rw [C96_eq, na_head (a := .sl ix 0 X.length mx) (b := .sl iy 0 Y.length my) (o := .sl S2.nx 0 (X.length + 1) (X.length + 1)) (w5 := nn X.length) (w6 := nn X.length) (w7 := .b false) (w8 := w8) (w9 := w9) (w11 := w11) (w12 := uu c') (S4 := S4) (h1 := x3) (h2 := y3) (h3 := ex) (h4 := ey) (h5 := fun c => by rw [lss_n (by omega) (by omega), decide_eq_false hs]) (h6 := fun c => add_n (by omega) c) (h7 := fun c => mks_u (by omega) S2 c) (hL := fun kn kx kr => ?_) (h8 := fun c => idx_sl _ (by omega) (by omega) c) (h9 := f1) (h10 := f3)]
    obtain ⟨kx', e1, e2⟩ := block_loop_at 0 (B96 F138) kn kx kr
    rw [e2]
    refine (z6 kx' kr _ _ _ _).trans ?_
    rw [e1]
def F96t : Gn 2 := cur 2 (pureF (E2 (· + ·) 50000))
theorem K96t : FOK Tryz.prog 96 (un 2 F96t) := E2_ok K96 fun a b ha hb la lb => by
  obtain ⟨S', _, z⟩ := nadd_run ha hb la lb mkS_run
  exact ⟨S', z⟩
end
end Go.AM

/- exact.NatSub, NatCmp, NatOf: pure texts on strings. -/
namespace Go.AM
open Go.Proofs
open Go.AM.Q
open Go.AM.U
set_option linter.unusedVariables false
set_option linter.unusedSimpArgs false
noncomputable section
variable {S0 S : St} {out : V × St}
/- NatSub -/
def B98 (f140 : Gn 3) : CS 12 := (cSeq (cReg fun kn v0 v1 v2 v3 v4 v5 v6 v7 v8 v9 v10 v11 S => pLss v3 v4 (fun a0 => kn v0 v1 v2 v3 v4 a0 v6 v7 v8 v9 v10 v11 S)) (cSeq (cCond (fun x y v0 v1 v2 v3 v4 v5 v6 v7 v8 v9 v10 v11 S => pIf v5 (x v0 v1 v2 v3 v4 v5 v6 v7 v8 v9 v10 v11 S) (y v0 v1 v2 v3 v4 v5 v6 v7 v8 v9 v10 v11 S)) cSkip (cExit 0)) (cSeq (cBlock 1 (cSeq (cReg fun kn v0 v1 v2 v3 v4 v5 v6 v7 v8 v9 v10 v11 S => kn v0 v1 v2 v3 v4 v5 v3 v7 v8 v9 v10 v11 S) (cSeq (cReg fun kn v0 v1 v2 v3 v4 v5 v6 v7 v8 v9 v10 v11 S => kn v0 v1 v2 v3 v4 v5 v6 v7 v8 (.i .u64 0) v10 v11 S) (cSeq (cSeq (cReg fun kn v0 v1 v2 v3 v4 v5 v6 v7 v8 v9 v10 v11 S => pLen v7 (fun a0 => pLss v6 a0 (fun a1 => kn v0 v1 v2 v3 v4 v5 v6 v7 a1 v9 v10 v11 S))) (cCond (fun x y v0 v1 v2 v3 v4 v5 v6 v7 v8 v9 v10 v11 S => pIf v8 (x v0 v1 v2 v3 v4 v5 v6 v7 v8 v9 v10 v11 S) (y v0 v1 v2 v3 v4 v5 v6 v7 v8 v9 v10 v11 S)) (cReg fun kn v0 v1 v2 v3 v4 v5 v6 v7 v8 v9 v10 v11 S => pIdx 1 v7 v6 (fun a0 => pLd a0 S (fun a1 => kn v0 v1 v2 v3 v4 v5 v6 v7 v8 a1 v10 v11 S))) cSkip)) (cReg fun kn v0 v1 v2 v3 v4 v5 v6 v7 v8 v9 v10 v11 S => pIdx 1 v2 v6 (fun a0 => pLd a0 S (fun a1 => f140 a1 v9 v10 S (fun a2 S => pExt a2 0 (fun a3 => pExt a2 1 (fun a4 => pIdx 1 v2 v6 (fun a5 => pSt 1 a5 a3 S (fun S => kn v0 v1 v2 v3 v4 v5 v6 v7 v8 v9 a4 v11 S)))))))))))) (cReg fun kn v0 v1 v2 v3 v4 v5 v6 v7 v8 v9 v10 v11 S => pAdd v3 (.i .i64 1) (fun a0 => kn v0 v1 v2 a0 v4 v5 v6 v7 v8 v9 v10 v11 S)))))
def HT98 (f137 f139 : Gn 1) (I0 : CS 12) : CS 12 := (cSeq (cReg fun kn v0 v1 v2 v3 v4 v5 v6 v7 v8 v9 v10 v11 S => kn v0 v1 v2 v3 v4 v5 v6 v7 v8 v9 v10 (.s []) S) (cSeq (cReg fun kn v0 v1 v2 v3 v4 v5 v6 v7 v8 v9 v10 v11 S => f137 v0 S (fun a0 S => f137 v1 S (fun a1 S => kn v0 v1 a0 v3 v4 v5 v6 a1 v8 v9 v10 v11 S))) (cSeq (cReg fun kn v0 v1 v2 v3 v4 v5 v6 v7 v8 v9 v10 v11 S => kn v0 v1 v2 v3 v4 v5 v6 v7 v8 v9 (.i .u64 0) v11 S) (cSeq (cSeq (cReg fun kn v0 v1 v2 v3 v4 v5 v6 v7 v8 v9 v10 v11 S => pLen v2 (fun a0 => kn v0 v1 v2 (.i .i64 0) a0 v5 v6 v7 v8 v9 v10 v11 S)) I0) (cSeq (cReg fun kn v0 v1 v2 v3 v4 v5 v6 v7 v8 v9 v10 v11 S => f139 v2 S (fun a0 S => kn v0 v1 v2 v3 v4 v5 v6 v7 v8 v9 v10 a0 S)) cRet)))))
theorem C98_eq (f137 f139 : Gn 1) (f140 : Gn 3) : C98 f137 f139 f140 = HT98 f137 f139 (cBlock 0 (cLoop (B98 f140))) := by rfl
section
variable (f137 : Gn 1) (f140 : Gn 3) (f139 : Gn 1) (K : Fn 12) (kx : Nat → Fn 12) (kr : Fn 12) (v0 v1 v2 v3 v4 v5 v6 v7 v8 v9 v10 v11 a b d la lb q q' p x y s o r c' n' w3 w4 w5 w6 w8 w9 w10 : V) (S S1 S2 S3 S4 S5 S6 : St)
theorem ns_end (h1 : ∀ c, pLss v3 v4 c = c (.b false)) : B98 f140 K kx kr v0 v1 v2 v3 v4 v5 v6 v7 v8 v9 v10 v11 S = kx 0 v0 v1 v2 v3 v4 (.b false) v6 v7 v8 v9 v10 v11 S := by
  simp only [B98, cSeq, cReg, cCond, cBlock, cSkip, cExit, cRet, h1, ifF]
theorem ns_two (h1 : ∀ c, pLss v3 v4 c = c (.b true)) (h2 : ∀ c, pLen v7 c = c b) (h3 : ∀ c, pLss v3 b c = c (.b true)) (h4 : ∀ c, pIdx 1 v7 v3 c = c q') (h5 : ∀ c, pLd q' S c = c y) (h6 : ∀ c, pIdx 1 v2 v3 c = c q) (h7 : ∀ c, pLd q S c = c x) (h8 : ∀ k, f140 x y v10 S k = k (.tu [s, c']) S)
    (h10 : ∀ c, pSt 1 q s S c = c S1) (h11 : ∀ c, pAdd v3 (nn 1) c = c n') : B98 f140 K kx kr v0 v1 v2 v3 v4 v5 v6 v7 v8 v9 v10 v11 S = K v0 v1 v2 n' v4 (.b true) v3 v7 (.b true) y c' v11 S1 := by
  simp only [B98, cSeq, cReg, cCond, cBlock, cSkip, cExit, cRet, h1, h2, h3, h4, h5, h6, h7, h8, ext0, ext1, h10, h11, ifT]
theorem ns_one (h1 : ∀ c, pLss v3 v4 c = c (.b true)) (h2 : ∀ c, pLen v7 c = c b) (h3 : ∀ c, pLss v3 b c = c (.b false)) (h6 : ∀ c, pIdx 1 v2 v3 c = c q) (h7 : ∀ c, pLd q S c = c x) (h8 : ∀ k, f140 x (uu 0) v10 S k = k (.tu [s, c']) S)
    (h10 : ∀ c, pSt 1 q s S c = c S1) (h11 : ∀ c, pAdd v3 (nn 1) c = c n') : B98 f140 K kx kr v0 v1 v2 v3 v4 v5 v6 v7 v8 v9 v10 v11 S = K v0 v1 v2 n' v4 (.b true) v3 v7 (.b false) (uu 0) c' v11 S1 := by
  simp only [B98, cSeq, cReg, cCond, cBlock, cSkip, cExit, cRet, h1, h2, h3, h6, h7, h8, ext0, ext1, h10, h11, ifT, ifF]
theorem ns_head (I0 : CS 12) (h1 : ∀ c, f137 v0 S c = c a S1) (h2 : ∀ c, f137 v1 S1 c = c b S2) (h3 : ∀ c, pLen a c = c la)
    (hL : ∀ (kn : Fn 12) (kx : Nat → Fn 12) (kr : Fn 12), I0 kn kx kr v0 v1 a (nn 0) la v5 v6 b v8 v9 (uu 0) (.s []) S2 = kn v0 v1 a w3 w4 w5 w6 b w8 w9 w10 (.s []) S4) (h10 : ∀ c, f139 a S4 c = c r S5) :
    HT98 f137 f139 I0 K kx kr v0 v1 v2 v3 v4 v5 v6 v7 v8 v9 v10 v11 S = kr v0 v1 a w3 w4 w5 w6 b w8 w9 w10 r S5 := by
  simp only [HT98, cSeq, cReg, cCond, cBlock, cSkip, cExit, cRet, h1, h2, h3, hL, h10]
end
theorem idx_sl2 (id : Pos) {n m i : Nat} (hi : i < n) (hn : n ≤ 1073741824) (c : V → R) : pIdx 1 (.sl id 0 n m) (nn i) c = c (.p id i) := by
  show gu (Bool.not (neg .i64 i)) (gu (Nat.blt i n) (fN (Nat.add 0 (Nat.mul i 1)) (fun o => c (.p id o)))) = _
  rw [neg_n (by omega), blt_eq, decide_eq_true hi, fN_eq]
  show c (.p id (0 + i * 1)) = _
  rw [Nat.zero_add, Nat.mul_one]
theorem Wd.put {id : Pos} {m i v : Nat} {l : List Nat} (h : Wd S0 S id m l) (r : Run S0 S) (hi : i < l.length) : ∃ S', Run S0 S' ∧ Wd S0 S' id m (l.set i v) ∧ (∀ q ds, q ≠ id → Own S0 S q ds → Own S0 S' q ds) ∧ ∀ c : St → R, pSt 1 (.p id i) (uu v) S c = c S' := by
  obtain ⟨t, h1, h2, h3⟩ := h
  obtain ⟨S', r1, o1, k1, a1⟩ := U.Own_put (x := uu v) h3 r (i := i) (by rw [List.length_append, List.length_map]; omega) (fun k => cellsK_i _ _ k)
  rw [List.set_append_left _ _ (by rw [List.length_map]; exact hi), map_set_uu] at o1
  exact ⟨S', r1, ⟨t, by rw [List.length_set]; exact h1, h2, o1⟩, k1, a1⟩
theorem Wd.get {id : Pos} {m i : Nat} {l : List Nat} (h : Wd S0 S id m l) (hi : i < l.length) (c : V → R) : pLd (.p id i) S c = c (uu (l.getD i 0)) := by
  obtain ⟨t, h1, h2, h0, n, h3, h4⟩ := h
  refine pLd_eq h3 ?_ c
  rw [List.getElem?_append_left (by rw [List.length_map]; exact hi), List.getElem?_map, getD_of hi]; rfl
theorem sub_word {a b c : Nat} (ha : a < 18446744073709551616) (hb : b < 18446744073709551616) (hc : c ≤ 1) : (a + 18446744073709551616 - (b + c)) % 18446744073709551616 + b + c = a + 18446744073709551616 * (if a < b + c then 1 else 0) := by
  split <;> omega
theorem ns_loop {vy : V} {y : List Nat} {ix : Pos} {n m X : Nat} (hy : ∀ z ∈ y, z < M64) (ln : n ≤ 90000) (hyx : y.length ≤ n) (hYX : ofL M64 y ≤ X) :
    ∀ (N i c : Nat) (S : St) (L : List Nat) (v5 v6 v8 v9 : V), i ≤ n → n < N + i → L.length = n → c ≤ 1 → Run S0 S → Wd S0 S ix m L → TRow S0 vy y S ix → (∀ z ∈ L, z < M64) → ofL M64 L + ofL M64 y = X + M64 ^ i * (c + ofL M64 (y.drop i)) →
    ∃ (S' : St) (w6 w8 w9 w10 : V) (L' : List Nat), Run S0 S' ∧ Wd S0 S' ix m L' ∧ L'.length = n ∧ (∀ z ∈ L', z < M64) ∧ ofL M64 L' = X - ofL M64 y ∧
      ∀ (kx : Nat → Fn 12) (kr : Fn 12) (v0 v1 v11 : V), loopN (B98 F140) kx kr N v0 v1 (.sl ix 0 n m) (nn i) (nn n) v5 v6 vy v8 v9 (uu c) v11 S = kx 0 v0 v1 (.sl ix 0 n m) (nn n) (nn n) (.b false) w6 vy w8 w9 w10 v11 S'
  | 0, i, c, S, L, v5, v6, v8, v9, h1, h2, hL, hc, r, ho, t2, hl, he => by omega
  | N + 1, i, c, S, L, v5, v6, v8, v9, h1, h2, hL, hc, r, ho, t2, hl, he => by
    by_cases hi : i < n
    · have eM : M64 = 18446744073709551616 := rfl
      have bl := getD_lt hl (by decide) i
      have by' := getD_lt hy (by decide) i
      obtain ⟨S1, r1, o1, k1, a1⟩ := ho.put (v := (L.getD i 0 + M64 - (y.getD i 0 + c)) % M64) r (i := i) (by omega)
      have hd : (L.getD i 0 + M64 - (y.getD i 0 + c)) % M64 + y.getD i 0 + c = L.getD i 0 + M64 * (if L.getD i 0 < y.getD i 0 + c then 1 else 0) := by
        exact sub_word bl by' hc
      have hc1 : (if L.getD i 0 < y.getD i 0 + c then 1 else 0) ≤ 1 := by split <;> omega
      have key : ofL M64 (L.set i ((L.getD i 0 + M64 - (y.getD i 0 + c)) % M64)) + ofL M64 y = X + M64 ^ (i + 1) * ((if L.getD i 0 < y.getD i 0 + c then 1 else 0) + ofL M64 (y.drop (i + 1))) := by
        have e1 := ofL_set (B := M64) L i ((L.getD i 0 + M64 - (y.getD i 0 + c)) % M64) (by omega)
        rw [dropG M64 y i] at he
        generalize ofL M64 (y.drop (i + 1)) = Y at *
        generalize (L.getD i 0 + M64 - (y.getD i 0 + c)) % M64 = d at *
        generalize (if L.getD i 0 < y.getD i 0 + c then 1 else 0) = c' at *
        generalize L.getD i 0 = li at *
        generalize y.getD i 0 = yi at *
        rw [Nat.pow_succ]
        generalize M64 ^ i = P at *
        have f1 : P * (d + yi + c) = P * (li + M64 * c') := by rw [hd]
        rw [Nat.mul_add, Nat.mul_add, Nat.mul_add] at f1
        rw [Nat.mul_add, Nat.mul_add] at he
        rw [Nat.mul_add, Nat.mul_assoc, Nat.mul_assoc]
        omega
      obtain ⟨S', w6, w8, w9, w10, L', z1, z2, z3, z4, z5, z6⟩ := ns_loop hy ln hyx hYX N (i + 1) (if L.getD i 0 < y.getD i 0 + c then 1 else 0) S1 (L.set i ((L.getD i 0 + M64 - (y.getD i 0 + c)) % M64)) (.b true) (nn i) (.b (decide (i < y.length))) (if i < y.length then uu (y.getD i 0) else uu 0) hi (by omega) (by rw [List.length_set]; exact hL) hc1 r1 o1 (t2.step k1) (fun z hz => by
        rcases List.mem_or_eq_of_mem_set hz with h | h
        · exact hl z h
        · rw [h]; exact Nat.mod_lt _ (by decide)) key
      refine ⟨S', w6, w8, w9, w10, L', z1, z2, z3, z4, z5, fun kx kr v0 v1 v11 => ?_⟩
      rw [loopN_succ]
      refine Eq.trans ?_ (z6 kx kr v0 v1 v11)
      by_cases hyi : i < y.length
      · obtain ⟨q', t5, t6⟩ := t2.row.get hyi
        rw [if_pos hyi, decide_eq_true hyi, ns_two (h1 := fun c => by rw [lss_n (by omega) (by omega), decide_eq_true hi]) (h2 := t2.row.len.1) (h3 := fun c => by rw [lss_n (by omega) (by omega), decide_eq_true hyi]) (h4 := t5) (h5 := t6) (h6 := fun c => idx_sl2 ix (by omega) (by omega) c) (h7 := fun c => ho.get (by omega) c) (h8 := fun k => f140_eq hc S k) (h10 := a1) (h11 := fun c => add_n (by omega) c)]
      · have hy0 := getD_out hyi
        rw [hy0] at a1 ⊢
        rw [if_neg hyi, decide_eq_false hyi, ns_one (h1 := fun c => by rw [lss_n (by omega) (by omega), decide_eq_true hi]) (h2 := t2.row.len.1) (h3 := fun c => by rw [lss_n (by omega) (by omega), decide_eq_false hyi]) (h6 := fun c => idx_sl2 ix (by omega) (by omega) c) (h7 := fun c => ho.get (by omega) c) (h8 := fun k => f140_eq hc S k) (h10 := a1) (h11 := fun c => add_n (by omega) c)]
    · have : i = n := by omega
      subst this
      refine ⟨S, v6, v8, v9, uu c, L, r, ho, hL, hl, ?_, fun kx kr v0 v1 v11 => ?_⟩
      · rw [List.drop_eq_nil_of_le hyx] at he
        have hlt := ofL_lt (B := M64) (by decide) hl
        rw [hL] at hlt
        have he : ofL M64 L + ofL M64 y = X + M64 ^ i * (c + 0) := he
        rw [Nat.add_zero] at he
        have : c = 0 := by
          rcases Nat.eq_zero_or_pos c with h | h
          · exact h
          · have : c = 1 := by omega
            subst this
            rw [Nat.mul_one] at he
            omega
        subst this
        rw [Nat.mul_zero, Nat.add_zero] at he
        omega
      · rw [loopN_succ, ns_end (h1 := fun c => by rw [lss_n (by omega) (by omega), decide_eq_false (by omega)])]
theorem dg_mono_len {B : Nat} (hB : 2 ≤ B) {a b : Nat} (h : b ≤ a) : (dg B b).length ≤ (dg B a).length := by
  refine dg_len hB _ _ (Nat.lt_of_le_of_lt h ?_)
  have := ofL_lt (B := B) (by omega) (l := dg B a) (dg_lt hB a)
  rwa [ofL_dg hB] at this
theorem nsub_run {a b : List Nat} (ha : By a) (hb : By b) (la : a.length ≤ 50000) (lb : b.length ≤ 50000) (hab : U.val b ≤ U.val a) (r : Run S0 S) : ∃ S', Run S0 S' ∧ ∀ k, F98 (.s a) (.s b) S k = k (.s (strN (U.val a - U.val b))) S' := by
  obtain ⟨S1, ix, mx, r1, x1, x2, x3⟩ := words_run ha (by omega) r
  obtain ⟨S2, iy, my, r2, y1, y2, y3⟩ := words_run hb (by omega) r1
  have lx := len_w ha
  have hX : ofL M64 (dg M64 (U.val a)) = U.val a := ofL_dg (by decide) _
  have hY : ofL M64 (dg M64 (U.val b)) = U.val b := ofL_dg (by decide) _
  have bX : ∀ z ∈ dg M64 (U.val a), z < M64 := dg_lt (by decide) _
  have bY : ∀ z ∈ dg M64 (U.val b), z < M64 := dg_lt (by decide) _
  have hlen := dg_mono_len (B := M64) (by decide) hab
  generalize dg M64 (U.val a) = X at *
  generalize dg M64 (U.val b) = Y at *
  have hne : ix ≠ iy := by obtain ⟨t, g1, g2, g3⟩ := x1; exact (y2 _ _ g3).2
  have x1 : Wd S0 S2 ix mx X := by obtain ⟨t, g1, g2, g3⟩ := x1; exact ⟨t, g1, g2, (y2 _ _ g3).1⟩
  have ex := x1.row.len.1
  have hmx : X.length ≤ mx ∧ mx ≤ 500000 := by obtain ⟨t, g1, g2, _⟩ := x1; omega
  obtain ⟨S3, w6, w8, w9, w10, L, z1, z2, z3, z4, z5, z6⟩ := ns_loop (n := X.length) (m := mx) (X := U.val a) bY (by omega) hlen (by omega) 1000000 0 0 S2 X .other .other .other .other (by omega) (by omega) rfl (by omega) r2 x1 (y1.trow (Ne.symm hne)) bX (by rw [hX]; simp)
  have hm : mx ≤ 100000 ∨ 100000 < mx := by omega
  have ⟨S4, p1, p2, p3⟩ : ∃ S4, Run S0 S4 ∧ (∀ q ds, Own S0 S3 q ds → Own S0 S4 q ds) ∧ ∀ k, F139 (.sl ix 0 L.length mx) S3 k = k (.s (strN (ofL M64 L))) S4 := epack_run z2 z1 (by omega) z4
  rw [z3, z5, hY] at p3
  refine ⟨S4, p1, fun k => ?_⟩
  unfold F98 G98
  rw [C98_eq, ns_head (a := .sl ix 0 X.length mx) (b := .sl iy 0 Y.length my) (w3 := nn X.length) (w4 := nn X.length) (w5 := .b false) (w6 := w6) (w8 := w8) (w9 := w9) (w10 := w10) (S4 := S3) (h1 := x3) (h2 := y3) (h3 := ex) (hL := fun kn kx kr => ?_) (h10 := p3)]
  obtain ⟨kx', e1, e2⟩ := block_loop_at 0 (B98 F140) kn kx kr
  rw [e2]
  refine (z6 kx' kr _ _ _).trans ?_
  rw [e1]
end
end Go.AM
