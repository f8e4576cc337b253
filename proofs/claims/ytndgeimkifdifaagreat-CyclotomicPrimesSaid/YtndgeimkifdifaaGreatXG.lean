/- fp.Trim, fp.Mul, fp.DivMod: the machine's texts on lists of numbers. -/
import Derived.Test.YtndgeimkifdifaaGreatXF
import Derived.Test.YtndgeimkifdifaaGreatR48
namespace Go.AM
set_option linter.unusedVariables false
set_option linter.unusedSimpArgs false
noncomputable section
theorem loopN_succ {n : Nat} (c : CS n) (kx : Nat → Fn n) (kr : Fn n) (N : Nat) : loopN c kx kr (N + 1) = c (loopN c kx kr N) kx kr := by rfl
theorem block_loop0 {n : Nat} (c : CS n) (kn : Fn n) (kx : Nat → Fn n) (kr : Fn n) : ∃ kx' : Nat → Fn n, kx' 0 = kn ∧ cBlock 0 (cLoop c) kn kx kr = loopN c kx' kr 1000000 :=
  ⟨fun id' => Bool.rec (fun kx kn => kx) (fun kx kn => kn) (Nat.beq id' 0) (kx id') kn, rfl, by unfold cBlock cLoop; rfl⟩
theorem block_loop2 {n : Nat} (c : CS n) (kn : Fn n) (kx : Nat → Fn n) (kr : Fn n) : ∃ kx' : Nat → Fn n, kx' 2 = kn ∧ cBlock 2 (cLoop c) kn kx kr = loopN c kx' kr 1000000 :=
  ⟨fun id' => Bool.rec (fun kx kn => kx) (fun kx kn => kn) (Nat.beq id' 2) (kx id') kn, rfl, by unfold cBlock cLoop; rfl⟩
theorem ifT (x y : R) : pIf (.b true) x y = x := by rfl
theorem ifF (x y : R) : pIf (.b false) x y = y := by rfl
/- Trim -/
def B188 : CS 4 := (cSeq (cSeq (cReg fun kn v0 v1 v2 v3 S => pGtr v1 (.i .i64 0) (fun a0 => pGd a0 true (fun c => c v0 S) S (fun a1 S => pGd a0 true (fun c => c v1 S) S (fun a2 S => pGd a0 true (fun c => pSub a2 (.i .i64 1) (fun v => c v S)) S (fun a3 S => pGd a0 true (fun c => pIdx 1 a1 a3 (fun v => c v S)) S (fun a4 S => pGd a0 true (fun c => pLd a4 S (fun v => c v S)) S (fun a5 S => pGd a0 true (fun c => pEql a5 (.i .i64 0) (fun v => c v S)) S (fun a6 S => pPick a0 a6 (.b false) (fun a7 => kn v0 v1 a7 v3 S))))))))) (cCond (fun x y v0 v1 v2 v3 S => pIf v2 (x v0 v1 v2 v3 S) (y v0 v1 v2 v3 S)) cSkip (cExit 0))) (cBlock 1 (cReg fun kn v0 v1 v2 v3 S => pSub v1 (.i .i64 1) (fun a0 => kn v0 a0 v2 v3 S))))
def Q188 (Lp : CS 4) : CS 4 := (cSeq (cReg fun kn v0 v1 v2 v3 S => kn v0 v1 v2 .sn S) (cSeq (cReg fun kn v0 v1 v2 v3 S => pLen v0 (fun a0 => kn v0 a0 v2 v3 S)) (cSeq Lp (cSeq (cReg fun kn v0 v1 v2 v3 S => pSlc 1 v0 none (some v1) (some v1) (fun a0 => kn v0 v1 v2 a0 S)) cRet))))
theorem C188_eq : C188 = Q188 (cBlock 0 (cLoop B188)) := by rfl
section
variable (K : Fn 4) (kx : Nat → Fn 4) (kr : Fn 4) (v0 v1 v2 v3 n' q x a b c d : V) (S : St)
theorem tr_end (h1 : ∀ c, pGtr v1 (nn 0) c = c (.b false)) : B188 K kx kr v0 v1 v2 v3 S = kx 0 v0 v1 (.b false) v3 S := by
  simp only [B188, cSeq, cReg, cCond, cBlock, cSkip, cExit, cRet, h1, pGd_ft, pPick_f, ifF]
theorem tr_stop (h1 : ∀ c, pGtr v1 (nn 0) c = c (.b true)) (h2 : ∀ c, pSub v1 (nn 1) c = c n') (h3 : ∀ c, pIdx 1 v0 n' c = c q) (h4 : ∀ c, pLd q S c = c x) (h5 : ∀ c, pEql x (nn 0) c = c (.b false)) : B188 K kx kr v0 v1 v2 v3 S = kx 0 v0 v1 (.b false) v3 S := by
  simp only [B188, cSeq, cReg, cCond, cBlock, cSkip, cExit, cRet, h1, h2, h3, h4, h5, pGd_tt, pPick_t, ifF]
theorem tr_go (h1 : ∀ c, pGtr v1 (nn 0) c = c (.b true)) (h2 : ∀ c, pSub v1 (nn 1) c = c n') (h3 : ∀ c, pIdx 1 v0 n' c = c q) (h4 : ∀ c, pLd q S c = c x) (h5 : ∀ c, pEql x (nn 0) c = c (.b true)) : B188 K kx kr v0 v1 v2 v3 S = K v0 n' (.b true) v3 S := by
  simp only [B188, cSeq, cReg, cCond, cBlock, cSkip, cExit, cRet, h1, h2, h3, h4, h5, pGd_tt, pPick_t, ifT]
theorem tr_head (Lp : CS 4) (r : V) (h1 : ∀ c, pLen v0 c = c a) (hL : ∀ (kn : Fn 4) (kx : Nat → Fn 4) (kr : Fn 4), Lp kn kx kr v0 a v2 .sn S = kn v0 b (.b false) .sn S) (h2 : ∀ c, pSlc 1 v0 none (some b) (some b) c = c r) :
    Q188 Lp K kx kr v0 v1 v2 v3 S = kr v0 b (.b false) r S := by
  simp only [Q188, cSeq, cReg, cCond, cBlock, cSkip, cExit, cRet, h1, h2, hL]
end
theorem sub_n {a b : Nat} (h : b ≤ a) (ha : a < 9223372036854775808) (c : V → R) : pSub (nn a) (nn b) c = c (nn (a - b)) := by
  rw [pSub_i]
  congr 2
  show (a + (18446744073709551616 - b)) % 18446744073709551616 = _
  rw [show a + (18446744073709551616 - b) = (a - b) + 18446744073709551616 by omega, Nat.add_mod_right, Nat.mod_eq_of_lt (by omega)]
theorem trim_loop {S : St} {v : V} {l : List Nat} (h : Row S v l) (hl : l.length ≤ 500000) (kx : Nat → Fn 4) (kr : Fn 4) (v3 : V) : ∀ (N n : Nat) (v2 : V), n ≤ l.length → n < N → loopN B188 kx kr N v (nn n) v2 v3 S = kx 0 v (nn (trimN l n)) (.b false) v3 S
  | 0, n, v2, h1, h2 => by omega
  | N + 1, 0, v2, h1, h2 => by
    rw [loopN_succ, tr_end _ _ _ _ _ _ _ _ (fun c => by rw [gtr_n (by omega) (by omega)]; rfl)]; rfl
  | N + 1, n + 1, v2, h1, h2 => by
    have hg := getD_of (l := l) (i := n) (by omega)
    obtain ⟨q, h3, h4⟩ := h.get hg (by omega)
    have g1 : ∀ c, pGtr (nn (n + 1)) (nn 0) c = c (.b true) := fun c => by rw [gtr_n (by omega) (by omega), decide_eq_true (by omega)]
    have g2 : ∀ c, pSub (nn (n + 1)) (nn 1) c = c (nn n) := fun c => sub_n (by omega) (by omega) c
    rw [loopN_succ]
    by_cases h0 : l.getD n 0 = 0
    · rw [tr_go _ _ _ _ _ _ _ (nn n) q (nn (l.getD n 0)) S g1 g2 h3 h4 (fun c => by rw [eql_n, decide_eq_true h0]), trim_loop h hl kx kr v3 N n _ (by omega) (by omega)]
      simp only [trimN]
      rw [h0]; rfl
    · rw [tr_stop _ _ _ _ _ _ _ (nn n) q (nn (l.getD n 0)) S g1 g2 h3 h4 (fun c => by rw [eql_n, decide_eq_false h0])]
      simp only [trimN]
      have : Nat.beq (l.getD n 0) 0 = false := by
        cases hb : Nat.beq (l.getD n 0) 0
        · rfl
        · exact absurd (Nat.eq_of_beq_eq_true hb) h0
      rw [this]; rfl
theorem trim_run {S : St} {id : Pos} {m c : Nat} {l : List Nat} (h : Row S (.sl id 0 m c) l) (hl : l.length ≤ 500000) (hmc : m ≤ c) (hc : c ≤ 1073741824) (k : Cont) : F188 (.sl id 0 m c) S k = k (.sl id 0 (trimN l l.length) (trimN l l.length)) S := by
  have hm : m = l.length := h.1
  unfold F188 G188
  rw [C188_eq, tr_head _ _ _ _ _ _ _ (nn l.length) (nn (trimN l l.length)) S _ (.sl id 0 (trimN l l.length) (trimN l l.length)) (fun c => h.len (by omega) c) (fun kn kx kr => ?_) (fun c => pSlc_hm id (by rw [hm]; exact trimN_le l _) hmc hc c)]
  obtain ⟨kx', e1, e2⟩ := block_loop0 B188 kn kx kr
  rw [e2, trim_loop h hl kx' kr .sn 1000000 l.length _ (Nat.le_refl _) (by omega), e1]
/- Mul -/
def BMI : CS 18 := (cSeq (cReg fun kn v0 v1 v2 v3 v4 v5 v6 v7 v8 v9 v10 v11 v12 v13 v14 v15 v16 v17 S => pLss v8 v9 (fun a0 => kn v0 v1 v2 v3 v4 v5 v6 v7 v8 v9 a0 v11 v12 v13 v14 v15 v16 v17 S)) (cSeq (cCond (fun x y v0 v1 v2 v3 v4 v5 v6 v7 v8 v9 v10 v11 v12 v13 v14 v15 v16 v17 S => pIf v10 (x v0 v1 v2 v3 v4 v5 v6 v7 v8 v9 v10 v11 v12 v13 v14 v15 v16 v17 S) (y v0 v1 v2 v3 v4 v5 v6 v7 v8 v9 v10 v11 v12 v13 v14 v15 v16 v17 S)) cSkip (cExit 2)) (cSeq (cBlock 3 (cSeq (cReg fun kn v0 v1 v2 v3 v4 v5 v6 v7 v8 v9 v10 v11 v12 v13 v14 v15 v16 v17 S => pIdx 1 v11 v8 (fun a0 => pLd a0 S (fun a1 => kn v0 v1 v2 v3 v4 v5 v6 v7 v8 v9 v10 v11 v12 v13 v8 v15 a1 v17 S))) (cReg fun kn v0 v1 v2 v3 v4 v5 v6 v7 v8 v9 v10 v11 v12 v13 v14 v15 v16 v17 S => pAdd v13 v14 (fun a0 => pAdd v13 v14 (fun a1 => pIdx 1 v12 a1 (fun a2 => pLd a2 S (fun a3 => pMul v15 v16 (fun a4 => pAdd a3 a4 (fun a5 => pRem a5 v0 (fun a6 => pIdx 1 v12 a0 (fun a7 => pSt 1 a7 a6 S (fun S => kn v0 v1 v2 v3 v4 v5 v6 v7 v8 v9 v10 v11 v12 v13 v14 v15 v16 v17 S)))))))))))) (cReg fun kn v0 v1 v2 v3 v4 v5 v6 v7 v8 v9 v10 v11 v12 v13 v14 v15 v16 v17 S => pAdd v8 (.i .i64 1) (fun a0 => kn v0 v1 v2 v3 v4 v5 v6 v7 a0 v9 v10 v11 v12 v13 v14 v15 v16 v17 S)))))
def BMO (Ip : CS 18) : CS 18 := (cSeq (cReg fun kn v0 v1 v2 v3 v4 v5 v6 v7 v8 v9 v10 v11 v12 v13 v14 v15 v16 v17 S => pLss v4 v5 (fun a0 => kn v0 v1 v2 v3 v4 v5 a0 v7 v8 v9 v10 v11 v12 v13 v14 v15 v16 v17 S)) (cSeq (cCond (fun x y v0 v1 v2 v3 v4 v5 v6 v7 v8 v9 v10 v11 v12 v13 v14 v15 v16 v17 S => pIf v6 (x v0 v1 v2 v3 v4 v5 v6 v7 v8 v9 v10 v11 v12 v13 v14 v15 v16 v17 S) (y v0 v1 v2 v3 v4 v5 v6 v7 v8 v9 v10 v11 v12 v13 v14 v15 v16 v17 S)) cSkip (cExit 0)) (cSeq (cBlock 1 (cSeq (cReg fun kn v0 v1 v2 v3 v4 v5 v6 v7 v8 v9 v10 v11 v12 v13 v14 v15 v16 v17 S => pIdx 1 v7 v4 (fun a0 => pLd a0 S (fun a1 => kn v0 v1 v2 v3 v4 v5 v6 v7 v8 v9 v10 v11 v12 v4 v14 a1 v16 v17 S))) (cSeq (cReg fun kn v0 v1 v2 v3 v4 v5 v6 v7 v8 v9 v10 v11 v12 v13 v14 v15 v16 v17 S => pLen v2 (fun a0 => kn v0 v1 v2 v3 v4 v5 v6 v7 (.i .i64 0) a0 v10 v2 v12 v13 v14 v15 v16 v17 S)) Ip))) (cReg fun kn v0 v1 v2 v3 v4 v5 v6 v7 v8 v9 v10 v11 v12 v13 v14 v15 v16 v17 S => pAdd v4 (.i .i64 1) (fun a0 => kn v0 v1 v2 v3 a0 v5 v6 v7 v8 v9 v10 v11 v12 v13 v14 v15 v16 v17 S)))))
def HM (f188 : Gn 1) (Lp : CS 18) : CS 18 := (cSeq (cReg fun kn v0 v1 v2 v3 v4 v5 v6 v7 v8 v9 v10 v11 v12 v13 v14 v15 v16 v17 S => kn v0 v1 v2 v3 v4 v5 v6 v7 v8 v9 v10 v11 v12 v13 v14 v15 v16 .sn S) (cSeq (cSeq (cReg fun kn v0 v1 v2 v3 v4 v5 v6 v7 v8 v9 v10 v11 v12 v13 v14 v15 v16 v17 S => pLen v1 (fun a0 => pEql a0 (.i .i64 0) (fun a1 => pGd a1 false (fun c => c v2 S) S (fun a2 S => pGd a1 false (fun c => pLen a2 (fun v => c v S)) S (fun a3 S => pGd a1 false (fun c => pEql a3 (.i .i64 0) (fun v => c v S)) S (fun a4 S => pPick a1 (.b true) a4 (fun a5 => kn v0 v1 v2 a5 v4 v5 v6 v7 v8 v9 v10 v11 v12 v13 v14 v15 v16 v17 S))))))) (cCond (fun x y v0 v1 v2 v3 v4 v5 v6 v7 v8 v9 v10 v11 v12 v13 v14 v15 v16 v17 S => pIf v3 (x v0 v1 v2 v3 v4 v5 v6 v7 v8 v9 v10 v11 v12 v13 v14 v15 v16 v17 S) (y v0 v1 v2 v3 v4 v5 v6 v7 v8 v9 v10 v11 v12 v13 v14 v15 v16 v17 S)) (cSeq (cReg fun kn v0 v1 v2 v3 v4 v5 v6 v7 v8 v9 v10 v11 v12 v13 v14 v15 v16 v17 S => kn v0 v1 v2 v3 v4 v5 v6 v7 v8 v9 v10 v11 v12 v13 v14 v15 v16 .sn S) cRet) cSkip)) (cSeq (cReg fun kn v0 v1 v2 v3 v4 v5 v6 v7 v8 v9 v10 v11 v12 v13 v14 v15 v16 v17 S => pLen v1 (fun a0 => pLen v2 (fun a1 => pAdd a0 a1 (fun a2 => pSub a2 (.i .i64 1) (fun a3 => pMks [(.i .i64 0)] a3 a3 S (fun a4 S => kn v0 v1 v2 v3 v4 v5 v6 v7 v8 v9 v10 v11 a4 v13 v14 v15 v16 v17 S)))))) (cSeq (cSeq (cReg fun kn v0 v1 v2 v3 v4 v5 v6 v7 v8 v9 v10 v11 v12 v13 v14 v15 v16 v17 S => pLen v1 (fun a0 => kn v0 v1 v2 v3 (.i .i64 0) a0 v6 v1 v8 v9 v10 v11 v12 v13 v14 v15 v16 v17 S)) Lp) (cSeq (cReg fun kn v0 v1 v2 v3 v4 v5 v6 v7 v8 v9 v10 v11 v12 v13 v14 v15 v16 v17 S => f188 v12 S (fun a0 S => kn v0 v1 v2 v3 v4 v5 v6 v7 v8 v9 v10 v11 v12 v13 v14 v15 v16 a0 S)) cRet)))))
theorem C254_eq (F : Gn 1) : C254 F = HM F (cBlock 0 (cLoop (BMO (cBlock 2 (cLoop BMI))))) := by rfl
section
variable (K : Fn 18) (kx : Nat → Fn 18) (kr : Fn 18) (v0 v1 v2 v3 v4 v5 v6 v7 v8 v9 v10 v11 v12 v13 v14 v15 v16 v17 a b c d e f g h a_ b_ c_ d_ e_ f_ g_ h_ i_ j_ : V) (S S' S2 : St)
theorem mi_end (h1 : ∀ c, pLss v8 v9 c = c (.b false)) : BMI K kx kr v0 v1 v2 v3 v4 v5 v6 v7 v8 v9 v10 v11 v12 v13 v14 v15 v16 v17 S = kx 2 v0 v1 v2 v3 v4 v5 v6 v7 v8 v9 (.b false) v11 v12 v13 v14 v15 v16 v17 S := by
  simp only [BMI, cSeq, cReg, cCond, cBlock, cSkip, cExit, cRet, h1, ifF]
theorem mi_go (h1 : ∀ c, pLss v8 v9 c = c (.b true)) (h2 : ∀ c, pIdx 1 v11 v8 c = c a) (h3 : ∀ c, pLd a S c = c b) (h4 : ∀ c, pAdd v13 v8 c = c d) (h5 : ∀ c, pIdx 1 v12 d c = c e) (h6 : ∀ c, pLd e S c = c f) (h7 : ∀ c, pMul v15 b c = c g) (h8 : ∀ k, pAdd f g k = k h) (h9 : ∀ c, pRem h v0 c = c c_) (h10 : ∀ c : St → R, pSt 1 e c_ S c = c S') (h11 : ∀ c, pAdd v8 (nn 1) c = c j_) :
    BMI K kx kr v0 v1 v2 v3 v4 v5 v6 v7 v8 v9 v10 v11 v12 v13 v14 v15 v16 v17 S = K v0 v1 v2 v3 v4 v5 v6 v7 j_ v9 (.b true) v11 v12 v13 v8 v15 b v17 S' := by
  simp only [BMI, cSeq, cReg, cCond, cBlock, cSkip, cExit, cRet, h1, h2, h3, h4, h5, h6, h7, h8, h9, h10, h11, ifT]
theorem mo_end (Ip : CS 18) (h1 : ∀ c, pLss v4 v5 c = c (.b false)) : BMO Ip K kx kr v0 v1 v2 v3 v4 v5 v6 v7 v8 v9 v10 v11 v12 v13 v14 v15 v16 v17 S = kx 0 v0 v1 v2 v3 v4 v5 (.b false) v7 v8 v9 v10 v11 v12 v13 v14 v15 v16 v17 S := by
  simp only [BMO, cSeq, cReg, cCond, cBlock, cSkip, cExit, cRet, h1, ifF]
theorem mo_go (Ip : CS 18) (h1 : ∀ c, pLss v4 v5 c = c (.b true)) (h2 : ∀ c, pIdx 1 v7 v4 c = c a) (h3 : ∀ c, pLd a S c = c b) (h4 : ∀ c, pLen v2 c = c d) (h5 : ∀ c, pAdd v4 (nn 1) c = c e)
    (hI : ∀ (kn : Fn 18) (kx : Nat → Fn 18) (kr : Fn 18), Ip kn kx kr v0 v1 v2 v3 v4 v5 (.b true) v7 (nn 0) d v10 v2 v12 v4 v14 b v16 v17 S = kn v0 v1 v2 v3 v4 v5 (.b true) v7 d d (.b false) v2 v12 v4 f b g v17 S') :
    BMO Ip K kx kr v0 v1 v2 v3 v4 v5 v6 v7 v8 v9 v10 v11 v12 v13 v14 v15 v16 v17 S = K v0 v1 v2 v3 e v5 (.b true) v7 d d (.b false) v2 v12 v4 f b g v17 S' := by
  simp only [BMO, cSeq, cReg, cCond, cBlock, cSkip, cExit, cRet, h1, h2, h3, h4, h5, hI, ifT]
theorem m_head (F : Gn 1) (Lp : CS 18) (h1 : ∀ c, pLen v1 c = c a) (h2 : ∀ c, pLen v2 c = c b) (h3 : ∀ c, pEql a (nn 0) c = c (.b false)) (h4 : ∀ c, pEql b (nn 0) c = c (.b false)) (h5 : ∀ c, pAdd a b c = c d) (h6 : ∀ c, pSub d (nn 1) c = c e) (h7 : ∀ c, pMks [nn 0] e e S c = c f S')
    (hL : ∀ (kn : Fn 18) (kx : Nat → Fn 18) (kr : Fn 18), Lp kn kx kr v0 v1 v2 (.b false) (nn 0) a v6 v1 v8 v9 v10 v11 f v13 v14 v15 v16 .sn S' = kn v0 v1 v2 (.b false) a a (.b false) v1 b_ c_ d_ e_ f g_ h_ i_ j_ .sn S2) (h8 : ∀ k, F f S2 k = k g S2) :
    HM F Lp K kx kr v0 v1 v2 v3 v4 v5 v6 v7 v8 v9 v10 v11 v12 v13 v14 v15 v16 v17 S = kr v0 v1 v2 (.b false) a a (.b false) v1 b_ c_ d_ e_ f g_ h_ i_ j_ g S2 := by
  simp only [HM, cSeq, cReg, cCond, cBlock, cSkip, cExit, cRet, h1, h2, h3, h4, h5, h6, h7, h8, hL, pGd_ff, pPick_f, ifF]
end
def rowS (p x : Nat) : List Nat → Nat → List Nat → List Nat
  | [], _, o => o
  | y :: g, n, o => rowS p x g (n + 1) (o.set n ((o.getD n 0 + x * y) % p))
def mulS (p : Nat) (g : List Nat) : List Nat → Nat → List Nat → List Nat
  | [], _, o => o
  | x :: f, n, o => mulS p g f (n + 1) (rowS p x g n o)
theorem rowS_len (p x : Nat) : ∀ (g : List Nat) (n : Nat) (o : List Nat), (rowS p x g n o).length = o.length
  | [], _, o => rfl
  | y :: g, n, o => by simp only [rowS]; rw [rowS_len p x g]; simp
theorem mulS_len (p : Nat) (g : List Nat) : ∀ (f : List Nat) (n : Nat) (o : List Nat), (mulS p g f n o).length = o.length
  | [], _, o => rfl
  | y :: f, n, o => by simp only [mulS]; rw [mulS_len p g f, rowS_len]
theorem rowS_sm {p : Nat} (h0 : 0 < p) (hp : p ≤ 65536) (x : Nat) : ∀ (g : List Nat) (n : Nat) (o : List Nat), Sm o → Sm (rowS p x g n o)
  | [], _, o, h => h
  | y :: g, n, o, h => rowS_sm h0 hp x g _ _ (h.set n (Nat.lt_of_lt_of_le (Nat.mod_lt _ h0) hp))
theorem mulS_sm {p : Nat} (h0 : 0 < p) (hp : p ≤ 65536) (g : List Nat) : ∀ (f : List Nat) (n : Nat) (o : List Nat), Sm o → Sm (mulS p g f n o)
  | [], _, o, h => h
  | x :: f, n, o, h => mulS_sm h0 hp g f _ _ (rowS_sm h0 hp x g n o h)
theorem drop_cons {l : List Nat} {j : Nat} (h : j < l.length) : l.drop j = l.getD j 0 :: l.drop (j + 1) := by
  rw [List.drop_eq_getElem_cons h]; congr 1; rw [List.getD_eq_getElem?_getD, List.getElem?_eq_getElem h]; rfl
theorem mul_lt {a b : Nat} (ha : a < 65536) (hb : b < 65536) : a * b < 4294967296 := by
  calc a * b ≤ a * 65535 := Nat.mul_le_mul_left _ (by omega)
    _ ≤ 65535 * 65535 := Nat.mul_le_mul_right _ (by omega)
    _ < _ := by decide
theorem mul_in {S0 : St} (ok0 : SOK S0) {p x i m : Nat} {vg : V} {g : List Nat} {id : Pos} (h0 : 0 < p) (hp : p ≤ 65536) (hx : x < 65536) (hg : Row S0 vg g) (sg : Sm g) (hid : S0.cnt ≤ id.num) (him : i + g.length ≤ m) (hm : m ≤ 500000) : ∀ (N j : Nat) (L : List Nat) (S : St) (v14 v16 v10 : V), j ≤ g.length → g.length < j + N → L.length = m → Sm L → Has S id L → Old S0 S →
    ∃ v14' v16' S', Has S' id (rowS p x (g.drop j) (i + j) L) ∧ Kept S S' id ∧ ∀ (kx : Nat → Fn 18) (kr : Fn 18) (v1 v2 v3 v4 v5 v6 v7 v17 : V), loopN BMI kx kr N (nn p) v1 v2 v3 v4 v5 v6 v7 (nn j) (nn g.length) v10 vg (.sl id 0 m m) (nn i) v14 (nn x) v16 v17 S = kx 2 (nn p) v1 v2 v3 v4 v5 v6 v7 (nn g.length) (nn g.length) (.b false) vg (.sl id 0 m m) (nn i) v14' (nn x) v16' v17 S'
  | 0, j, L, S, v14, v16, v10, h1, h2, hL, sL, hS, ho => by omega
  | N + 1, j, L, S, v14, v16, v10, h1, h2, hL, sL, hS, ho => by
    by_cases hj : j < g.length
    · have hgj := getD_of hj
      have hLj := getD_of (l := L) (i := i + j) (by omega)
      obtain ⟨q, q1, q2⟩ := (hg.old ok0 ho).get hgj (by omega)
      have b1 := sg.get hgj
      have b2 := sL.get hLj
      have b3 := mul_lt hx b1
      obtain ⟨S1, s1, s2, s3⟩ := hS.set (i := i + j) (by omega) ((L.getD (i + j) 0 + x * g.getD j 0) % p)
      obtain ⟨v14', v16', S', r1, r2, r3⟩ := mul_in ok0 h0 hp hx hg sg hid him hm N (j + 1) (L.set (i + j) ((L.getD (i + j) 0 + x * g.getD j 0) % p)) S1 (nn j) (nn (g.getD j 0)) (.b true) (by omega) (by omega) (by simpa using hL) (sL.set _ (Nat.lt_of_lt_of_le (Nat.mod_lt _ h0) hp)) s1 (s2.old _ hid ho)
      refine ⟨v14', v16', S', ?_, s2.trans r2, fun kx kr v1 v2 v3 v4 v5 v6 v7 v17 => ?_⟩
      · rw [drop_cons hj]; exact r1
      · rw [loopN_succ, mi_go (h1 := fun c => by rw [lss_n (by omega) (by omega), decide_eq_true hj]) (h2 := q1) (h3 := q2) (h4 := fun c => add_n (by omega) c) (h5 := fun c => Has.idx id (by omega) (by omega) c) (h6 := fun c => hS.get hLj c) (h7 := fun c => mul_n (by omega) c) (h8 := fun c => add_n (by omega) c) (h9 := fun c => rem_n (by omega) h0 (by omega) c) (h10 := s3) (h11 := fun c => add_n (by omega) c)]
        exact r3 kx kr v1 v2 v3 v4 v5 v6 v7 v17
    · have : j = g.length := by omega
      subst this
      refine ⟨v14, v16, S, by rw [List.drop_length]; exact hS, .refl _, fun kx kr v1 v2 v3 v4 v5 v6 v7 v17 => ?_⟩
      rw [loopN_succ, mi_end (h1 := fun c => by rw [lss_n (by omega) (by omega), decide_eq_false (by omega)])]
theorem mul_out {S0 : St} (ok0 : SOK S0) {p m : Nat} {vf vg : V} {f g : List Nat} {id : Pos} (h0 : 0 < p) (hp : p ≤ 65536) (hf : Row S0 vf f) (sf : Sm f) (hg : Row S0 vg g) (sg : Sm g) (hid : S0.cnt ≤ id.num) (him : f.length + g.length ≤ m + 1) (hm : m ≤ 500000) (hf5 : f.length ≤ 500000) (hg5 : g.length ≤ 500000) : ∀ (N i : Nat) (L : List Nat) (S : St) (v6 v8 v9 v10 v11 v13 v14 v15 v16 : V), i ≤ f.length → f.length < i + N → L.length = m → Sm L → Has S id L → Old S0 S →
    ∃ v8' v9' v10' v11' v13' v14' v15' v16' S', Has S' id (mulS p g (f.drop i) i L) ∧ Kept S S' id ∧ ∀ (kx : Nat → Fn 18) (kr : Fn 18) (v3 v17 : V), loopN (BMO (cBlock 2 (cLoop BMI))) kx kr N (nn p) vf vg v3 (nn i) (nn f.length) v6 vf v8 v9 v10 v11 (.sl id 0 m m) v13 v14 v15 v16 v17 S = kx 0 (nn p) vf vg v3 (nn f.length) (nn f.length) (.b false) vf v8' v9' v10' v11' (.sl id 0 m m) v13' v14' v15' v16' v17 S'
  | 0, i, L, S, v6, v8, v9, v10, v11, v13, v14, v15, v16, h1, h2, hL, sL, hS, ho => by omega
  | N + 1, i, L, S, v6, v8, v9, v10, v11, v13, v14, v15, v16, h1, h2, hL, sL, hS, ho => by
    by_cases hi : i < f.length
    · have hfi := getD_of hi
      obtain ⟨q, q1, q2⟩ := (hf.old ok0 ho).get hfi (by omega)
      obtain ⟨w14, w16, S1, s1, s2, s3⟩ := mul_in ok0 h0 hp (sf.get hfi) hg sg hid (show i + g.length ≤ m by omega) hm 1000000 0 L S v14 v16 v10 (by omega) (by omega) hL sL hS ho
      obtain ⟨v8', v9', v10', v11', v13', v14', v15', v16', S', r1, r2, r3⟩ := mul_out ok0 h0 hp hf sf hg sg hid him hm hf5 hg5 N (i + 1) (rowS p (f.getD i 0) g i L) S1 (.b true) (nn g.length) (nn g.length) (.b false) vg (nn i) w14 (nn (f.getD i 0)) w16 (by omega) (by omega) (by rw [rowS_len]; exact hL) (rowS_sm h0 hp _ _ _ _ sL) s1 (s2.old _ hid ho)
      refine ⟨v8', v9', v10', v11', v13', v14', v15', v16', S', ?_, s2.trans r2, fun kx kr v3 v17 => ?_⟩
      · rw [drop_cons hi]; exact r1
      · rw [loopN_succ, mo_go (h1 := fun c => by rw [lss_n (by omega) (by omega), decide_eq_true hi]) (h2 := q1) (h3 := q2) (h4 := fun c => (hg.old ok0 ho).len (by omega) c) (h5 := fun c => add_n (by omega) c) (hI := fun kn kx kr => ?_)]
        · exact r3 kx kr v3 v17
        · obtain ⟨kx', e1, e2⟩ := block_loop2 BMI kn kx kr
          rw [e2]
          refine (s3 kx' kr _ _ _ _ _ _ _ _).trans ?_
          rw [e1]
    · have : i = f.length := by omega
      subst this
      refine ⟨v8, v9, v10, v11, v13, v14, v15, v16, S, by rw [List.drop_length]; exact hS, .refl _, fun kx kr v3 v17 => ?_⟩
      rw [loopN_succ, mo_end (h1 := fun c => by rw [lss_n (by omega) (by omega), decide_eq_false (by omega)])]
/-- the product, not yet trimmed -/
def mulL (p : Nat) (f g : List Nat) : List Nat := mulS p g f 0 (List.replicate (f.length + g.length - 1) 0)
theorem mulL_len (p : Nat) (f g : List Nat) : (mulL p f g).length = f.length + g.length - 1 := by rw [mulL, mulS_len]; simp
theorem sm_rep (n : Nat) : Sm (List.replicate n 0) := fun x hx => by rw [(List.mem_replicate.1 hx).2]; omega
theorem mul_run {S : St} (ok : SOK S) {p : Nat} {vf vg : V} {f g : List Nat} (h0 : 0 < p) (hp : p ≤ 65536) (hf : Row S vf f) (sf : Sm f) (hg : Row S vg g) (sg : Sm g) (lf : f.length ≤ 200000) (lg : g.length ≤ 200000) (nf : 0 < f.length) (ng : 0 < g.length) :
    ∃ S', Has S' S.nx (mulL p f g) ∧ ∀ k, F254 (nn p) vf vg S k = k (.sl S.nx 0 (trimN (mulL p f g) (mulL p f g).length) (trimN (mulL p f g) (mulL p f g).length)) S' := by
  have ok1 := ok.new ((List.replicate (f.length + g.length - 1) 0).map nn)
  obtain ⟨v8', v9', v10', v11', v13', v14', v15', v16', S', r1, r2, r3⟩ := mul_out ok h0 hp hf sf hg sg (id := S.nx) (by rw [ok.nx]; exact Nat.le_refl _) (show f.length + g.length ≤ (f.length + g.length - 1) + 1 by omega) (by omega) (by omega) (by omega) 1000000 0 (List.replicate (f.length + g.length - 1) 0) (S.new ((List.replicate (f.length + g.length - 1) 0).map nn)) .other .other .other .other .other .other .other .other .other (by omega) (by omega) (by simp) (sm_rep _) (Has.new ok _) (Old.new ok _ (.refl _) (Nat.le_refl _))
  have r1 : Has S' S.nx (mulL p f g) := r1
  refine ⟨S', r1, fun k => ?_⟩
  have hrow : Row S' (.sl S.nx 0 (f.length + g.length - 1) (f.length + g.length - 1)) (mulL p f g) := by
    have := Has.row (L := mulL p f g) (t := []) (by rw [List.append_nil]; exact r1) (f.length + g.length - 1)
    rwa [mulL_len] at this
  unfold F254 G254
  rw [C254_eq]
  rw [m_head (h1 := fun c => hf.len (by omega) c) (h2 := fun c => hg.len (by omega) c) (h3 := fun c => by rw [eql_n, decide_eq_false (by omega)]) (h4 := fun c => by rw [eql_n, decide_eq_false (by omega)]) (h5 := fun c => add_n (by omega) c) (h6 := fun c => sub_n (by omega) (by omega) c) (h7 := fun c => pMks_eq (by omega) S c) (hL := fun kn kx kr => by
      obtain ⟨kx', e1, e2⟩ := block_loop0 (BMO (cBlock 2 (cLoop BMI))) kn kx kr
      rw [e2]
      refine (r3 kx' kr _ _).trans ?_
      rw [e1]) (h8 := fun k => trim_run hrow (by rw [mulL_len]; omega) (Nat.le_refl _) (by omega) k)]
end
end Go.AM

/- fp.Mod, fp.DivMod: the machine's texts on lists of numbers. -/
namespace Go.AM
set_option linter.unusedVariables false
set_option linter.unusedSimpArgs false
noncomputable section
/- a difference below zero -/
abbrev M64 : Nat := 18446744073709551616
theorem remI_neg {d p : Nat} (h0 : 0 < d) (hd : d ≤ 9223372036854775808) (hp : p < 9223372036854775808) : remI .i64 (M64 - d) p = (M64 - d % p) % M64 := by
  have n1 : neg .i64 (M64 - d) = true := by
    show Nat.ble 9223372036854775808 (M64 - d) = true
    exact Nat.ble_eq_true_of_le (by show 9223372036854775808 ≤ 18446744073709551616 - d; omega)
  unfold remI
  rw [n1, neg_n hp]
  show (M64 - (M64 - (M64 - d)) % p) % M64 = _
  rw [show M64 - (M64 - d) = d by show 18446744073709551616 - (18446744073709551616 - d) = d; omega]
def subM (p r m : Nat) : Nat := (r + (p - m % p)) % p
theorem subM_le {p r m : Nat} (h : m ≤ r) (h0 : 0 < p) : subM p r m = (r - m) % p := by
  have h1 : m % p < p := Nat.mod_lt _ h0
  have h2 := Nat.div_add_mod m p
  unfold subM
  have : r + (p - m % p) = (r - m) + p * (m / p + 1) := by rw [Nat.mul_add]; omega
  rw [this, Nat.add_mul_mod_self_left]
theorem subM_gt {p r m : Nat} (h : r < m) (h0 : 0 < p) : subM p r m = if (m - r) % p = 0 then 0 else p - (m - r) % p := by
  have h1 : m % p < p := Nat.mod_lt _ h0
  have h2 := Nat.div_add_mod m p
  have hx : subM p r m < p := Nat.mod_lt _ h0
  have hd : (m - r) % p < p := Nat.mod_lt _ h0
  have key : (subM p r m + (m - r) % p) % p = 0 := by
    unfold subM
    rw [Nat.mod_add_mod, Nat.add_mod_mod]
    have : r + (p - m % p) + (m - r) = p * (m / p + 1) := by rw [Nat.mul_add]; omega
    rw [this, Nat.mul_mod_right]
  obtain ⟨q, hq⟩ := Nat.dvd_of_mod_eq_zero key
  have : q = 0 ∨ q = 1 := by
    rcases q with _ | _ | q
    · exact .inl rfl
    · exact .inr rfl
    · have : p * (q + 1 + 1) ≥ p * 2 := Nat.mul_le_mul_left _ (by omega)
      omega
  rcases this with rfl | rfl
  · rw [Nat.mul_zero] at hq; rw [if_pos (by omega)]; omega
  · rw [Nat.mul_one] at hq; rw [if_neg (by omega)]; omega
section
variable (K : Fn 4) (kx : Nat → Fn 4) (kr : Fn 4) (v0 v1 v2 v3 a b : V) (S : St)
theorem md_pos (h1 : ∀ c, pRem v1 v0 c = c a) (h2 : ∀ c, pLss a (nn 0) c = c (.b false)) : C189 K kx kr v0 v1 v2 v3 S = kr v0 a (.b false) a S := by
  simp only [C189, cSeq, cReg, cCond, cBlock, cSkip, cExit, cRet, h1, h2, ifF]
theorem md_neg (h1 : ∀ c, pRem v1 v0 c = c a) (h2 : ∀ c, pLss a (nn 0) c = c (.b true)) (h3 : ∀ c, pAdd a v0 c = c b) : C189 K kx kr v0 v1 v2 v3 S = kr v0 b (.b true) b S := by
  simp only [C189, cSeq, cReg, cCond, cBlock, cSkip, cExit, cRet, h1, h2, h3, ifT]
end
theorem lss_neg {d : Nat} (h0 : 0 < d) (hd : d ≤ 9223372036854775808) (c : V → R) : pLss (.i .i64 (M64 - d)) (nn 0) c = c (.b true) := by
  rw [pLss_i]
  have e1 : sh .i64 (M64 - d) = 9223372036854775808 - d := by
    show (18446744073709551616 - d + 9223372036854775808) % 18446744073709551616 = _
    omega
  have e2 : sh .i64 0 = 9223372036854775808 := by rw [sh_lt (by omega)]
  rw [e1, e2, blt_eq, decide_eq_true (by omega)]
theorem mod_run {p r m : Nat} (h0 : 0 < p) (hp : p ≤ 65536) (hr : r < 4294967296) (hm : m < 4294967296) : ∃ v, (∀ c, pSub (nn r) (nn m) c = c v) ∧ ∀ S k, F189 (nn p) v S k = k (nn (subM p r m)) S := by
  obtain ⟨p', rfl⟩ : ∃ p', p = p' + 1 := ⟨p - 1, by omega⟩
  rcases Nat.lt_or_ge r m with h | h
  · have hd : (m - r) % (p' + 1) < p' + 1 := Nat.mod_lt _ h0
    refine ⟨.i .i64 (M64 - (m - r)), fun c => ?_, fun S k => ?_⟩
    · rw [pSub_i]
      congr 2
      show (r + (18446744073709551616 - m)) % 18446744073709551616 = 18446744073709551616 - (m - r)
      omega
    · unfold F189 G189
      have e1 : ∀ c, pRem (.i .i64 (M64 - (m - r))) (nn (p' + 1)) c = c (.i .i64 ((M64 - (m - r) % (p' + 1)) % M64)) := fun c => by
        rw [pRem_i, remI_neg (by omega) (by omega) (by omega)]
      by_cases hz : (m - r) % (p' + 1) = 0
      · rw [hz] at e1
        rw [md_pos (h1 := e1) (h2 := fun c => by rw [show (M64 - 0) % M64 = 0 from rfl, lss_n (by omega) (by omega)]; rfl), subM_gt h h0, if_pos hz]; rfl
      · have e2 : (M64 - (m - r) % (p' + 1)) % M64 = M64 - (m - r) % (p' + 1) := Nat.mod_eq_of_lt (by show 18446744073709551616 - _ < 18446744073709551616; omega)
        rw [e2] at e1
        rw [md_neg (h1 := e1) (h2 := fun c => lss_neg (by omega) (by omega) c) (h3 := fun c => pAdd_i _ _ _ c), subM_gt h h0, if_neg hz]
        congr 2
        show (18446744073709551616 - (m - r) % (p' + 1) + (p' + 1)) % 18446744073709551616 = _
        omega
  · refine ⟨nn (r - m), fun c => sub_n h (by omega) c, fun S k => ?_⟩
    unfold F189 G189
    have hl : (r - m) % (p' + 1) < p' + 1 := Nat.mod_lt _ h0
    rw [md_pos (h1 := fun c => rem_n (by omega) h0 (by omega) c) (h2 := fun c => by rw [lss_n (by omega) (by omega)]; rfl), subM_le h h0]
theorem subM_lt {p r m : Nat} (h0 : 0 < p) : subM p r m < p := Nat.mod_lt _ h0
/- DivMod -/
def BDI (F : Gn 2) : CS 19 := (cSeq (cReg fun kn v0 v1 v2 v3 v4 v5 v6 v7 v8 v9 v10 v11 v12 v13 v14 v15 v16 v17 v18 S => pLss v11 v12 (fun a0 => kn v0 v1 v2 v3 v4 v5 v6 v7 v8 v9 v10 v11 v12 a0 v14 v15 v16 v17 v18 S)) (cSeq (cCond (fun x y v0 v1 v2 v3 v4 v5 v6 v7 v8 v9 v10 v11 v12 v13 v14 v15 v16 v17 v18 S => pIf v13 (x v0 v1 v2 v3 v4 v5 v6 v7 v8 v9 v10 v11 v12 v13 v14 v15 v16 v17 v18 S) (y v0 v1 v2 v3 v4 v5 v6 v7 v8 v9 v10 v11 v12 v13 v14 v15 v16 v17 v18 S)) cSkip (cExit 2)) (cSeq (cBlock 3 (cSeq (cReg fun kn v0 v1 v2 v3 v4 v5 v6 v7 v8 v9 v10 v11 v12 v13 v14 v15 v16 v17 v18 S => pIdx 1 v14 v11 (fun a0 => pLd a0 S (fun a1 => kn v0 v1 v2 v3 v4 v5 v6 v7 v8 v9 v10 v11 v12 v13 v14 v11 a1 v17 v18 S))) (cReg fun kn v0 v1 v2 v3 v4 v5 v6 v7 v8 v9 v10 v11 v12 v13 v14 v15 v16 v17 v18 S => pAdd v6 v15 (fun a0 => pAdd v6 v15 (fun a1 => pIdx 1 v5 a1 (fun a2 => pLd a2 S (fun a3 => pMul v10 v16 (fun a4 => pSub a3 a4 (fun a5 => F v0 a5 S (fun a6 S => pIdx 1 v5 a0 (fun a7 => pSt 1 a7 a6 S (fun S => kn v0 v1 v2 v3 v4 v5 v6 v7 v8 v9 v10 v11 v12 v13 v14 v15 v16 v17 v18 S)))))))))))) (cReg fun kn v0 v1 v2 v3 v4 v5 v6 v7 v8 v9 v10 v11 v12 v13 v14 v15 v16 v17 v18 S => pAdd v11 (.i .i64 1) (fun a0 => kn v0 v1 v2 v3 v4 v5 v6 v7 v8 v9 v10 a0 v12 v13 v14 v15 v16 v17 v18 S)))))
def BDO (F : Gn 2) (Ip : CS 19) : CS 19 := (cSeq (cSeq (cReg fun kn v0 v1 v2 v3 v4 v5 v6 v7 v8 v9 v10 v11 v12 v13 v14 v15 v16 v17 v18 S => pGeq v6 (.i .i64 0) (fun a0 => kn v0 v1 v2 v3 v4 v5 v6 a0 v8 v9 v10 v11 v12 v13 v14 v15 v16 v17 v18 S)) (cCond (fun x y v0 v1 v2 v3 v4 v5 v6 v7 v8 v9 v10 v11 v12 v13 v14 v15 v16 v17 v18 S => pIf v7 (x v0 v1 v2 v3 v4 v5 v6 v7 v8 v9 v10 v11 v12 v13 v14 v15 v16 v17 v18 S) (y v0 v1 v2 v3 v4 v5 v6 v7 v8 v9 v10 v11 v12 v13 v14 v15 v16 v17 v18 S)) cSkip (cExit 0))) (cSeq (cBlock 1 (cSeq (cReg fun kn v0 v1 v2 v3 v4 v5 v6 v7 v8 v9 v10 v11 v12 v13 v14 v15 v16 v17 v18 S => pAdd v6 v3 (fun a0 => pSub a0 (.i .i64 1) (fun a1 => pIdx 1 v5 a1 (fun a2 => pLd a2 S (fun a3 => pMul a3 v8 (fun a4 => pRem a4 v0 (fun a5 => kn v0 v1 v2 v3 v4 v5 v6 v7 v8 v9 a5 v11 v12 v13 v14 v15 v16 v17 v18 S))))))) (cSeq (cReg fun kn v0 v1 v2 v3 v4 v5 v6 v7 v8 v9 v10 v11 v12 v13 v14 v15 v16 v17 v18 S => pIdx 1 v9 v6 (fun a0 => pSt 1 a0 v10 S (fun S => kn v0 v1 v2 v3 v4 v5 v6 v7 v8 v9 v10 v11 v12 v13 v14 v15 v16 v17 v18 S))) (cSeq (cReg fun kn v0 v1 v2 v3 v4 v5 v6 v7 v8 v9 v10 v11 v12 v13 v14 v15 v16 v17 v18 S => pLen v2 (fun a0 => kn v0 v1 v2 v3 v4 v5 v6 v7 v8 v9 v10 (.i .i64 0) a0 v13 v2 v15 v16 v17 v18 S)) Ip)))) (cReg fun kn v0 v1 v2 v3 v4 v5 v6 v7 v8 v9 v10 v11 v12 v13 v14 v15 v16 v17 v18 S => pSub v6 (.i .i64 1) (fun a0 => kn v0 v1 v2 v3 v4 v5 a0 v7 v8 v9 v10 v11 v12 v13 v14 v15 v16 v17 v18 S))))
def HD (f188 : Gn 1) (f151 : Gn 2) (Lp : CS 19) : CS 19 := (cSeq (cReg fun kn v0 v1 v2 v3 v4 v5 v6 v7 v8 v9 v10 v11 v12 v13 v14 v15 v16 v17 v18 S => kn v0 v1 v2 v3 v4 v5 v6 v7 v8 v9 v10 v11 v12 v13 v14 v15 v16 .sn .sn S) (cSeq (cReg fun kn v0 v1 v2 v3 v4 v5 v6 v7 v8 v9 v10 v11 v12 v13 v14 v15 v16 v17 v18 S => pBsl [] 0 [] S (fun a0 S => pApp 1 a0 v1 S (fun a1 S => kn v0 v1 v2 v3 v4 a1 v6 v7 v8 v9 v10 v11 v12 v13 v14 v15 v16 v17 v18 S))) (cSeq (cReg fun kn v0 v1 v2 v3 v4 v5 v6 v7 v8 v9 v10 v11 v12 v13 v14 v15 v16 v17 v18 S => pLen v2 (fun a0 => kn v0 v1 v2 a0 v4 v5 v6 v7 v8 v9 v10 v11 v12 v13 v14 v15 v16 v17 v18 S)) (cSeq (cSeq (cReg fun kn v0 v1 v2 v3 v4 v5 v6 v7 v8 v9 v10 v11 v12 v13 v14 v15 v16 v17 v18 S => pLen v1 (fun a0 => pLss a0 v3 (fun a1 => kn v0 v1 v2 v3 a1 v5 v6 v7 v8 v9 v10 v11 v12 v13 v14 v15 v16 v17 v18 S))) (cCond (fun x y v0 v1 v2 v3 v4 v5 v6 v7 v8 v9 v10 v11 v12 v13 v14 v15 v16 v17 v18 S => pIf v4 (x v0 v1 v2 v3 v4 v5 v6 v7 v8 v9 v10 v11 v12 v13 v14 v15 v16 v17 v18 S) (y v0 v1 v2 v3 v4 v5 v6 v7 v8 v9 v10 v11 v12 v13 v14 v15 v16 v17 v18 S)) (cSeq (cReg fun kn v0 v1 v2 v3 v4 v5 v6 v7 v8 v9 v10 v11 v12 v13 v14 v15 v16 v17 v18 S => kn v0 v1 v2 v3 v4 v5 v6 v7 v8 v9 v10 v11 v12 v13 v14 v15 v16 .sn v5 S) cRet) cSkip)) (cSeq (cReg fun kn v0 v1 v2 v3 v4 v5 v6 v7 v8 v9 v10 v11 v12 v13 v14 v15 v16 v17 v18 S => pLen v1 (fun a0 => pSub a0 v3 (fun a1 => pAdd a1 (.i .i64 1) (fun a2 => pMks [(.i .i64 0)] a2 a2 S (fun a3 S => kn v0 v1 v2 v3 v4 v5 v6 v7 v8 a3 v10 v11 v12 v13 v14 v15 v16 v17 v18 S))))) (cSeq (cReg fun kn v0 v1 v2 v3 v4 v5 v6 v7 v8 v9 v10 v11 v12 v13 v14 v15 v16 v17 v18 S => pSub v3 (.i .i64 1) (fun a0 => pIdx 1 v2 a0 (fun a1 => pLd a1 S (fun a2 => f151 v0 a2 S (fun a3 S => kn v0 v1 v2 v3 v4 v5 v6 v7 a3 v9 v10 v11 v12 v13 v14 v15 v16 v17 v18 S))))) (cSeq (cSeq (cReg fun kn v0 v1 v2 v3 v4 v5 v6 v7 v8 v9 v10 v11 v12 v13 v14 v15 v16 v17 v18 S => pLen v1 (fun a0 => pSub a0 v3 (fun a1 => kn v0 v1 v2 v3 v4 v5 a1 v7 v8 v9 v10 v11 v12 v13 v14 v15 v16 v17 v18 S))) Lp) (cSeq (cReg fun kn v0 v1 v2 v3 v4 v5 v6 v7 v8 v9 v10 v11 v12 v13 v14 v15 v16 v17 v18 S => pDraw (f188 v9) S (fun a0 S => pSub v3 (.i .i64 1) (fun a1 => pSlc 1 v5 none (some a1) none (fun a2 => pDraw (f188 a2) S (fun a3 S => kn v0 v1 v2 v3 v4 v5 v6 v7 v8 v9 v10 v11 v12 v13 v14 v15 v16 a0 a3 S))))) cRet))))))))
theorem C146_eq (F : Gn 1) (G X : Gn 2) : C146 G F X = HD F G (cBlock 0 (cLoop (BDO X (cBlock 2 (cLoop (BDI X)))))) := by rfl
section
variable (X G : Gn 2) (F : Gn 1) (K : Fn 19) (kx : Nat → Fn 19) (kr : Fn 19) (v0 v1 v2 v3 v4 v5 v6 v7 v8 v9 v10 v11 v12 v13 v14 v15 v16 v17 v18 a b c d e f g h a_ b_ c_ d_ e_ f_ g_ h_ i_ j_ : V) (S S' S2 S3 S4 : St)
theorem di_end (h1 : ∀ c, pLss v11 v12 c = c (.b false)) : BDI X K kx kr v0 v1 v2 v3 v4 v5 v6 v7 v8 v9 v10 v11 v12 v13 v14 v15 v16 v17 v18 S = kx 2 v0 v1 v2 v3 v4 v5 v6 v7 v8 v9 v10 v11 v12 (.b false) v14 v15 v16 v17 v18 S := by
  simp only [BDI, cSeq, cReg, cCond, cBlock, cSkip, cExit, cRet, h1, ifF]
theorem di_go (h1 : ∀ c, pLss v11 v12 c = c (.b true)) (h2 : ∀ c, pIdx 1 v14 v11 c = c a) (h3 : ∀ c, pLd a S c = c b) (h4 : ∀ c, pAdd v6 v11 c = c d) (h5 : ∀ c, pIdx 1 v5 d c = c e) (h6 : ∀ c, pLd e S c = c f) (h7 : ∀ c, pMul v10 b c = c g) (h8 : ∀ k, pSub f g k = k h) (h9 : ∀ S k, X v0 h S k = k c_ S) (h10 : ∀ c : St → R, pSt 1 e c_ S c = c S') (h11 : ∀ c, pAdd v11 (nn 1) c = c j_) :
    BDI X K kx kr v0 v1 v2 v3 v4 v5 v6 v7 v8 v9 v10 v11 v12 v13 v14 v15 v16 v17 v18 S = K v0 v1 v2 v3 v4 v5 v6 v7 v8 v9 v10 j_ v12 (.b true) v14 v11 b v17 v18 S' := by
  simp only [BDI, cSeq, cReg, cCond, cBlock, cSkip, cExit, cRet, h1, h2, h3, h4, h5, h6, h7, h8, h9, h10, h11, ifT]
theorem do_end (Ip : CS 19) (h1 : ∀ c, pGeq v6 (nn 0) c = c (.b false)) : BDO X Ip K kx kr v0 v1 v2 v3 v4 v5 v6 v7 v8 v9 v10 v11 v12 v13 v14 v15 v16 v17 v18 S = kx 0 v0 v1 v2 v3 v4 v5 v6 (.b false) v8 v9 v10 v11 v12 v13 v14 v15 v16 v17 v18 S := by
  simp only [BDO, cSeq, cReg, cCond, cBlock, cSkip, cExit, cRet, h1, ifF]
theorem do_go (Ip : CS 19) (h1 : ∀ c, pGeq v6 (nn 0) c = c (.b true)) (h2 : ∀ c, pAdd v6 v3 c = c a) (h3 : ∀ c, pSub a (nn 1) c = c b) (h4 : ∀ c, pIdx 1 v5 b c = c d) (h5 : ∀ c, pLd d S c = c e) (h6 : ∀ c, pMul e v8 c = c f) (h7 : ∀ c, pRem f v0 c = c g) (h8 : ∀ c, pIdx 1 v9 v6 c = c h) (h9 : ∀ c : St → R, pSt 1 h g S c = c S') (h10 : ∀ c, pLen v2 c = c a_) (h11 : ∀ c, pSub v6 (nn 1) c = c b_)
    (hI : ∀ (kn : Fn 19) (kx : Nat → Fn 19) (kr : Fn 19), Ip kn kx kr v0 v1 v2 v3 v4 v5 v6 (.b true) v8 v9 g (nn 0) a_ v13 v2 v15 v16 v17 v18 S' = kn v0 v1 v2 v3 v4 v5 v6 (.b true) v8 v9 g a_ a_ (.b false) v2 c_ d_ v17 v18 S2) :
    BDO X Ip K kx kr v0 v1 v2 v3 v4 v5 v6 v7 v8 v9 v10 v11 v12 v13 v14 v15 v16 v17 v18 S = K v0 v1 v2 v3 v4 v5 b_ (.b true) v8 v9 g a_ a_ (.b false) v2 c_ d_ v17 v18 S2 := by
  simp only [BDO, cSeq, cReg, cCond, cBlock, cSkip, cExit, cRet, h1, h2, h3, h4, h5, h6, h7, h8, h9, h10, h11, hI, ifT]
theorem d_short (Lp : CS 19) (h1 : ∀ c, pBsl [] 0 [] S c = c a S') (h2 : ∀ c, pApp 1 a v1 S' c = c b S2) (h3 : ∀ c, pLen v2 c = c d) (h4 : ∀ c, pLen v1 c = c e) (h5 : ∀ c, pLss e d c = c (.b true)) :
    HD F G Lp K kx kr v0 v1 v2 v3 v4 v5 v6 v7 v8 v9 v10 v11 v12 v13 v14 v15 v16 v17 v18 S = kr v0 v1 v2 d (.b true) b v6 v7 v8 v9 v10 v11 v12 v13 v14 v15 v16 .sn b S2 := by
  simp only [HD, cSeq, cReg, cCond, cBlock, cSkip, cExit, cRet, h1, h2, h3, h4, h5, ifT]
theorem d_head (Lp : CS 19) (x1_ x2_ : V) (h1 : ∀ c, pBsl [] 0 [] S c = c a S') (h2 : ∀ c, pApp 1 a v1 S' c = c b S2) (h3 : ∀ c, pLen v2 c = c d) (h4 : ∀ c, pLen v1 c = c e) (h5 : ∀ c, pLss e d c = c (.b false)) (h6 : ∀ c, pSub e d c = c f) (h7 : ∀ c, pAdd f (nn 1) c = c g) (h8 : ∀ c, pMks [nn 0] g g S2 c = c h S3) (h9 : ∀ c, pSub d (nn 1) c = c a_) (h10 : ∀ c, pIdx 1 v2 a_ c = c b_) (h11 : ∀ c, pLd b_ S3 c = c c_) (h12 : ∀ k, G v0 c_ S3 k = k d_ S3)
    (hL : ∀ (kn : Fn 19) (kx : Nat → Fn 19) (kr : Fn 19), Lp kn kx kr v0 v1 v2 d (.b false) b f v7 d_ h v10 v11 v12 v13 v14 v15 v16 .sn .sn S3 = kn v0 v1 v2 d (.b false) b e_ (.b false) d_ h f_ g_ h_ i_ j_ x1_ x2_ .sn .sn S4)
    (w1 w2 w3 : V) (g1 : ∀ k, pDraw (F h) S4 k = k w1 S4) (g2 : ∀ c, pSlc 1 b none (some a_) none c = c w2) (g3 : ∀ k, pDraw (F w2) S4 k = k w3 S4) :
    HD F G Lp K kx kr v0 v1 v2 v3 v4 v5 v6 v7 v8 v9 v10 v11 v12 v13 v14 v15 v16 v17 v18 S = kr v0 v1 v2 d (.b false) b e_ (.b false) d_ h f_ g_ h_ i_ j_ x1_ x2_ w1 w3 S4 := by
  simp only [HD, cSeq, cReg, cCond, cBlock, cSkip, cExit, cRet, h1, h2, h3, h4, h5, h6, h7, h8, h9, h10, h11, h12, hL, g1, g2, g3, ifF]
end
def subS (p c : Nat) : List Nat → Nat → List Nat → List Nat
  | [], _, o => o
  | x :: g, n, o => subS p c g (n + 1) (o.set n (subM p (o.getD n 0) (c * x)))
def divS (p inv : Nat) (g : List Nat) : Nat → List Nat → List Nat → List Nat × List Nat
  | 0, r, q => (r, q)
  | j + 1, r, q => divS p inv g j (subS p (r.getD (j + g.length - 1) 0 * inv % p) g j r) (q.set j (r.getD (j + g.length - 1) 0 * inv % p))
theorem subS_len (p c : Nat) : ∀ (g : List Nat) (n : Nat) (o : List Nat), (subS p c g n o).length = o.length
  | [], _, o => rfl
  | y :: g, n, o => by simp only [subS]; rw [subS_len p c g]; simp
theorem subS_sm {p : Nat} (h0 : 0 < p) (hp : p ≤ 65536) (c : Nat) : ∀ (g : List Nat) (n : Nat) (o : List Nat), Sm o → Sm (subS p c g n o)
  | [], _, o, h => h
  | y :: g, n, o, h => subS_sm h0 hp c g _ _ (h.set n (Nat.lt_of_lt_of_le (subM_lt h0) hp))
theorem divS_len (p inv : Nat) (g : List Nat) : ∀ (j : Nat) (r q : List Nat), (divS p inv g j r q).1.length = r.length ∧ (divS p inv g j r q).2.length = q.length
  | 0, r, q => ⟨rfl, rfl⟩
  | j + 1, r, q => by
    obtain ⟨h1, h2⟩ := divS_len p inv g j (subS p (r.getD (j + g.length - 1) 0 * inv % p) g j r) (q.set j (r.getD (j + g.length - 1) 0 * inv % p))
    rw [subS_len] at h1; rw [List.length_set] at h2
    exact ⟨h1, h2⟩
theorem div_in {S0 : St} (ok0 : SOK S0) {p x i m : Nat} {vg : V} {g : List Nat} {id : Pos} (h0 : 0 < p) (hp : p ≤ 65536) (hx : x < 65536) (hg : Row S0 vg g) (sg : Sm g) (hid : S0.cnt ≤ id.num) (him : i + g.length ≤ m) (hm : m ≤ 500000) : ∀ (N j : Nat) (L : List Nat) (S : St) (v15 v16 v13 : V), j ≤ g.length → g.length < j + N → L.length = m → Sm L → Has S id L → Old S0 S →
    ∃ v15' v16' S', Has S' id (subS p x (g.drop j) (i + j) L) ∧ Kept S S' id ∧ ∀ (kx : Nat → Fn 19) (kr : Fn 19) (v1 v2 v3 v4 v7 v8 v9 v17 v18 : V), loopN (BDI F189) kx kr N (nn p) v1 v2 v3 v4 (.so id 0 m m 1) (nn i) v7 v8 v9 (nn x) (nn j) (nn g.length) v13 vg v15 v16 v17 v18 S = kx 2 (nn p) v1 v2 v3 v4 (.so id 0 m m 1) (nn i) v7 v8 v9 (nn x) (nn g.length) (nn g.length) (.b false) vg v15' v16' v17 v18 S'
  | 0, j, L, S, v15, v16, v13, h1, h2, hL, sL, hS, ho => by omega
  | N + 1, j, L, S, v15, v16, v13, h1, h2, hL, sL, hS, ho => by
    by_cases hj : j < g.length
    · have hgj := getD_of hj
      have hLj := getD_of (l := L) (i := i + j) (by omega)
      obtain ⟨q, q1, q2⟩ := (hg.old ok0 ho).get hgj (by omega)
      have b1 := sg.get hgj
      have b2 := sL.get hLj
      have b3 := mul_lt hx b1
      obtain ⟨w, w1, w2⟩ := mod_run h0 hp (r := L.getD (i + j) 0) (m := x * g.getD j 0) (by omega) (by omega)
      obtain ⟨S1, s1, s2, s3⟩ := hS.set (i := i + j) (by omega) (subM p (L.getD (i + j) 0) (x * g.getD j 0))
      obtain ⟨v15', v16', S', r1, r2, r3⟩ := div_in ok0 h0 hp hx hg sg hid him hm N (j + 1) (L.set (i + j) (subM p (L.getD (i + j) 0) (x * g.getD j 0))) S1 (nn j) (nn (g.getD j 0)) (.b true) (by omega) (by omega) (by simpa using hL) (sL.set _ (Nat.lt_of_lt_of_le (subM_lt h0) hp)) s1 (s2.old _ hid ho)
      refine ⟨v15', v16', S', ?_, s2.trans r2, fun kx kr v1 v2 v3 v4 v7 v8 v9 v17 v18 => ?_⟩
      · rw [drop_cons hj]; exact r1
      · rw [loopN_succ, di_go (h1 := fun c => by rw [lss_n (by omega) (by omega), decide_eq_true hj]) (h2 := q1) (h3 := q2) (h4 := fun c => add_n (by omega) c) (h5 := fun c => Has.idxo id (by omega) (by omega) c) (h6 := fun c => hS.get hLj c) (h7 := fun c => mul_n (by omega) c) (h8 := w1) (h9 := w2) (h10 := s3) (h11 := fun c => add_n (by omega) c)]
        exact r3 kx kr v1 v2 v3 v4 v7 v8 v9 v17 v18
    · have : j = g.length := by omega
      subst this
      refine ⟨v15, v16, S, by rw [List.drop_length]; exact hS, .refl _, fun kx kr v1 v2 v3 v4 v7 v8 v9 v17 v18 => ?_⟩
      rw [loopN_succ, di_end (h1 := fun c => by rw [lss_n (by omega) (by omega), decide_eq_false (by omega)])]
/-- the number that counts down, one above what it is -/
def down : Nat → V
  | 0 => .i .i64 (M64 - 1)
  | j + 1 => nn j
theorem geq_down : ∀ (j : Nat), j < 4294967296 → ∀ c, pGeq (down j) (nn 0) c = c (.b (decide (0 < j)))
  | 0, _, c => by
    show pGeq (.i .i64 (M64 - 1)) (nn 0) c = _
    rw [pGeq_i]
    have e1 : sh .i64 (M64 - 1) = 9223372036854775807 := by
      show (18446744073709551616 - 1 + 9223372036854775808) % 18446744073709551616 = _
      omega
    have e2 : sh .i64 0 = 9223372036854775808 := by rw [sh_lt (by omega)]
    rw [e1, e2, ble_eq, decide_eq_false (by omega), decide_eq_false (by omega)]
  | j + 1, h, c => by
    show pGeq (nn j) (nn 0) c = _
    rw [geq_n (by omega) (by omega), decide_eq_true (by omega), decide_eq_true (by omega)]
theorem sub_down : ∀ (j : Nat), j < 4294967296 → ∀ c, pSub (nn j) (nn 1) c = c (down j)
  | 0, _, c => by
    rw [pSub_i]
    congr 2
  | j + 1, h, c => sub_n (by omega) (by omega) c
theorem div_out {S0 : St} (ok0 : SOK S0) {p inv m : Nat} {vg : V} {g : List Nat} {id iq : Pos} (h0 : 0 < p) (hp : p ≤ 65536) (hi : inv < 65536) (hg : Row S0 vg g) (sg : Sm g) (ng : 0 < g.length) (hid : S0.cnt ≤ id.num) (hiq : S0.cnt ≤ iq.num) (hne : iq ≠ id) (hgm : g.length ≤ m) (hm : m ≤ 200000) : ∀ (N j : Nat) (L Q : List Nat) (S : St) (v7 v10 v11 v12 v13 v14 v15 v16 : V), j ≤ m - g.length + 1 → j < N → L.length = m → Q.length = m - g.length + 1 → Sm L → Has S id L → Has S iq Q → Old S0 S →
    ∃ v10' v11' v12' v13' v14' v15' v16' S', Has S' id (divS p inv g j L Q).1 ∧ Has S' iq (divS p inv g j L Q).2 ∧ (SOK S → SOK S') ∧ S'.fl = S.fl ∧ ∀ (kx : Nat → Fn 19) (kr : Fn 19) (v1 v4 v17 v18 : V), loopN (BDO F189 (cBlock 2 (cLoop (BDI F189)))) kx kr N (nn p) v1 vg (nn g.length) v4 (.so id 0 m m 1) (down j) v7 (nn inv) (.sl iq 0 (m - g.length + 1) (m - g.length + 1)) v10 v11 v12 v13 v14 v15 v16 v17 v18 S = kx 0 (nn p) v1 vg (nn g.length) v4 (.so id 0 m m 1) (down 0) (.b false) (nn inv) (.sl iq 0 (m - g.length + 1) (m - g.length + 1)) v10' v11' v12' v13' v14' v15' v16' v17 v18 S'
  | 0, j, L, Q, S, v7, v10, v11, v12, v13, v14, v15, v16, h1, h2, hL, hQ, sL, hS, hSq, ho => by omega
  | N + 1, 0, L, Q, S, v7, v10, v11, v12, v13, v14, v15, v16, h1, h2, hL, hQ, sL, hS, hSq, ho => by
    refine ⟨v10, v11, v12, v13, v14, v15, v16, S, hS, hSq, fun h => h, rfl, fun kx kr v1 v4 v17 v18 => ?_⟩
    rw [loopN_succ, do_end (h1 := fun c => geq_down 0 (by omega) c)]
  | N + 1, j + 1, L, Q, S, v7, v10, v11, v12, v13, v14, v15, v16, h1, h2, hL, hQ, sL, hS, hSq, ho => by
    have hLj := getD_of (l := L) (i := j + g.length - 1) (by omega)
    have b2 := sL.get hLj
    have b3 := mul_lt b2 hi
    have bc : L.getD (j + g.length - 1) 0 * inv % p < p := Nat.mod_lt _ h0
    obtain ⟨S1, s1, s2, s3⟩ := hSq.set (i := j) (by omega) (L.getD (j + g.length - 1) 0 * inv % p)
    have o1 := s2.old _ hiq ho
    obtain ⟨w15, w16, S2, t1, t2, t3⟩ := div_in ok0 h0 hp (x := L.getD (j + g.length - 1) 0 * inv % p) (by omega) hg sg hid (show j + g.length ≤ m by omega) (by omega) 1000000 0 L S1 v15 v16 v13 (by omega) (by omega) hL sL (s2.has _ _ (Ne.symm hne) hS) o1
    obtain ⟨v10', v11', v12', v13', v14', v15', v16', S', r1, r2, r3, r4, r5⟩ := div_out ok0 h0 hp hi hg sg ng hid hiq hne hgm hm N j (subS p (L.getD (j + g.length - 1) 0 * inv % p) g j L) (Q.set j (L.getD (j + g.length - 1) 0 * inv % p)) S2 (.b true) (nn (L.getD (j + g.length - 1) 0 * inv % p)) (nn g.length) (nn g.length) (.b false) vg w15 w16 (by omega) (by omega) (by rw [subS_len]; exact hL) (by rw [List.length_set]; exact hQ) (subS_sm h0 hp _ _ _ _ sL) t1 (t2.has _ _ hne s1) (t2.old _ hid o1)
    refine ⟨v10', v11', v12', v13', v14', v15', v16', S', r1, r2, fun ok => r3 (t2.ok (s2.ok ok)), r4.trans (t2.fl.trans s2.fl), fun kx kr v1 v4 v17 v18 => ?_⟩
    rw [loopN_succ, show down (j + 1) = nn j from rfl, do_go (h1 := fun c => by rw [geq_n (by omega) (by omega), decide_eq_true (by omega)]) (h2 := fun c => add_n (by omega) c) (h3 := fun c => sub_n (by omega) (by omega) c) (h4 := fun c => Has.idxo id (by omega) (by omega) c) (h5 := fun c => hS.get hLj c) (h6 := fun c => mul_n (by omega) c) (h7 := fun c => rem_n (by omega) h0 (by omega) c) (h8 := fun c => Has.idx iq (by omega) (by omega) c) (h9 := s3) (h10 := fun c => (hg.old ok0 o1).len (by omega) c) (h11 := fun c => sub_down j (by omega) c) (hI := fun kn kx kr => ?_)]
    · exact r5 kx kr v1 v4 v17 v18
    · obtain ⟨kx', e1, e2⟩ := block_loop2 (BDI F189) kn kx kr
      rw [e2]
      refine (t3 kx' kr _ _ _ _ _ _ _ _ _).trans ?_
      rw [e1]
theorem pBsl0_eq (S : St) (c : Cont) : pBsl [] 0 [] S c = c (.sl S.nx 0 0 0) (S.new []) := by
  show newK [] S (fun nx S' => c (.sl nx 0 0 0) S') = _
  rw [newK_eq]
theorem app_row {S : St} {v : V} {f : List Nat} {id0 : Pos} (h : Row S v f) (hf : 0 < f.length) (hl : f.length ≤ 1073741824) (h0 : ∃ b, S.h.get id0 = some ⟨b, []⟩) (c : Cont) : pApp 1 (.sl id0 0 0 0) v S c = c (.so S.nx 0 f.length f.length 1) (S.new (f.map nn)) := by
  obtain ⟨b0, h0⟩ := h0
  have main : ∀ (id : Pos) (off : Nat) (b : Blk) (t : List V), S.h.get id = some b → b.cs.drop off = f.map nn ++ t → elems 1 id off f.length S (fun new => app1 1 f.length new (.sl id0 0 0 0) S c) = c (.so S.nx 0 f.length f.length 1) (S.new (f.map nn)) := fun id off b t hb ht => by
    have hlen : off + f.length * 1 ≤ b.cs.length := by
      have := congrArg List.length ht
      rw [List.length_drop, List.length_append, List.length_map] at this
      omega
    rw [elems_eq hb hlen, ht, Nat.mul_one, List.take_append_of_le_length (by simp), List.take_of_length_le (by simp)]
    show Bool.rec (motive := fun _ => Unit → R) _ _ (Nat.ble (0 + f.length) 0) () = _
    rw [show Nat.ble (0 + f.length) 0 = false by rw [ble_eq]; exact decide_eq_false (by omega)]
    show elems 1 id0 0 0 S (fun old => appK old (f.map nn) (fun cs => newK cs S (fun nx S' => fN (Nat.add 0 f.length) (fun l => gu (Nat.ble l 1073741824) (c (.so nx 0 l l 1) S'))))) = _
    rw [elems_eq h0 (by simp), appK_eq, newK_eq, fN_eq]
    show gu (Nat.ble (0 + f.length) 1073741824) (c (.so S.nx 0 (0 + f.length) (0 + f.length) 1) (S.new ([] ++ f.map nn))) = _
    rw [Nat.zero_add, Nat.ble_eq_true_of_le hl, gu_true]; rfl
  unfold Row at h
  split at h
  · rename_i id off len cap
    obtain ⟨rfl, b, hb, t, ht⟩ := h
    show gu (Nat.ble f.length 1073741824) _ = _
    rw [Nat.ble_eq_true_of_le hl, gu_true]
    obtain ⟨n, hn⟩ : ∃ n, f.length = n + 1 := ⟨f.length - 1, by omega⟩
    have := main id off b t hb ht
    rw [hn] at this ⊢
    exact this
  · rename_i id off len cap sz
    obtain ⟨rfl, rfl, b, hb, t, ht⟩ := h
    show gu (Nat.ble f.length 1073741824) _ = _
    rw [Nat.ble_eq_true_of_le hl, gu_true]
    obtain ⟨n, hn⟩ : ∃ n, f.length = n + 1 := ⟨f.length - 1, by omega⟩
    have := main id off b t hb ht
    rw [hn] at this ⊢
    exact this
  · subst h; simp at hf
  · exact h.elim
end
end Go.AM

/- Lists of numbers packed into one number: products and remainders. -/
namespace Go.AM
set_option linter.unusedVariables false
set_option linter.unusedSimpArgs false
/-- the base -/
abbrev BB : Nat := 18446744073709551616
def pk : List Nat → Nat
  | [] => 0
  | x :: l => x + BB * pk l
theorem pk_dig : ∀ (l : List Nat) (k : Nat), (∀ x ∈ l, x < BB) → pk l / BB ^ k % BB = l.getD k 0
  | [], k, h => by simp [pk]
  | x :: l, 0, h => by
    have := h x (by simp)
    simp only [pk, Nat.pow_zero, Nat.div_one, List.getD_cons_zero, Nat.add_mul_mod_self_left]
    exact Nat.mod_eq_of_lt this
  | x :: l, k + 1, h => by
    have := h x (by simp)
    rw [Nat.pow_succ, Nat.mul_comm, ← Nat.div_div_eq_div_mul, List.getD_cons_succ, ← pk_dig l k (fun y hy => h y (by simp [hy]))]
    congr 2
    show (x + BB * pk l) / BB = pk l
    rw [Nat.add_mul_div_left _ _ (by decide), Nat.div_eq_of_lt this, Nat.zero_add]
theorem pk_set : ∀ (l : List Nat) (n a : Nat), n < l.length → pk (l.set n (l.getD n 0 + a)) = pk l + a * BB ^ n
  | [], n, a, h => by simp at h
  | x :: l, 0, a, h => by simp only [List.set_cons_zero, List.getD_cons_zero, pk, Nat.pow_zero]; omega
  | x :: l, n + 1, a, h => by
    simp only [List.set_cons_succ, List.getD_cons_succ, pk]
    rw [pk_set l n a (by simpa using h), Nat.pow_succ, Nat.mul_add]
    rw [show a * (BB ^ n * BB) = BB * (a * BB ^ n) by rw [← Nat.mul_assoc, Nat.mul_comm]]
    omega
theorem pk_rep : ∀ n, pk (List.replicate n 0) = 0
  | 0 => rfl
  | n + 1 => by rw [List.replicate_succ, pk, pk_rep n, Nat.mul_zero]
def rowU (x : Nat) : List Nat → Nat → List Nat → List Nat
  | [], _, o => o
  | y :: g, n, o => rowU x g (n + 1) (o.set n (o.getD n 0 + x * y))
theorem rowU_len (x : Nat) : ∀ (g : List Nat) (n : Nat) (o : List Nat), (rowU x g n o).length = o.length
  | [], _, o => rfl
  | y :: g, n, o => by simp only [rowU]; rw [rowU_len x g]; simp
theorem pk_row (x : Nat) : ∀ (g : List Nat) (n : Nat) (o : List Nat), n + g.length ≤ o.length → pk (rowU x g n o) = pk o + x * pk g * BB ^ n
  | [], n, o, h => by simp [rowU, pk]
  | y :: g, n, o, h => by
    simp only [List.length_cons] at h
    simp only [rowU]
    rw [pk_row x g (n + 1) _ (by simp; omega), pk_set o n _ (by omega), pk, Nat.pow_succ, Nat.add_assoc]
    congr 1
    rw [Nat.mul_add, Nat.add_mul]
    congr 1
    rw [Nat.mul_comm (BB ^ n) BB, ← Nat.mul_assoc, ← Nat.mul_assoc]
    congr 1
    rw [Nat.mul_assoc, Nat.mul_comm (pk g) BB, ← Nat.mul_assoc]
theorem getD_set (o : List Nat) (n i v : Nat) : (o.set n v).getD i 0 = if i = n ∧ n < o.length then v else o.getD i 0 := by
  rw [List.getD_eq_getElem?_getD, List.getElem?_set, List.getD_eq_getElem?_getD]
  by_cases h : n = i
  · subst h
    by_cases h2 : n < o.length
    · simp [h2]
    · simp [h2, List.getElem?_eq_none (Nat.le_of_not_lt h2)]
  · rw [if_neg h, if_neg (fun e => h e.1.symm)]
theorem row_low (x : Nat) : ∀ (g : List Nat) (n : Nat) (o : List Nat) (i : Nat), i < n → (rowU x g n o).getD i 0 = o.getD i 0
  | [], n, o, i, h => rfl
  | y :: g, n, o, i, h => by
    simp only [rowU]
    rw [row_low x g (n + 1) _ i (by omega), getD_set, if_neg (by omega)]
theorem row_bd (x C : Nat) : ∀ (g : List Nat) (n : Nat) (o : List Nat) (i : Nat), (∀ y ∈ g, x * y ≤ C) → (rowU x g n o).getD i 0 ≤ o.getD i 0 + C
  | [], n, o, i, h => Nat.le_add_right _ _
  | y :: g, n, o, i, h => by
    simp only [rowU]
    rcases Nat.lt_or_ge i (n + 1) with h1 | h1
    · rw [row_low x g (n + 1) _ i h1, getD_set]
      have := h y (by simp)
      split
      · rename_i h2; rw [h2.1]; omega
      · omega
    · have := row_bd x C g (n + 1) (o.set n (o.getD n 0 + x * y)) i (fun z hz => h z (by simp [hz]))
      rw [getD_set, if_neg (by omega)] at this
      exact this
def mulU (g : List Nat) : List Nat → Nat → List Nat → List Nat
  | [], _, o => o
  | x :: f, n, o => mulU g f (n + 1) (rowU x g n o)
theorem mulU_len (g : List Nat) : ∀ (f : List Nat) (n : Nat) (o : List Nat), (mulU g f n o).length = o.length
  | [], _, o => rfl
  | y :: f, n, o => by simp only [mulU]; rw [mulU_len g f, rowU_len]
theorem pk_mul (g : List Nat) : ∀ (f : List Nat) (n : Nat) (o : List Nat), n + f.length + g.length ≤ o.length + 1 → pk (mulU g f n o) = pk o + pk f * pk g * BB ^ n
  | [], n, o, h => by simp [mulU, pk]
  | x :: f, n, o, h => by
    simp only [List.length_cons] at h
    simp only [mulU]
    rw [pk_mul g f (n + 1) _ (by rw [rowU_len]; omega), pk_row x g n o (by omega), pk, Nat.pow_succ, Nat.add_assoc]
    congr 1
    rw [Nat.add_mul, Nat.add_mul]
    congr 1
    rw [Nat.mul_comm (BB ^ n) BB, ← Nat.mul_assoc]
    congr 1
    rw [Nat.mul_comm, ← Nat.mul_assoc]
theorem mul_bd (C : Nat) (g : List Nat) : ∀ (f : List Nat) (n : Nat) (o : List Nat) (i : Nat), (∀ x ∈ f, ∀ y ∈ g, x * y ≤ C) → (mulU g f n o).getD i 0 ≤ o.getD i 0 + f.length * C
  | [], n, o, i, h => by simp [mulU]
  | x :: f, n, o, i, h => by
    simp only [mulU, List.length_cons]
    have h1 := mul_bd C g f (n + 1) (rowU x g n o) i (fun z hz => h z (by simp [hz]))
    have h2 := row_bd x C g n o i (h x (by simp))
    rw [Nat.add_mul]; omega
theorem getD_map (p : Nat) (o : List Nat) (n : Nat) : (o.map (· % p)).getD n 0 = o.getD n 0 % p := by
  rw [List.getD_eq_getElem?_getD, List.getElem?_map, List.getD_eq_getElem?_getD]
  cases o[n]? with
  | none => simp
  | some v => rfl
theorem row_mod (p x : Nat) : ∀ (g : List Nat) (n : Nat) (o : List Nat), rowS p x g n (o.map (· % p)) = (rowU x g n o).map (· % p)
  | [], n, o => rfl
  | y :: g, n, o => by
    simp only [rowS, rowU]
    rw [← row_mod p x g (n + 1), List.map_set, getD_map]
    congr 2
    show _ = (o.getD n 0 + x * y) % p
    rw [Nat.mod_add_mod]
theorem mul_mod (p : Nat) (g : List Nat) : ∀ (f : List Nat) (n : Nat) (o : List Nat), mulS p g f n (o.map (· % p)) = (mulU g f n o).map (· % p)
  | [], n, o => rfl
  | x :: f, n, o => by
    simp only [mulS, mulU]
    rw [row_mod, mul_mod p g f]
theorem lt_of_getD {l : List Nat} {b : Nat} (h : ∀ i, l.getD i 0 < b) : ∀ x ∈ l, x < b := fun x hx => by
  obtain ⟨i, hi, rfl⟩ := List.getElem_of_mem hx
  have := h i
  rwa [List.getD_eq_getElem?_getD, List.getElem?_eq_getElem hi] at this
/-- all below p -/
def Lt (p : Nat) (l : List Nat) : Prop := ∀ x ∈ l, x < p
theorem Lt.sm {p : Nat} {l : List Nat} (h : Lt p l) (hp : p ≤ 65536) : Sm l := fun x hx => Nat.lt_of_lt_of_le (h x hx) hp
theorem sq_le {p x y : Nat} (hx : x ≤ p) (hy : y ≤ p) (hp : p ≤ 65536) : x * y ≤ 4294967296 := by
  calc x * y ≤ 65536 * y := Nat.mul_le_mul_right _ (by omega)
    _ ≤ 65536 * 65536 := Nat.mul_le_mul_left _ (by omega)
    _ ≤ _ := by decide
theorem mulL_dig {p : Nat} {f g : List Nat} (hp : p ≤ 65536) (hf : Lt p f) (hg : Lt p g) (lf : f.length ≤ 200000) (ng : 0 < g.length) (k : Nat) : (mulL p f g).getD k 0 = pk f * pk g / BB ^ k % BB % p := by
  have e : mulL p f g = (mulU g f 0 (List.replicate (f.length + g.length - 1) 0)).map (· % p) := by
    rw [← mul_mod]
    unfold mulL
    congr 1
    rw [List.map_replicate, Nat.zero_mod]
  rw [e, getD_map]
  have hpk := pk_mul g f 0 (List.replicate (f.length + g.length - 1) 0) (by rw [List.length_replicate]; omega)
  rw [pk_rep, Nat.zero_add, Nat.pow_zero, Nat.mul_one] at hpk
  rw [← hpk, pk_dig]
  apply lt_of_getD
  intro i
  have h1 := mul_bd 4294967296 g f 0 (List.replicate (f.length + g.length - 1) 0) i (fun x hx y hy => sq_le (Nat.le_of_lt (hf x hx)) (Nat.le_of_lt (hg y hy)) hp)
  have h2 : (List.replicate (f.length + g.length - 1) 0).getD i 0 = 0 := by
    rw [List.getD_eq_getElem?_getD, List.getElem?_replicate]; split <;> rfl
  rw [h2] at h1
  show _ < 18446744073709551616
  omega
/- remainders -/
theorem subM_row {p c x o : Nat} (h0 : 0 < p) (hc : c ≤ p) : subM p (o % p) (c * x) = (o + (p - c) * x) % p := by
  unfold subM
  rw [Nat.mod_add_mod]
  have h1 : c * x % p < p := Nat.mod_lt _ h0
  have h2 := Nat.div_add_mod (c * x) p
  have h3 : (p - c) * x + c * x = p * x := by rw [← Nat.add_mul]; congr 1; omega
  have key : (o + (p - c * x % p)) + p * x = (o + (p - c) * x) + p * (c * x / p + 1) := by
    rw [Nat.mul_add]; omega
  have := congrArg (· % p) key
  simpa only [Nat.add_mul_mod_self_left] using this
theorem sub_mod {p c : Nat} (h0 : 0 < p) (hc : c ≤ p) : ∀ (g : List Nat) (n : Nat) (o : List Nat), subS p c g n (o.map (· % p)) = (rowU (p - c) g n o).map (· % p)
  | [], n, o => rfl
  | y :: g, n, o => by
    simp only [subS, rowU]
    rw [← sub_mod h0 hc g (n + 1), List.map_set, getD_map, subM_row h0 hc]
/-- the packed division: what is left of the dividend, and the quotient -/
def divP (p inv n G : Nat) : Nat → Nat → List Nat → Nat × List Nat
  | 0, R, q => (R, q)
  | j + 1, R, q => divP p inv n G j (R + (p - R / BB ^ (j + n - 1) % BB % p * inv % p) * G * BB ^ j) (R / BB ^ (j + n - 1) % BB % p * inv % p :: q)
theorem div_pk {p inv : Nat} {g : List Nat} (h0 : 0 < p) (hp : p ≤ 65536) (hg : Lt p g) (ng : 0 < g.length) : ∀ (j : Nat) (o q : List Nat) (b : Nat), j + g.length ≤ o.length + 1 → j ≤ q.length → (∀ i, o.getD i 0 ≤ b) → b + j * 4294967296 < BB →
    ∃ o', (divS p inv g j (o.map (· % p)) q).1 = o'.map (· % p) ∧ (divS p inv g j (o.map (· % p)) q).2 = (divP p inv g.length (pk g) j (pk o) (q.drop j)).2 ∧ pk o' = (divP p inv g.length (pk g) j (pk o) (q.drop j)).1 ∧ (∀ i, o'.getD i 0 < BB) ∧ o'.length = o.length
  | 0, o, q, b, h1, h2, h3, h4 => ⟨o, rfl, rfl, rfl, fun i => by have := h3 i; omega, rfl⟩
  | j + 1, o, q, b, h1, h2, h3, h4 => by
    have hob : ∀ x ∈ o, x < BB := lt_of_getD fun i => by have := h3 i; omega
    have hd := pk_dig o (j + g.length - 1) hob
    simp only [divS, divP]
    rw [getD_map, hd]
    have hc : o.getD (j + g.length - 1) 0 % p * inv % p < p := Nat.mod_lt _ h0
    rw [sub_mod h0 (Nat.le_of_lt hc)]
    have hb := row_bd (p - o.getD (j + g.length - 1) 0 % p * inv % p) 4294967296 g j o
    obtain ⟨o', r1, r2, r3, r4, r5⟩ := div_pk h0 hp hg ng j (rowU (p - o.getD (j + g.length - 1) 0 % p * inv % p) g j o) (q.set j (o.getD (j + g.length - 1) 0 % p * inv % p)) (b + 4294967296) (by rw [rowU_len]; omega) (by rw [List.length_set]; omega) (fun i => by
        have := hb i (fun y hy => sq_le (Nat.sub_le _ _) (Nat.le_of_lt (hg y hy)) hp)
        have := h3 i; omega) (by omega)
    have hq : (q.set j (o.getD (j + g.length - 1) 0 % p * inv % p)).drop j = o.getD (j + g.length - 1) 0 % p * inv % p :: q.drop (j + 1) := by
      rw [drop_cons (by rw [List.length_set]; omega), getD_set, if_pos ⟨rfl, by omega⟩]
      congr 1
      rw [List.drop_set_of_lt (by omega)]
    rw [pk_row _ _ _ _ (by omega), hq] at r3
    rw [pk_row _ _ _ _ (by omega), hq] at r2
    exact ⟨o', r1, r2, r3, r4, by rw [r5, rowU_len]⟩
end Go.AM

/- fp.DivMod as a whole; fp.Mul and fp.DivMod told by packed numbers. -/
namespace Go.AM
set_option linter.unusedVariables false
set_option linter.unusedSimpArgs false
noncomputable section
theorem pSlc_so (id : Pos) {m c n : Nat} (hn : n ≤ m) (hm : m ≤ c) (hc : c ≤ 1073741824) (k : V → R) : pSlc 1 (.so id 0 m c 1) none (some (nn n)) (some (nn n)) k = k (.sl id 0 n n) := by
  show gu (Bool.not (neg .i64 n)) (gu (Nat.ble n c) (gu (Bool.not (neg .i64 n)) (gu (Nat.ble n n) (gu (Nat.ble 0 n) (fN (cut 1 0 0 n) (fun o => fN (Nat.sub n 0) (fun n' => fN (Nat.sub n 0) (fun q => k (.sl id o n' q))))))))) = _
  rw [neg_n (by omega), Nat.ble_eq_true_of_le (by omega), Nat.ble_eq_true_of_le (Nat.le_refl n), Nat.ble_eq_true_of_le (Nat.zero_le n)]
  simp only [fN_eq]
  show k (.sl id (cut 1 0 0 n) (n - 0) (n - 0)) = _
  rw [show cut 1 0 0 n = 0 by unfold cut; cases Nat.beq n 0 <;> rfl, Nat.sub_zero]
theorem pSlc_hi (id : Pos) {m c n : Nat} (hn : n ≤ c) (hc : c ≤ 1073741824) (k : V → R) : pSlc 1 (.so id 0 m c 1) none (some (nn n)) none k = k (.so id 0 n c 1) := by
  show gu (Bool.not (neg .i64 n)) (gu (Nat.ble n c) (gu (Nat.ble 0 n) (fN (Nat.add 0 (Nat.mul 0 1)) (fun o => fN (Nat.sub n 0) (fun n' => fN (Nat.sub c 0) (fun q => k (.so id o n' q 1))))))) = _
  rw [neg_n (by omega), Nat.ble_eq_true_of_le hn, Nat.ble_eq_true_of_le (Nat.zero_le n)]
  simp only [fN_eq]
  show k (.so id (0 + 0 * 1) (n - 0) (c - 0) 1) = _
  rw [Nat.sub_zero, Nat.sub_zero]
theorem trim_run_so {S : St} {id : Pos} {m c : Nat} {l : List Nat} (h : Row S (.so id 0 m c 1) l) (hl : l.length ≤ 500000) (hmc : m ≤ c) (hc : c ≤ 1073741824) (k : Cont) : F188 (.so id 0 m c 1) S k = k (.sl id 0 (trimN l l.length) (trimN l l.length)) S := by
  have hm : m = l.length := h.2.1
  unfold F188 G188
  rw [C188_eq, tr_head _ _ _ _ _ _ _ (nn l.length) (nn (trimN l l.length)) S _ (.sl id 0 (trimN l l.length) (trimN l l.length)) (fun c => h.len (by omega) c) (fun kn kx kr => ?_) (fun c => pSlc_so id (by rw [hm]; exact trimN_le l _) hmc hc c)]
  obtain ⟨kx', e1, e2⟩ := block_loop0 B188 kn kx kr
  rw [e2, trim_loop h hl kx' kr .sn 1000000 l.length _ (Nat.le_refl _) (by omega), e1]
theorem pDraw_at {f : Sem3} {v : V} {S : St} (h : ∀ k, f S.lock k = k v S.lock) (k : Cont) : pDraw f S k = k v S := by
  cases S; exact h _
theorem Row.lock {S : St} {v : V} {l : List Nat} (h : Row S v l) : Row S.lock v l := h
theorem div_short {S : St} (ok : SOK S) {vp vf vg : V} {f g : List Nat} {G : Gn 2} (hf : Row S vf f) (hg : Row S vg g) (lf : f.length ≤ 100000) (lg : g.length ≤ 100000) (nf : 0 < f.length) (hlt : f.length < g.length) :
    ∃ S' id, ∀ k, G146 (C146 G F188 F189) vp vf vg S k = k (.tu [.sn, .so id 0 f.length f.length 1]) S' := by
  have ok1 := ok.new []
  have o1 : Old S (S.new []) := Old.new ok _ (.refl _) (Nat.le_refl _)
  have o2 : Old S ((S.new []).new (f.map nn)) := Old.new ok1 _ o1 (Nat.le_succ _)
  refine ⟨(S.new []).new (f.map nn), (S.new []).nx, fun k => ?_⟩
  unfold G146
  rw [C146_eq, d_short (h1 := fun c => pBsl0_eq S c) (h2 := fun c => app_row (hf.old ok o1) nf (by omega) ⟨S.cnt, St.new_get S []⟩ c) (h3 := fun c => hg.len (by omega) c) (h4 := fun c => hf.len (by omega) c) (h5 := fun c => by rw [lss_n (by omega) (by omega), decide_eq_true hlt])]
theorem div_run {S : St} (ok : SOK S) {p inv : Nat} {vf vg : V} {f g : List Nat} {G : Gn 2} (h0 : 0 < p) (hp : p ≤ 65536) (hi : inv < 65536) (hf : Row S vf f) (sf : Sm f) (hg : Row S vg g) (sg : Sm g) (lf : f.length ≤ 100000) (ng : 0 < g.length) (hle : g.length ≤ f.length)
    (hG : ∀ S k, G (nn p) (nn (g.getD (g.length - 1) 0)) S k = k (nn inv) S) :
    ∃ S' ia iq, ia.num = S.cnt + 1 ∧ iq.num = S.cnt + 2 ∧ Has S' ia (divS p inv g (f.length - g.length + 1) f (List.replicate (f.length - g.length + 1) 0)).1 ∧ Has S' iq (divS p inv g (f.length - g.length + 1) f (List.replicate (f.length - g.length + 1) 0)).2 ∧
      ∀ k, G146 (C146 G F188 F189) (nn p) vf vg S k = k (.tu [.sl iq 0 (trimN (divS p inv g (f.length - g.length + 1) f (List.replicate (f.length - g.length + 1) 0)).2 (f.length - g.length + 1)) (trimN (divS p inv g (f.length - g.length + 1) f (List.replicate (f.length - g.length + 1) 0)).2 (f.length - g.length + 1)),
        .sl ia 0 (trimN (divS p inv g (f.length - g.length + 1) f (List.replicate (f.length - g.length + 1) 0)).1 (g.length - 1)) (trimN (divS p inv g (f.length - g.length + 1) f (List.replicate (f.length - g.length + 1) 0)).1 (g.length - 1))]) S' := by
  have ok1 := ok.new []
  have o1 : Old S (S.new []) := Old.new ok _ (.refl _) (Nat.le_refl _)
  have ok2 := ok1.new (f.map nn)
  have o2 : Old S ((S.new []).new (f.map nn)) := Old.new ok1 _ o1 (Nat.le_succ _)
  have ok3 := ok2.new ((List.replicate (f.length - g.length + 1) 0).map nn)
  have o3 : Old S (((S.new []).new (f.map nn)).new ((List.replicate (f.length - g.length + 1) 0).map nn)) := Old.new ok2 _ o2 (show S.cnt ≤ S.cnt + 1 + 1 by omega)
  have n1 : (S.new []).nx.num = S.cnt + 1 := ok1.nx
  have n2 : ((S.new []).new (f.map nn)).nx.num = S.cnt + 2 := ok2.nx
  obtain ⟨v10', v11', v12', v13', v14', v15', v16', S', r1, r2, r3, r4, r5⟩ := div_out ok (id := (S.new []).nx) (iq := ((S.new []).new (f.map nn)).nx) h0 hp hi hg sg ng (by omega) (by omega) (fun e => by rw [e] at n2; omega) hle (by omega) 1000000 (f.length - g.length + 1) f (List.replicate (f.length - g.length + 1) 0) _ .other .other .other .other .other .other .other .other (Nat.le_refl _) (by omega) rfl (by simp) sf
    (Has.keep_new ok2 ((List.replicate (f.length - g.length + 1) 0).map nn) (Has.new ok1 f)) (Has.new ok2 _) o3
  obtain ⟨l1, l2⟩ := divS_len p inv g (f.length - g.length + 1) f (List.replicate (f.length - g.length + 1) 0)
  rw [List.length_replicate] at l2
  refine ⟨S', _, _, n1, n2, r1, r2, fun k => ?_⟩
  generalize hR : (divS p inv g (f.length - g.length + 1) f (List.replicate (f.length - g.length + 1) 0)).1 = R at *
  generalize hQ : (divS p inv g (f.length - g.length + 1) f (List.replicate (f.length - g.length + 1) 0)).2 = Q at *
  have rowq : Row S' (.sl ((S.new []).new (f.map nn)).nx 0 (f.length - g.length + 1) (f.length - g.length + 1)) Q := by
    have := Has.row (L := Q) (t := []) (by rw [List.append_nil]; exact r2) (f.length - g.length + 1)
    rwa [l2] at this
  have rowr : Row S' (.so (S.new []).nx 0 (g.length - 1) f.length 1) (R.take (g.length - 1)) := by
    obtain ⟨n, h1, h2⟩ := r1
    refine ⟨rfl, by rw [List.length_take]; omega, _, h1, (R.drop (g.length - 1)).map nn, ?_⟩
    rw [List.drop_zero, ← List.map_append, List.take_append_drop]
  have hlast := getD_of (l := g) (i := g.length - 1) (by omega)
  obtain ⟨q, q1, q2⟩ := (hg.old ok o3).get hlast (by omega)
  have lt : (R.take (g.length - 1)).length = g.length - 1 := by rw [List.length_take]; omega
  have tt : trimN (R.take (g.length - 1)) (g.length - 1) = trimN R (g.length - 1) := by
    have : ∀ n, n ≤ g.length - 1 → trimN (R.take (g.length - 1)) n = trimN R n := by
      intro n
      induction n with
      | zero => intro _; rfl
      | succ n ih =>
        intro hn
        unfold trimN
        rw [ih (by omega)]
        have : (R.take (g.length - 1)).getD n 0 = R.getD n 0 := by
          rw [List.getD_eq_getElem?_getD, List.getElem?_take, if_pos (by omega), List.getD_eq_getElem?_getD]
        rw [this]
    exact this _ (Nat.le_refl _)
  unfold G146
  rw [C146_eq, d_head (h1 := fun c => pBsl0_eq S c) (h2 := fun c => app_row (hf.old ok o1) (by omega) (by omega) ⟨S.cnt, St.new_get S []⟩ c) (h3 := fun c => hg.len (by omega) c) (h4 := fun c => hf.len (by omega) c) (h5 := fun c => by rw [lss_n (by omega) (by omega), decide_eq_false (by omega)])
    (h6 := fun c => sub_n hle (by omega) c) (h7 := fun c => add_n (by omega) c) (h8 := fun c => pMks_eq (by omega) _ c) (h9 := fun c => sub_n ng (by omega) c) (h10 := q1) (h11 := q2) (h12 := fun k => hG _ k)
    (hL := fun kn kx kr => by
      obtain ⟨kx', e1, e2⟩ := block_loop0 (BDO F189 (cBlock 2 (cLoop (BDI F189)))) kn kx kr
      rw [e2]
      refine (r5 kx' kr _ _ _ _).trans ?_
      rw [e1])
    (g1 := fun k => pDraw_at (fun k => trim_run (Row.lock rowq) (by omega) (Nat.le_refl _) (by omega) k) k) (g2 := fun c => pSlc_hi _ (by omega) (by omega) c) (g3 := fun k => pDraw_at (fun k => trim_run_so (Row.lock rowr) (by omega) (by omega) (by omega) k) k)]
  rw [lt, tt, l2]
end
end Go.AM

/- Texts of fp.Mul and fp.DivMod over packed numbers. -/
namespace Go.AM
set_option linter.unusedVariables false
set_option linter.unusedSimpArgs false
noncomputable section
variable {out : V × St}
def packK (p : Nat) (cs : List V) : Nat → Nat → Nat → (Nat → R) → R :=
  List.rec (motive := fun _ => Nat → Nat → Nat → (Nat → R) → R) (fun n _ acc k => gu (Nat.beq n 0) (k acc))
    (fun v cs' ih n w acc k => Nat.rec (motive := fun _ => R) (gu (flatL (v :: cs')) (k acc)) (fun n' _ => vI v (fun kd x => gu (Bool.and (Nat.beq (kNo kd) 3) (Nat.blt x p)) (fN (Nat.mul w BB) (fun w' => fN (Nat.add acc (Nat.mul w x)) (fun a' => ih n' w' a' k))))) n) cs
/-- a slice of numbers below p: how many, and packed -/
def rdK (p : Nat) (v : V) (S : St) (k : Nat → Nat → R) : R := vS4 v (k 0 0)
  (fun id off len cap => gu (Nat.beq off 0) (cellsAt id S (fun cs => packK p cs len 1 0 (fun F => k len F))))
  (fun id off len cap sz => gu (Bool.and (Nat.beq off 0) (Nat.beq sz 1)) (cellsAt id S (fun cs => packK p cs len 1 0 (fun F => k len F))))
def unpR (p P : Nat) (n : Nat) : List V → Nat → (List V → Nat → R) → R :=
  Nat.rec (motive := fun _ => List V → Nat → (List V → Nat → R) → R) (fun acc l k => k acc l)
    (fun n ih acc l k => fN (Nat.mod (Nat.mod (Nat.div P (Nat.pow BB n)) BB) p) (fun d => Bool.rec (motive := fun _ => R) (ih (nn d :: acc) (Nat.succ l) k) (ih acc l k) (Bool.and (Nat.beq d 0) (Nat.beq l 0)))) n
theorem kNo_i64 {kd : IntKind} (h : Nat.beq (kNo kd) 3 = true) : kd = .i64 := by cases kd <;> first | rfl | exact absurd h (by decide)
theorem packK_some {p : Nat} : ∀ (cs : List V) (n w acc : Nat) (k : Nat → R), packK p cs n w acc k = some out → ∃ l t, cs = l.map nn ++ t ∧ l.length = n ∧ Lt p l ∧ flatL cs = true ∧ k (acc + w * pk l) = some out
  | [], n, w, acc, k, h => by
    obtain ⟨h1, h2⟩ := gu_some (show gu (Nat.beq n 0) (k acc) = some out from h)
    have := Nat.eq_of_beq_eq_true h1
    subst this
    exact ⟨[], [], rfl, rfl, (fun x hx => by cases hx), rfl, by simpa [pk] using h2⟩
  | v :: cs, 0, w, acc, k, h => by
    obtain ⟨h1, h2⟩ := gu_some (show gu (flatL (v :: cs)) (k acc) = some out from h)
    exact ⟨[], v :: cs, rfl, rfl, (fun x hx => by cases hx), h1, by simpa [pk] using h2⟩
  | v :: cs, n + 1, w, acc, k, h => by
    obtain ⟨kd, x, rfl, h1⟩ := vI_some (show vI v (fun kd x => gu (Bool.and (Nat.beq (kNo kd) 3) (Nat.blt x p)) (fN (Nat.mul w BB) (fun w' => fN (Nat.add acc (Nat.mul w x)) (fun a' => packK p cs n w' a' k)))) = some out from h)
    obtain ⟨h2, h3⟩ := gu_some h1
    rw [fN_eq, fN_eq] at h3
    simp only [Bool.and_eq_true] at h2
    have hk := kNo_i64 h2.1
    subst hk
    obtain ⟨l, t, e1, e2, e3, e4, e5⟩ := packK_some cs n _ _ k h3
    refine ⟨x :: l, t, by rw [e1]; rfl, by rw [List.length_cons, e2], fun y hy => ?_, by rw [show flatL (V.i .i64 x :: cs) = flatL cs from rfl]; exact e4, ?_⟩
    · rcases List.mem_cons.1 hy with rfl | hy
      · rw [blt_eq] at h2; exact of_decide_eq_true h2.2
      · exact e3 y hy
    · rw [← e5]; congr 1
      show acc + w * (x + BB * pk l) = acc + w * x + w * BB * pk l
      rw [Nat.mul_add, ← Nat.mul_assoc, Nat.add_assoc]
/-- the blocks that hold nothing but flat values -/
def pf (S : St) (q : Pos) : Bool := match S.h.get q with
  | some b => flatL b.cs
  | none => false
theorem rdK_some {p : Nat} {v : V} {S : St} {k : Nat → Nat → R} (h : rdK p v S k = some out) : ∃ l, Row S v l ∧ Lt p l ∧ okV (pf S) v = true ∧ k l.length (pk l) = some out := by
  have sl : ∀ (id : Pos) (len : Nat), cellsAt id S (fun cs => packK p cs len 1 0 (fun F => k len F)) = some out → ∃ l b t, S.h.get id = some b ∧ b.cs = l.map nn ++ t ∧ l.length = len ∧ Lt p l ∧ pf S id = true ∧ k l.length (pk l) = some out := fun id len h => by
    obtain ⟨b, h1, h2⟩ := cellsAt_some h
    obtain ⟨l, t, e1, e2, e3, e4, e5⟩ := packK_some _ _ _ _ _ h2
    rw [Nat.zero_add, Nat.one_mul] at e5
    refine ⟨l, b, t, h1, e1, e2, e3, ?_, by rw [e2]; exact e5⟩
    unfold pf; rw [h1]; exact e4
  cases v <;> try (exact absurd (show (none : R) = some out from h) (by simp))
  · rename_i id off len cap
    obtain ⟨h1, h2⟩ := gu_some (show gu (Nat.beq off 0) (cellsAt id S (fun cs => packK p cs len 1 0 (fun F => k len F))) = some out from h)
    have := Nat.eq_of_beq_eq_true h1
    subst this
    obtain ⟨l, b, t, e1, e2, e3, e4, e5, e6⟩ := sl id len h2
    exact ⟨l, ⟨e3.symm, b, e1, t, by rw [List.drop_zero, e2]⟩, e4, e5, e6⟩
  · rename_i id off len cap sz
    obtain ⟨h1, h2⟩ := gu_some (show gu (Bool.and (Nat.beq off 0) (Nat.beq sz 1)) (cellsAt id S (fun cs => packK p cs len 1 0 (fun F => k len F))) = some out from h)
    simp only [Bool.and_eq_true] at h1
    have := Nat.eq_of_beq_eq_true h1.1
    subst this
    obtain ⟨l, b, t, e1, e2, e3, e4, e5, e6⟩ := sl id len h2
    exact ⟨l, ⟨Nat.eq_of_beq_eq_true h1.2, e3.symm, b, e1, t, by rw [List.drop_zero, e2]⟩, e4, e5, e6⟩
  · exact ⟨[], rfl, (fun x hx => by cases hx), rfl, h⟩
theorem unpR_eq {p P : Nat} (D : List Nat) (hD : ∀ i, i < D.length → D.getD i 0 = P / BB ^ i % BB % p) (k : List V → Nat → R) : ∀ (n : Nat) (A : List Nat), n ≤ D.length → unpR p P n (A.map nn) A.length k = (fun T => k (T.map nn) T.length) (if A = [] then D.take (trimN D n) else D.take n ++ A)
  | 0, A, h => by
    show k (A.map nn) A.length = _
    split
    · rename_i h; subst h; rfl
    · simp
  | n + 1, A, h => by
    show fN (P / BB ^ n % BB % p) _ = _
    rw [fN_eq, ← hD n (by omega)]
    have tk : D.take (n + 1) = D.take n ++ [D.getD n 0] := by
      rw [List.take_add_one, List.getElem?_eq_getElem (by omega), List.getD_eq_getElem?_getD, List.getElem?_eq_getElem (by omega)]; rfl
    by_cases hA : A = []
    · subst hA
      rw [if_pos rfl]
      cases hb : Nat.beq (D.getD n 0) 0 with
      | true =>
        show unpR p P n (([] : List Nat).map nn) ([] : List Nat).length k = _
        rw [unpR_eq D hD k n [] (by omega), if_pos rfl]
        simp only [trimN, hb, cond_true]
      | false =>
        show unpR p P n ([D.getD n 0].map nn) [D.getD n 0].length k = _
        rw [unpR_eq D hD k n [D.getD n 0] (by omega), if_neg (by simp)]
        simp only [trimN, hb, cond_false]
        rw [tk]
    · have hl : Nat.beq A.length 0 = false := by
        cases A with
        | nil => exact absurd rfl hA
        | cons a A => rfl
      rw [hl, Bool.and_false, if_neg hA]
      show unpR p P n ((D.getD n 0 :: A).map nn) (D.getD n 0 :: A).length k = _
      rw [unpR_eq D hD k n _ (by omega), if_neg (by simp), tk, List.append_assoc]; rfl
theorem flat_nn : ∀ l : List Nat, flatL (l.map nn) = true
  | [] => rfl
  | x :: l => flat_nn l
theorem pf_lt {S : St} (ok : SOK S) {q : Pos} (h : pf S q = true) : q.num < S.cnt := by
  unfold pf at h
  cases hg : S.h.get q with
  | none => rw [hg] at h; cases h
  | some b => exact (ok.blk _ _ hg).1
theorem pf_ok {S : St} {q : Pos} {b : Blk} (h : pf S q = true) (hb : S.h.get q = some b) : okL (pf S) b.cs = true := by
  unfold pf at h; rw [hb] at h; exact flatL_ok _ h
/- the product -/
def mulF : Gn 3 := fun vp vf vg S k => vI vp (fun kd p => gu (Nat.beq (kNo kd) 3) (Bool.rec (motive := fun _ => R) (F254 vp vf vg S k)
  (rdK p vf S (fun nf F => rdK p vg S (fun ng G => Bool.rec (motive := fun _ => R) (F254 vp vf vg S k)
    (fN (Nat.mul F G) (fun P => unpR p P (Nat.sub (Nat.add nf ng) 1) [] 0 (fun cs l => newK cs S (fun nx S' => k (.sl nx 0 l l) S'))))
    (Bool.and (Bool.and (Nat.blt 0 nf) (Nat.blt 0 ng)) (Bool.and (Nat.ble nf 100000) (Nat.ble ng 100000)))))) (Bool.and (Nat.blt 0 p) (Nat.ble p 65536))))
theorem take_map (L : List Nat) (n : Nat) : L.map nn = (L.take n).map nn ++ (L.drop n).map nn := by rw [← List.map_append, List.take_append_drop]
theorem mulF_ok : FOK Proofs.Tryz.prog 254 (un 3 mulF) := by
  intro vs S k out ok h
  match vs, h with
  | [], h => exact no h
  | [_], h => exact no h
  | [_, _], h => exact no h
  | _ :: _ :: _ :: _ :: _, h => exact no h
  | [vp, vf, vg], h =>
    have slow : F254 vp vf vg S k = some out → _ := fun h => K254 [vp, vf, vg] S k out ok h
    obtain ⟨kd, p, rfl, h⟩ := vI_some (show mulF vp vf vg S k = some out from h)
    obtain ⟨h1, h⟩ := gu_some h
    have := kNo_i64 h1
    subst this
    cases hp : Bool.and (Nat.blt 0 p) (Nat.ble p 65536) with
    | false => rw [hp] at h; exact slow h
    | true =>
      rw [hp] at h
      simp only [Bool.and_eq_true] at hp
      have h0 : 0 < p := by rw [blt_eq] at hp; exact of_decide_eq_true hp.1
      have hp := Nat.le_of_ble_eq_true hp.2
      obtain ⟨f, f1, f2, f3, h⟩ := rdK_some h
      obtain ⟨g, g1, g2, g3, h⟩ := rdK_some h
      cases hl : Bool.and (Bool.and (Nat.blt 0 f.length) (Nat.blt 0 g.length)) (Bool.and (Nat.ble f.length 100000) (Nat.ble g.length 100000)) with
      | false => rw [hl] at h; exact slow h
      | true =>
        rw [hl] at h
        simp only [Bool.and_eq_true] at hl
        have nf : 0 < f.length := by have := hl.1.1; rw [blt_eq] at this; exact of_decide_eq_true this
        have ng : 0 < g.length := by have := hl.1.2; rw [blt_eq] at this; exact of_decide_eq_true this
        have lf := Nat.le_of_ble_eq_true hl.2.1
        have lg := Nat.le_of_ble_eq_true hl.2.2
        have hdig : ∀ i, i < (mulL p f g).length → (mulL p f g).getD i 0 = pk f * pk g / BB ^ i % BB % p := fun i _ => mulL_dig hp f2 g2 (by omega) ng i
        have h : fN (pk f * pk g) (fun P => unpR p P (f.length + g.length - 1) [] 0 (fun cs l => newK cs S (fun nx S' => k (.sl nx 0 l l) S'))) = some out := h
        rw [fN_eq] at h
        have hu := unpR_eq (mulL p f g) hdig (fun cs l => newK cs S (fun nx S' => k (.sl nx 0 l l) S')) (mulL p f g).length [] (Nat.le_refl _)
        rw [if_pos rfl] at hu
        have hu := ((congrArg (fun n => unpR p (pk f * pk g) n [] 0 (fun cs l => newK cs S (fun nx S' => k (.sl nx 0 l l) S'))) (mulL_len p f g)).symm.trans hu).symm.trans h
        clear h
        simp only [newK_eq] at hu
        have lT : ((mulL p f g).take (trimN (mulL p f g) (mulL p f g).length)).length = trimN (mulL p f g) (mulL p f g).length := by
          rw [List.length_take]; have := trimN_le (mulL p f g) (mulL p f g).length; omega
        rw [lT] at hu
        refine ⟨_, _, hu, ?_⟩
        obtain ⟨S2, s1, s2⟩ := mul_run ok.lock h0 hp (Row.lock f1) (f2.sm hp) (Row.lock g1) (g2.sm hp) (by omega) (by omega) nf ng
        obtain ⟨v', S', e1, e2⟩ := K254 [nn p, vf, vg] S.lock (fun v S => some (v, S)) _ ok.lock (s2 _)
        cases e1
        obtain ⟨nb, s3, s4, s5⟩ := s1
        have := forget (p := pf S) (outs := [(S.nx, ((mulL p f g).take (trimN (mulL p f g) (mulL p f g).length)).map nn)]) (π2 := fun q => q) (p2 := fun q => Nat.beq q.num S.nx.num) e2 ok
          (by simp only [okL, okV, f3, g3, Bool.and_self]) (fun id hq => pf_lt ok hq) (fun id b hq hb => pf_ok hq hb)
          (fun i j x y hi hj he => by
            have := (List.getElem?_eq_some_iff.1 hi).1
            have := (List.getElem?_eq_some_iff.1 hj).1
            simp at *; omega)
          (fun x hx => by
            rcases List.mem_singleton.1 hx with rfl
            exact ⟨by rw [ok.nx]; exact Nat.le_refl _, _, _, s3, take_map _ _, s5, flat_nn _⟩)
          (fun id hid => .inr ⟨0, _, rfl, (Pos.num_inj _ _ (Nat.eq_of_beq_eq_true hid)).symm, by rw [Nat.eq_of_beq_eq_true hid, ok.nx]; rfl⟩)
          (by show Nat.beq S.nx.num S.nx.num = true; exact Nat.beq_refl _)
          (fun x hx => by
            rcases List.mem_singleton.1 hx with rfl
            exact flatL_ok _ (flat_nn _))
        rw [renV_id] at this
        simp only [List.map_cons, List.map_nil, renL_id, layS] at this
        exact this
end
end Go.AM

/- The text of fp.DivMod over packed numbers. -/
namespace Go.AM
set_option linter.unusedVariables false
set_option linter.unusedSimpArgs false
set_option maxRecDepth 100000
noncomputable section
variable {out : V × St}
/-- the odd and even primes up to 61 -/
def PR : List Nat := [2, 3, 5, 7, 11, 13, 17, 19, 23, 29, 31, 37, 41, 43, 47, 53, 59, 61, 67, 71, 73, 79, 83, 89, 97, 101, 103, 107, 109, 113]
abbrev MASK : Nat := 11208725692800878387746119562700972
def okp (p : Nat) : Bool := Nat.beq (Nat.mod (Nat.div MASK (Nat.pow 2 p)) 2) 1
theorem okp_mem {p : Nat} (h : okp p = true) : p ∈ PR := by
  rcases Nat.lt_or_ge p 128 with h1 | h1
  · exact (show ∀ p, p < 128 → okp p = true → p ∈ PR by decide) p h1 h
  · have h2 : 2 ^ 128 ≤ 2 ^ p := Nat.pow_le_pow_right (by decide) h1
    have h3 : MASK / 2 ^ p = 0 := Nat.div_eq_of_lt (Nat.lt_of_lt_of_le (by decide) h2)
    unfold okp at h
    rw [show Nat.div MASK (Nat.pow 2 p) = 0 from h3] at h
    exact absurd h (by decide)
theorem PR_lt : ∀ p ∈ PR, 2 ≤ p ∧ p < 128 := by decide
/- inverses: a table -/
def okR (r : R) (x : V) : Bool := match r with
  | some r => eqV r.1 x
  | none => false
theorem okR_some {r : R} {x : V} (h : okR r x = true) : ∃ S, r = some (x, S) := by
  cases r with
  | none => cases h
  | some r => obtain ⟨v, S⟩ := r; exact ⟨S, by rw [eqV_eq _ _ (show eqV v x = true from h)]⟩
def invOk (p a : Nat) : Bool := okR (F151 (nn p) (nn a) (mkS []) fun v S => some (v, S)) (nn (Nat.mod (Nat.pow a (Nat.sub p 2)) p))
theorem invOk_some {p a : Nat} (h : invOk p a = true) : ∃ S, F151 (nn p) (nn a) (mkS []) (fun v S => some (v, S)) = some (nn (a ^ (p - 2) % p), S) := okR_some h
theorem un3x (g : Gn 3) (a b c : V) : un 3 g [a, b, c] = g a b c := by rfl
def upto (f : Nat → Bool) : Nat → Bool := Nat.rec true (fun n ih => Bool.rec (motive := fun _ => Bool) false ih (Bool.or (Nat.beq n 0) (f n)))
theorem upto_ok {f : Nat → Bool} : ∀ {n : Nat}, upto f n = true → ∀ a, 0 < a → a < n → f a = true
  | 0, _, a, _, h => by omega
  | n + 1, h, a, h1, h2 => by
    have h : Bool.rec (motive := fun _ => Bool) false (upto f n) (Bool.or (Nat.beq n 0) (f n)) = true := h
    cases hb : Bool.or (Nat.beq n 0) (f n) with
    | false => rw [hb] at h; cases h
    | true =>
      rw [hb] at h
      rcases Nat.lt_or_ge a n with h3 | h3
      · exact upto_ok h a h1 h3
      · have : a = n := by omega
        subst this
        have hb : (Nat.beq a 0 || f a) = true := hb
        simp only [Bool.or_eq_true] at hb
        rcases hb with h4 | h4
        · have := Nat.eq_of_beq_eq_true h4; omega
        · exact h4
theorem inv_2 : upto (invOk 2) 2 = true := by kernel_rfl
theorem inv_3 : upto (invOk 3) 3 = true := by kernel_rfl
theorem inv_5 : upto (invOk 5) 5 = true := by kernel_rfl
theorem inv_7 : upto (invOk 7) 7 = true := by kernel_rfl
theorem inv_11 : upto (invOk 11) 11 = true := by kernel_rfl
theorem inv_13 : upto (invOk 13) 13 = true := by kernel_rfl
theorem inv_17 : upto (invOk 17) 17 = true := by kernel_rfl
theorem inv_19 : upto (invOk 19) 19 = true := by kernel_rfl
theorem inv_23 : upto (invOk 23) 23 = true := by kernel_rfl
theorem inv_29 : upto (invOk 29) 29 = true := by kernel_rfl
theorem inv_31 : upto (invOk 31) 31 = true := by kernel_rfl
theorem inv_37 : upto (invOk 37) 37 = true := by kernel_rfl
theorem inv_41 : upto (invOk 41) 41 = true := by kernel_rfl
theorem inv_43 : upto (invOk 43) 43 = true := by kernel_rfl
theorem inv_47 : upto (invOk 47) 47 = true := by kernel_rfl
theorem inv_53 : upto (invOk 53) 53 = true := by kernel_rfl
theorem inv_59 : upto (invOk 59) 59 = true := by kernel_rfl
theorem inv_61 : upto (invOk 61) 61 = true := by kernel_rfl
theorem inv_67 : upto (invOk 67) 67 = true := by kernel_rfl
theorem inv_71 : upto (invOk 71) 71 = true := by kernel_rfl
theorem inv_73 : upto (invOk 73) 73 = true := by kernel_rfl
theorem inv_79 : upto (invOk 79) 79 = true := by kernel_rfl
theorem inv_83 : upto (invOk 83) 83 = true := by kernel_rfl
theorem inv_89 : upto (invOk 89) 89 = true := by kernel_rfl
theorem inv_97 : upto (invOk 97) 97 = true := by kernel_rfl
theorem inv_101 : upto (invOk 101) 101 = true := by kernel_rfl
theorem inv_103 : upto (invOk 103) 103 = true := by kernel_rfl
theorem inv_107 : upto (invOk 107) 107 = true := by kernel_rfl
theorem inv_109 : upto (invOk 109) 109 = true := by kernel_rfl
theorem inv_113 : upto (invOk 113) 113 = true := by kernel_rfl
theorem inv_all : ∀ p ∈ PR, upto (invOk p) p = true := fun p hp => by
  simp only [PR, List.mem_cons, List.not_mem_nil, or_false] at hp
  rcases hp with rfl | rfl | rfl | rfl | rfl | rfl | rfl | rfl | rfl | rfl | rfl | rfl | rfl | rfl | rfl | rfl | rfl | rfl | rfl | rfl | rfl | rfl | rfl | rfl | rfl | rfl | rfl | rfl | rfl | rfl
  · exact inv_2
  · exact inv_3
  · exact inv_5
  · exact inv_7
  · exact inv_11
  · exact inv_13
  · exact inv_17
  · exact inv_19
  · exact inv_23
  · exact inv_29
  · exact inv_31
  · exact inv_37
  · exact inv_41
  · exact inv_43
  · exact inv_47
  · exact inv_53
  · exact inv_59
  · exact inv_61
  · exact inv_67
  · exact inv_71
  · exact inv_73
  · exact inv_79
  · exact inv_83
  · exact inv_89
  · exact inv_97
  · exact inv_101
  · exact inv_103
  · exact inv_107
  · exact inv_109
  · exact inv_113
def DI : List V → Option V
  | [.i .i64 p, .i .i64 a] => if okp p = true ∧ 0 < a ∧ a < p then some (nn (a ^ (p - 2) % p)) else none
  | _ => none
def F151t : Gn 2 := cur 2 (pureF DI)
theorem K151t : FOK Proofs.Tryz.prog 151 (un 2 F151t) := cur_ok 2 (pure_ok K151 DI fun vs v h => by
  unfold DI at h
  split at h
  · split at h
    · rename_i p a hn
      cases h
      have h1 := upto_ok (inv_all p (okp_mem hn.1)) a hn.2.1 hn.2.2
      obtain ⟨S2, h2⟩ := invOk_some h1
      exact ⟨by rfl, by rfl, S2, by rw [un2']; exact h2⟩
    · cases h
  · cases h)
theorem F151t_eq {p a : Nat} (h : okp p = true) (h0 : 0 < a) (ha : a < p) (S : St) (k : Cont) : F151t (nn p) (nn a) S k = k (nn (a ^ (p - 2) % p)) S := by
  have e : DI [nn p, nn a] = some (nn (a ^ (p - 2) % p)) := if_pos ⟨h, h0, ha⟩
  show pureF DI [nn p, nn a] S k = _
  simp only [pureF, e]
def F146t : Gn 3 := G146 (C146 F151t F188 F189)
theorem F146t_def : F146t = G146 (C146 F151t F188 F189) := by rfl
theorem K146t : FOK Proofs.Tryz.prog 146 (un 3 F146t) := fokP (.cons K151t (.cons K188 (.cons K189 .nil))) .nil hm Proofs.Tryz.func146 (by kernel_rfl) (D146 F151t F188 F189) (H146 _)
def divR (p inv n G : Nat) : Nat → Nat → List V → Nat → (Nat → List V → Nat → R) → R :=
  Nat.rec (motive := fun _ => Nat → List V → Nat → (Nat → List V → Nat → R) → R) (fun P q l k => k P q l)
    (fun j ih P q l k => fN (Nat.mod (Nat.mul (Nat.mod (Nat.mod (Nat.div P (Nat.pow BB (Nat.sub (Nat.add j n) 1))) BB) p) inv) p) (fun c => fN (Nat.add P (Nat.mul (Nat.mul (Nat.sub p c) G) (Nat.pow BB j))) (fun P' =>
      Bool.rec (motive := fun _ => R) (ih P' (nn c :: q) (Nat.succ l) k) (ih P' q l k) (Bool.and (Nat.beq c 0) (Nat.beq l 0)))))
def trimL (l : List Nat) : List Nat := l.take (trimN l l.length)
theorem trimN_cons (c : Nat) (q : List Nat) : ∀ n, trimN (c :: q) (n + 1) = if trimN q n = 0 then (if c = 0 then 0 else 1) else trimN q n + 1
  | 0 => by
    simp only [trimN, List.getD_cons_zero, if_true]
    by_cases h : c = 0
    · subst h; rfl
    · rw [if_neg h]
      cases hb : Nat.beq c 0
      · rfl
      · exact absurd (Nat.eq_of_beq_eq_true hb) h
  | n + 1 => by
    have ih := trimN_cons c q n
    have e1 : trimN (c :: q) (n + 1 + 1) = bif Nat.beq (q.getD n 0) 0 then trimN (c :: q) (n + 1) else n + 1 + 1 := by rw [trimN, List.getD_cons_succ]
    have e2 : trimN q (n + 1) = bif Nat.beq (q.getD n 0) 0 then trimN q n else n + 1 := by rw [trimN]
    rw [e1, e2]
    cases hb : Nat.beq (q.getD n 0) 0
    · simp
    · simpa using ih
theorem trimL_cons (c : Nat) (q : List Nat) : trimL (c :: q) = if trimL q = [] then (if c = 0 then [] else [c]) else c :: trimL q := by
  have e : trimL q = [] ↔ trimN q q.length = 0 := by
    unfold trimL
    have := trimN_le q q.length
    constructor
    · intro h; have h5 := congrArg List.length h; rw [List.length_take] at h5; have h5 : min (trimN q q.length) q.length = 0 := h5; omega
    · intro h; rw [h]; rfl
  show (c :: q).take (trimN (c :: q) (q.length + 1)) = _
  rw [trimN_cons]
  by_cases h : trimN q q.length = 0
  · rw [if_pos h, if_pos (e.2 h)]
    by_cases hc : c = 0
    · rw [if_pos hc, if_pos hc]; rfl
    · rw [if_neg hc, if_neg hc]; rfl
  · rw [if_neg h, if_neg (fun x => h (e.1 x))]; rfl
theorem divR_eq (p inv n G : Nat) (k : Nat → List V → Nat → R) : ∀ (j P : Nat) (q : List Nat), divR p inv n G j P ((trimL q).map nn) (trimL q).length k = k (divP p inv n G j P q).1 ((trimL (divP p inv n G j P q).2).map nn) (trimL (divP p inv n G j P q).2).length
  | 0, P, q => rfl
  | j + 1, P, q => by
    show fN (P / BB ^ (j + n - 1) % BB % p * inv % p) _ = _
    rw [fN_eq, fN_eq]
    simp only [divP]
    rw [← divR_eq p inv n G k j, trimL_cons]
    generalize P / BB ^ (j + n - 1) % BB % p * inv % p = c
    show Bool.rec (motive := fun _ => R) (divR p inv n G j (P + (p - c) * G * BB ^ j) ((c :: trimL q).map nn) (c :: trimL q).length k) (divR p inv n G j (P + (p - c) * G * BB ^ j) ((trimL q).map nn) (trimL q).length k) (Bool.and (Nat.beq c 0) (Nat.beq (trimL q).length 0)) = _
    by_cases h : trimL q = []
    · rw [if_pos h, h]
      by_cases hc : c = 0
      · subst hc; rw [if_pos rfl]; rfl
      · rw [if_neg hc]
        have : Nat.beq c 0 = false := by
          cases hb : Nat.beq c 0
          · rfl
          · exact absurd (Nat.eq_of_beq_eq_true hb) hc
        rw [this]; rfl
    · rw [if_neg h]
      have : Nat.beq (trimL q).length 0 = false := by
        cases hq : trimL q with
        | nil => exact absurd hq h
        | cons a b => rfl
      rw [this, Bool.and_false]
def divF : Gn 3 := fun vp vf vg S k => vI vp (fun kd p => gu (Nat.beq (kNo kd) 3) (Bool.rec (motive := fun _ => R) (F146 vp vf vg S k)
  (rdK p vf S (fun nf F => rdK p vg S (fun ng G => Bool.rec (motive := fun _ => R) (F146 vp vf vg S k)
    (fN (Nat.mod (Nat.div G (Nat.pow BB (Nat.sub ng 1))) BB) (fun a => Bool.rec (motive := fun _ => R) (F146 vp vf vg S k) (fN (Nat.mod (Nat.pow a (Nat.sub p 2)) p) (fun inv =>
      divR p inv ng G (Nat.succ (Nat.sub nf ng)) F [] 0 (fun P q lq => newK q S (fun nx1 S1 => unpR p P (Nat.sub ng 1) [] 0 (fun cs l => newK cs S1 (fun nx2 S2 => k (.tu [.sl nx1 0 lq lq, .sl nx2 0 l l]) S2)))))) (Nat.blt 0 a)))
    (Bool.and (Nat.blt 0 ng) (Bool.and (Nat.ble ng nf) (Nat.ble nf 100000)))))) (okp p)))
theorem divF_ok : FOK Proofs.Tryz.prog 146 (un 3 divF) := by
  intro vs S k out ok h
  match vs, h with
  | [], h => exact no h
  | [_], h => exact no h
  | [_, _], h => exact no h
  | _ :: _ :: _ :: _ :: _, h => exact no h
  | [vp, vf, vg], h =>
    have slow : F146 vp vf vg S k = some out → _ := fun h => K146 [vp, vf, vg] S k out ok h
    obtain ⟨kd, p, rfl, h⟩ := vI_some (show divF vp vf vg S k = some out from h)
    obtain ⟨h1, h⟩ := gu_some h
    have := kNo_i64 h1
    subst this
    cases hp : okp p with
    | false => rw [hp] at h; exact slow h
    | true =>
      rw [hp] at h
      obtain ⟨hp2, hp64⟩ := PR_lt p (okp_mem hp)
      have h0 : 0 < p := by omega
      obtain ⟨f, f1, f2, f3, h⟩ := rdK_some h
      obtain ⟨g, g1, g2, g3, h⟩ := rdK_some h
      cases hl : Bool.and (Nat.blt 0 g.length) (Bool.and (Nat.ble g.length f.length) (Nat.ble f.length 100000)) with
      | false => rw [hl] at h; exact slow h
      | true =>
        rw [hl] at h
        simp only [Bool.and_eq_true] at hl
        have ng : 0 < g.length := by have := hl.1; rw [blt_eq] at this; exact of_decide_eq_true this
        have hle := Nat.le_of_ble_eq_true hl.2.1
        have lf := Nat.le_of_ble_eq_true hl.2.2
        have hgb : ∀ x ∈ g, x < BB := fun x hx => by have := g2 x hx; show x < 18446744073709551616; omega
        have ha : Nat.mod (Nat.div (pk g) (Nat.pow BB (Nat.sub g.length 1))) BB = g.getD (g.length - 1) 0 := pk_dig g (g.length - 1) hgb
        have hap : g.getD (g.length - 1) 0 < p := g2 _ (List.mem_of_getElem? (getD_of (by omega)))
        rw [ha] at h
        have h := (fN_eq _ _).symm.trans h
        generalize haa : g.getD (g.length - 1) 0 = a at *
        cases hb : Nat.blt 0 a with
        | false => rw [hb] at h; exact slow h
        | true =>
          rw [hb] at h
          have ha0 : 0 < a := by rw [blt_eq] at hb; exact of_decide_eq_true hb
          have h := (fN_eq _ _).symm.trans h
          have h : divR p (a ^ (p - 2) % p) g.length (pk g) (f.length - g.length + 1) (pk f) [] 0 (fun P q lq => newK q S (fun nx1 S1 => unpR p P (g.length - 1) [] 0 (fun cs l => newK cs S1 (fun nx2 S2 => k (.tu [.sl nx1 0 lq lq, .sl nx2 0 l l]) S2)))) = some out := h
          generalize hinv : a ^ (p - 2) % p = inv at *
          have hip : inv < p := by rw [← hinv]; exact Nat.mod_lt _ h0
          have hd := divR_eq p inv g.length (pk g) (fun P q lq => newK q S (fun nx1 S1 => unpR p P (g.length - 1) [] 0 (fun cs l => newK cs S1 (fun nx2 S2 => k (.tu [.sl nx1 0 lq lq, .sl nx2 0 l l]) S2)))) (f.length - g.length + 1) (pk f) []
          have hd := hd.symm.trans h
          clear h
          obtain ⟨o', r1, r2, r3, r4, r5⟩ := div_pk h0 (by omega) g2 ng (inv := inv) (f.length - g.length + 1) f (List.replicate (f.length - g.length + 1) 0) 65536 (by omega) (by simp) (fun i => by
              rw [List.getD_eq_getElem?_getD]
              cases hi : f[i]? with
              | none => exact Nat.zero_le _
              | some x => have := f2 x (List.mem_of_getElem? hi); show x ≤ 65536; omega) (by show 65536 + (f.length - g.length + 1) * 4294967296 < 18446744073709551616; omega)
          have fm : f.map (· % p) = f := by
            conv => rhs; rw [← List.map_id f]
            exact List.map_congr_left fun x hx => Nat.mod_eq_of_lt (f2 x hx)
          rw [fm] at r1 r2
          rw [List.drop_of_length_le (by simp)] at r2 r3
          obtain ⟨S2, ia, iq, s1, s2, s3, s4, s5⟩ := div_run ok.lock (p := p) (inv := inv) (G := F151t) h0 (by omega) (by omega) (Row.lock f1) (f2.sm (by omega)) (Row.lock g1) (g2.sm (by omega)) lf ng hle (fun S k => by rw [haa, ← hinv]; exact F151t_eq hp ha0 hap S k)
          rw [← r2, ← r3] at hd
          obtain ⟨l1, l2⟩ := divS_len p inv g (f.length - g.length + 1) f (List.replicate (f.length - g.length + 1) 0)
          rw [List.length_replicate] at l2
          have hdig : ∀ i, i < (divS p inv g (f.length - g.length + 1) f (List.replicate (f.length - g.length + 1) 0)).1.length → (divS p inv g (f.length - g.length + 1) f (List.replicate (f.length - g.length + 1) 0)).1.getD i 0 = pk o' / BB ^ i % BB % p := fun i _ => by
            rw [r1, getD_map, pk_dig o' i (lt_of_getD r4)]
          generalize hR : (divS p inv g (f.length - g.length + 1) f (List.replicate (f.length - g.length + 1) 0)).1 = R at *
          generalize hQ : (divS p inv g (f.length - g.length + 1) f (List.replicate (f.length - g.length + 1) 0)).2 = Q at *
          simp only [newK_eq] at hd
          have hu := unpR_eq R hdig (fun cs l => k (.tu [.sl S.nx 0 (trimL Q).length (trimL Q).length, .sl (S.new ((trimL Q).map nn)).nx 0 l l]) ((S.new ((trimL Q).map nn)).new cs)) (g.length - 1) [] (by omega)
          rw [if_pos rfl] at hu
          have hd := hu.symm.trans hd
          clear hu
          have lT : (R.take (trimN R (g.length - 1))).length = trimN R (g.length - 1) := by
            rw [List.length_take]; have := trimN_le R (g.length - 1); omega
          have lQ : (trimL Q).length = trimN Q (f.length - g.length + 1) := by
            unfold trimL; rw [List.length_take, l2]; have := trimN_le Q (f.length - g.length + 1); omega
          simp only [lT, lQ] at hd
          refine ⟨_, _, hd, ?_⟩
          have s6 := s5 (fun v S => some (v, S))
          rw [← F146t_def] at s6
          obtain ⟨v', S', e1, e2⟩ := K146t [nn p, vf, vg] S.lock (fun v S => some (v, S)) _ ok.lock (by rw [un3x]; exact s6)
          cases e1
          obtain ⟨na, t3, t4, t5⟩ := s3
          obtain ⟨nq, u3, u4, u5⟩ := s4
          have c1 : S.lock.cnt = S.cnt := rfl
          have := forget (p := pf S) (outs := [(iq, (trimL Q).map nn), (ia, (R.take (trimN R (g.length - 1))).map nn)]) (π2 := fun q => bif Nat.beq q.num iq.num then S.nx else S.nx.succ) (p2 := fun q => Nat.beq q.num iq.num || Nat.beq q.num ia.num) e2 ok
            (by simp only [okL, okV, f3, g3, Bool.and_self]) (fun id hq => pf_lt ok hq) (fun id b hq hb => pf_ok hq hb)
            (fun i j x y hi hj he => by
              have k1 := (List.getElem?_eq_some_iff.1 hi).1
              have k2 := (List.getElem?_eq_some_iff.1 hj).1
              have k1 : i < 2 := k1
              have k2 : j < 2 := k2
              have ne : iq ≠ ia := fun e => by rw [e] at s2; omega
              rcases (show i = 0 ∨ i = 1 by omega) with rfl | rfl <;> rcases (show j = 0 ∨ j = 1 by omega) with rfl | rfl
              · rfl
              · simp at hi hj; subst hi; subst hj; exact absurd he ne
              · simp at hi hj; subst hi; subst hj; exact absurd he.symm ne
              · rfl)
            (fun x hx => by
              rcases List.mem_cons.1 hx with rfl | hx
              · exact ⟨by show S.cnt ≤ iq.num; omega, _, _, u3, take_map _ _, u5, flat_nn _⟩
              · rcases List.mem_singleton.1 hx with rfl
                exact ⟨by show S.cnt ≤ ia.num; omega, _, _, t3, take_map _ _, t5, flat_nn _⟩)
            (fun id hid => by
              cases hb1 : Nat.beq id.num iq.num with
              | true => exact .inr ⟨0, _, rfl, (Pos.num_inj _ _ (Nat.eq_of_beq_eq_true hb1)).symm, by rw [cond_true]; exact ok.nx⟩
              | false =>
                have hid : (Nat.beq id.num iq.num || Nat.beq id.num ia.num) = true := hid
                rw [hb1, Bool.false_or] at hid
                exact .inr ⟨1, _, rfl, (Pos.num_inj _ _ (Nat.eq_of_beq_eq_true hid)).symm, by rw [cond_false, Pos.num_succ, ok.nx]⟩)
            (by
              simp only [okV, okL, Nat.beq_refl, Bool.or_true, Bool.true_or, Bool.and_self])
            (fun x hx => by
              rcases List.mem_cons.1 hx with rfl | hx
              · exact flatL_ok _ (flat_nn _)
              · rcases List.mem_singleton.1 hx with rfl
                exact flatL_ok _ (flat_nn _))
          have hne : Nat.beq ia.num iq.num = false := by
            cases hb : Nat.beq ia.num iq.num
            · rfl
            · have := Nat.eq_of_beq_eq_true hb; omega
          simp only [renV, renL, List.map_cons, List.map_nil, flat_renL _ (flat_nn _), layS, Nat.beq_refl, cond_true, hne, cond_false] at this
          exact this
end
end Go.AM
