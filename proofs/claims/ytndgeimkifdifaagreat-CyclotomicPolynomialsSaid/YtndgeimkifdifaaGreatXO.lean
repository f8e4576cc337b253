/- galoisref06.Trim, at, Add, Scale, Monomial, Mul: the machine's texts on rows of small whole fractions. -/
import Derived.Test.YtndgeimkifdifaaGreatXR50
namespace Go.AM
open Go.Proofs
open Go.AM.Q
set_option linter.unusedVariables false
set_option linter.unusedSimpArgs false
noncomputable section
variable {S0 S : St} {out : V × St}
theorem loopN_succ {n : Nat} (c : CS n) (kx : Nat → Fn n) (kr : Fn n) (N : Nat) : loopN c kx kr (N + 1) = c (loopN c kx kr N) kx kr := by rfl
theorem block_loop0 {n : Nat} (c : CS n) (kn : Fn n) (kx : Nat → Fn n) (kr : Fn n) : ∃ kx' : Nat → Fn n, kx' 0 = kn ∧ cBlock 0 (cLoop c) kn kx kr = loopN c kx' kr 1000000 :=
  ⟨fun id' => Bool.rec (fun kx kn => kx) (fun kx kn => kn) (Nat.beq id' 0) (kx id') kn, rfl, by unfold cBlock cLoop; rfl⟩
theorem block_loop2 {n : Nat} (c : CS n) (kn : Fn n) (kx : Nat → Fn n) (kr : Fn n) : ∃ kx' : Nat → Fn n, kx' 2 = kn ∧ cBlock 2 (cLoop c) kn kx kr = loopN c kx' kr 1000000 :=
  ⟨fun id' => Bool.rec (fun kx kn => kx) (fun kx kn => kn) (Nat.beq id' 2) (kx id') kn, rfl, by unfold cBlock cLoop; rfl⟩
theorem ifT (x y : R) : pIf (.b true) x y = x := by rfl
theorem ifF (x y : R) : pIf (.b false) x y = y := by rfl
theorem sub_n {a b : Nat} (h : b ≤ a) (ha : a < 9223372036854775808) (c : V → R) : pSub (nn a) (nn b) c = c (nn (a - b)) := by
  rw [pSub_i]
  congr 2
  show (a + (18446744073709551616 - b)) % 18446744073709551616 = _
  rw [show a + (18446744073709551616 - b) = (a - b) + 18446744073709551616 by omega, Nat.add_mod_right, Nat.mod_eq_of_lt (by omega)]
abbrev M64 : Nat := 18446744073709551616
theorem sub_neg {a b : Nat} (h : a < b) (hb : b < 9223372036854775808) (c : V → R) : pSub (nn a) (nn b) c = c (nn (M64 - (b - a))) := by
  rw [pSub_i]
  congr 2
  show (a + (18446744073709551616 - b)) % 18446744073709551616 = 18446744073709551616 - (b - a)
  rw [show a + (18446744073709551616 - b) = 18446744073709551616 - (b - a) by omega, Nat.mod_eq_of_lt (by omega)]
theorem sh_neg {d : Nat} (h0 : 0 < d) (hd : d ≤ 9223372036854775808) : sh .i64 (M64 - d) = 9223372036854775808 - d := by
  show (18446744073709551616 - d + 9223372036854775808) % 18446744073709551616 = _
  omega
theorem geq_neg {d : Nat} (h0 : 0 < d) (hd : d ≤ 9223372036854775808) (c : V → R) : pGeq (nn (M64 - d)) (nn 0) c = c (.b false) := by
  rw [pGeq_i, sh_neg h0 hd, sh_lt (by omega), ble_eq, decide_eq_false (by omega)]
theorem pick_e (k : IntKind) (a b : Nat) : pickI k false a b = bif Nat.blt (sh k a) (sh k b) then b else a := by
  unfold pickI
  cases Nat.blt (sh k a) (sh k b) <;> rfl
theorem mx_e (k : IntKind) (a b : Nat) (c : V → R) : pMx [.i k a, .i k b] c = two (.i k a) (.i k b) (fun kd a b c => retI c kd (pickI kd false a b)) c := by rfl
theorem mx_n {a b : Nat} (ha : a < 9223372036854775808) (hb : b < 9223372036854775808) (c : V → R) : pMx [nn a, nn b] c = c (nn (if a < b then b else a)) := by
  rw [mx_e, two_i, retI_eq, pick_e, sh_lt ha, sh_lt hb, blt_eq]
  by_cases h : a < b
  · rw [decide_eq_true (by omega), if_pos h]; rfl
  · rw [decide_eq_false (by omega), if_neg h]; rfl
theorem gb {l : List Int} {m : Nat} (h : ∀ z ∈ l, z.natAbs < m) (h0 : 0 < m) (i : Nat) : (gz l i).natAbs < m := by
  have := gz_bd (l := l) (m := m - 1) (fun z hz => by have := h z hz; omega) i
  omega
def tabl (F : Nat → Int) : Nat → List Int
  | 0 => []
  | n + 1 => tabl F n ++ [F n]
theorem tabl_len (F : Nat → Int) : ∀ n, (tabl F n).length = n
  | 0 => rfl
  | n + 1 => by simp [tabl, tabl_len F n]
theorem tabl_gz (F : Nat → Int) : ∀ (n i : Nat), i < n → gz (tabl F n) i = F i
  | 0, i, h => by omega
  | n + 1, i, h => by
    unfold gz tabl
    rw [List.getD_eq_getElem?_getD]
    by_cases e : i < n
    · rw [List.getElem?_append_left (by rw [tabl_len]; exact e)]
      have := tabl_gz F n i e
      unfold gz at this
      rwa [List.getD_eq_getElem?_getD] at this
    · have : i = n := by omega
      subst this
      rw [List.getElem?_append_right (by rw [tabl_len]; exact Nat.le_refl _), tabl_len, Nat.sub_self]; rfl
theorem tabl_all {F : Nat → Int} {p : Int → Prop} : ∀ {n : Nat}, (∀ i, i < n → p (F i)) → ∀ z ∈ tabl F n, p z
  | 0, h, z, hz => by cases hz
  | n + 1, h, z, hz => by
    rcases List.mem_append.1 hz with h1 | h1
    · exact tabl_all (fun i hi => h i (by omega)) z h1
    · rw [List.mem_singleton.1 h1]; exact h n (by omega)
/- Trim -/
def B60 (f83 : Gn 1) : CS 4 := (cSeq (cSeq (cReg fun kn v0 v1 v2 v3 S => pGtr v1 (.i .i64 0) (fun a0 => pGd a0 true (fun c => c v0 S) S (fun a1 S => pGd a0 true (fun c => c v1 S) S (fun a2 S => pGd a0 true (fun c => pSub a2 (.i .i64 1) (fun v => c v S)) S (fun a3 S => pGd a0 true (fun c => pIdx 3 a1 a3 (fun v => c v S)) S (fun a4 S => pGd a0 true (fun c => pLdn 3 a4 S (fun v => c v S)) S (fun a5 S => pGd a0 true (fun c => f83 a5 S c) S (fun a6 S => pGd a0 true (fun c => pEql a6 (.i .i64 0) (fun v => c v S)) S (fun a7 S => pPick a0 a7 (.b false) (fun a8 => kn v0 v1 a8 v3 S)))))))))) (cCond (fun x y v0 v1 v2 v3 S => pIf v2 (x v0 v1 v2 v3 S) (y v0 v1 v2 v3 S)) cSkip (cExit 0))) (cBlock 1 (cReg fun kn v0 v1 v2 v3 S => pSub v1 (.i .i64 1) (fun a0 => kn v0 a0 v2 v3 S))))
def HT60 (Lp : CS 4) : CS 4 := (cSeq (cReg fun kn v0 v1 v2 v3 S => kn v0 v1 v2 .sn S) (cSeq (cReg fun kn v0 v1 v2 v3 S => pLen v0 (fun a0 => kn v0 a0 v2 v3 S)) (cSeq Lp (cSeq (cReg fun kn v0 v1 v2 v3 S => pBsl [] 0 [] S (fun a0 S => pSlc 3 v0 none (some v1) none (fun a1 => pApp 3 a0 a1 S (fun a2 S => kn v0 v1 v2 a2 S)))) cRet))))
theorem C60_eq (F : Gn 1) : C60 F = HT60 (cBlock 0 (cLoop (B60 F))) := by rfl
section
variable (f83 : Gn 1) (K : Fn 4) (kx : Nat → Fn 4) (kr : Fn 4) (v0 v1 v2 v3 n' q x s a b : V) (S S' : St)
theorem t_end (h1 : ∀ c, pGtr v1 (nn 0) c = c (.b false)) : B60 f83 K kx kr v0 v1 v2 v3 S = kx 0 v0 v1 (.b false) v3 S := by
  simp only [B60, cSeq, cReg, cCond, cBlock, cSkip, cExit, cRet, h1, pGd_ft, pPick_f, ifF]
theorem t_stop (h1 : ∀ c, pGtr v1 (nn 0) c = c (.b true)) (h2 : ∀ c, pSub v1 (nn 1) c = c n') (h3 : ∀ c, pIdx 3 v0 n' c = c q) (h4 : ∀ c, pLdn 3 q S c = c x) (h5 : ∀ c, f83 x S c = c s S) (h6 : ∀ c, pEql s (nn 0) c = c (.b false)) : B60 f83 K kx kr v0 v1 v2 v3 S = kx 0 v0 v1 (.b false) v3 S := by
  simp only [B60, cSeq, cReg, cCond, cBlock, cSkip, cExit, cRet, h1, h2, h3, h4, h5, h6, pGd_tt, pPick_t, ifF]
theorem t_go (h1 : ∀ c, pGtr v1 (nn 0) c = c (.b true)) (h2 : ∀ c, pSub v1 (nn 1) c = c n') (h3 : ∀ c, pIdx 3 v0 n' c = c q) (h4 : ∀ c, pLdn 3 q S c = c x) (h5 : ∀ c, f83 x S c = c s S) (h6 : ∀ c, pEql s (nn 0) c = c (.b true)) : B60 f83 K kx kr v0 v1 v2 v3 S = K v0 n' (.b true) v3 S := by
  simp only [B60, cSeq, cReg, cCond, cBlock, cSkip, cExit, cRet, h1, h2, h3, h4, h5, h6, pGd_tt, pPick_t, ifT]
theorem t_head (Lp : CS 4) (r r2 : V) (h1 : ∀ c, pLen v0 c = c a) (hL : ∀ (kn : Fn 4) (kx : Nat → Fn 4) (kr : Fn 4), Lp kn kx kr v0 a v2 .sn S = kn v0 b (.b false) .sn S) (h2 : ∀ c, pSlc 3 v0 none (some b) none c = c r) (h3 : ∀ c : Cont, pApp 3 (.sl S.nx 0 0 0) r (S.new []) c = c r2 S') :
    HT60 Lp K kx kr v0 v1 v2 v3 S = kr v0 b (.b false) r2 S' := by
  simp only [HT60, cSeq, cReg, cCond, cBlock, cSkip, cExit, cRet, h1, h2, hL, bsl0_eq, h3]
end
theorem sign_ne (z : Int) : (∃ m, signV (decide (z < 0)) z.natAbs = nn m ∧ (m = 0 ↔ z = 0)) := by
  cases h : z.natAbs with
  | zero => exact ⟨0, rfl, by omega⟩
  | succ n =>
    by_cases hz : z < 0
    · rw [decide_eq_true hz]; exact ⟨18446744073709551615, rfl, by omega⟩
    · rw [decide_eq_false hz]; exact ⟨1, rfl, by omega⟩
theorem trim_loop {v : V} {l : List Int} (h : QRow S v l) (hl : l.length ≤ 500000) (hb : ∀ z ∈ l, z.natAbs < 64) (kx : Nat → Fn 4) (kr : Fn 4) (v3 : V) : ∀ (N n : Nat) (v2 : V), n ≤ l.length → n < N → loopN (B60 F83q) kx kr N v (nn n) v2 v3 S = kx 0 v (nn (tn l n)) (.b false) v3 S
  | 0, n, v2, h1, h2 => by omega
  | N + 1, 0, v2, h1, h2 => by
    rw [loopN_succ, t_end _ _ _ _ _ _ _ _ _ (fun c => by rw [gtr_n (by omega) (by omega)]; rfl)]; rfl
  | N + 1, n + 1, v2, h1, h2 => by
    obtain ⟨q, h3, h4⟩ := h.get (i := n) (by omega)
    have g1 : ∀ c, pGtr (nn (n + 1)) (nn 0) c = c (.b true) := fun c => by rw [gtr_n (by omega) (by omega), decide_eq_true (by omega)]
    have g2 : ∀ c, pSub (nn (n + 1)) (nn 1) c = c (nn n) := fun c => sub_n (by omega) (by omega) c
    obtain ⟨m, e1, e2⟩ := sign_ne (gz l n)
    have g5 : ∀ c, F83q (zv (gz l n)) S c = c (nn m) S := fun c => by rw [sign_q (gb hb (by omega) n), e1]
    rw [loopN_succ]
    by_cases h0 : gz l n = 0
    · rw [t_go F83q _ _ _ _ _ _ _ (nn n) q (zv (gz l n)) (nn m) S g1 g2 h3 h4 g5 (fun c => by rw [eql_n, decide_eq_true (e2.2 h0)]), trim_loop h hl hb kx kr v3 N n _ (by omega) (by omega)]
      simp only [tn]
      rw [if_pos h0]
    · rw [t_stop F83q _ _ _ _ _ _ _ (nn n) q (zv (gz l n)) (nn m) S g1 g2 h3 h4 g5 (fun c => by rw [eql_n, decide_eq_false (fun e => h0 (e2.1 e))])]
      simp only [tn]
      rw [if_neg h0]
def F60x : Gn 1 := G60 (C60 F83q)
theorem K60x : FOK Tryz.prog 60 (un 1 F60x) := fokP (.cons K83q .nil) .nil hm Tryz.func60 (by kernel_rfl) (D60 F83q) (H60 _)
theorem trim_run (r : Run S0 S) {v : V} {l : List Int} (h : QRow S v l) (hl : l.length ≤ 500000) (hb : ∀ z ∈ l, z.natAbs < 64) : ∃ S' v', Run S0 S' ∧ Res S0 S' v' (tz l) ∧ ∀ k, F60x v S k = k v' S' := by
  obtain ⟨a, s1, s2⟩ := slc_eq h (tn_le l l.length)
  obtain ⟨S', v', r1, r2, r3⟩ := copy_eq r s2
  refine ⟨S', v', r1, r2, fun k => ?_⟩
  unfold F60x G60
  rw [C60_eq, t_head (a := nn l.length) (b := nn (tn l l.length)) (r := a) (r2 := v') (S' := S') (h1 := fun c => (h.len c).1) (hL := fun kn kx kr => ?_) (h2 := s1) (h3 := r3)]
  obtain ⟨kx', e1, e2⟩ := block_loop0 (B60 F83q) kn kx kr
  rw [e2, trim_loop h hl hb kx' kr .sn 1000000 l.length _ (Nat.le_refl _) (by omega), e1]
/-- the text of Trim -/
def trimT : Gn 1 := fun v S k => rdQ v S (fun n P N m => Bool.rec (motive := fun _ => R) (F60x v S k) (outQ P N n S k) (Bool.and (Nat.blt m 64) (Nat.ble n 100000)))
theorem lt_of_blt {a b : Nat} (h : Nat.blt a b = true) : a < b := by rw [blt_eq] at h; exact of_decide_eq_true h
theorem K60t : FOK Tryz.prog 60 (un 1 trimT) := by
  intro vs S k out ok h
  match vs, h with
  | [], h => exact Q.no h
  | _ :: _ :: _, h => exact Q.no h
  | [v], h =>
    have slow : F60x v S k = some out → _ := fun h => K60x [v] S k out ok h
    obtain ⟨l, m, h1, h2, h3, h⟩ := rdQ_some (show trimT v S k = some out from h)
    cases hc : Bool.and (Nat.blt m 64) (Nat.ble l.length 100000) with
    | false => rw [hc] at h; exact slow h
    | true =>
      rw [hc] at h
      simp only [Bool.and_eq_true] at hc
      have hm := lt_of_blt hc.1
      have hl := Nat.le_of_ble_eq_true hc.2
      obtain ⟨_, h⟩ := outQ_some (D := l) rfl (fun i _ => id_dig h3 hm i) (show outQ (pz l) (nz l) l.length S k = some out from h)
      obtain ⟨S', v', r1, r2, r3⟩ := trim_run (Run.start ok) h1.lock (by omega) (fun z hz => by have := h3 z hz; omega)
      exact finish K60x ok r1 r2 r3 (by simp only [okL, h2, Bool.and_self]) h
/- at -/
section
variable (f38 : Gn 1) (v0 v1 a p q x : V) (S S1 S2 : St) (k : Cont)
theorem at_in (hA : ∀ c : Cont, pAlloc [(.b false), (.s []), (.s [])] S c = c p S1) (h1 : ∀ c, pLen v0 c = c a) (h2 : ∀ c, pLss v1 a c = c (.b true)) (h3 : ∀ c, pIdx 3 v0 v1 c = c q) (h4 : ∀ c, pLdn 3 q S1 c = c x) (h5 : ∀ c, pSt 3 p x S1 c = c S2) (h6 : ∀ c, pLdn 3 p S2 c = c x) :
    G89 (C89 f38) v0 v1 S k = k x S2 := by
  simp only [G89, C89, cSeq, cReg, cCond, cBlock, cSkip, cExit, cRet, hA, h1, h2, h3, h4, h5, h6, ifT]
theorem at_out (hA : ∀ c : Cont, pAlloc [(.b false), (.s []), (.s [])] S c = c p S1) (h1 : ∀ c, pLen v0 c = c a) (h2 : ∀ c, pLss v1 a c = c (.b false)) (h4 : ∀ c, f38 (nn 0) S1 c = c x S1) (h5 : ∀ c, pSt 3 p x S1 c = c S2) (h6 : ∀ c, pLdn 3 p S2 c = c x) :
    G89 (C89 f38) v0 v1 S k = k x S2 := by
  simp only [G89, C89, cSeq, cReg, cCond, cBlock, cSkip, cExit, cRet, hA, h1, h2, h4, h5, h6, ifF]
end
def F89x : Gn 2 := G89 (C89 F38q)
theorem K89x : FOK Tryz.prog 89 (un 2 F89x) := fokP (.cons K38q .nil) .nil hm Tryz.func89 (by kernel_rfl) (D89 F38q) (H89 _)
theorem gz_out {l : List Int} {i : Nat} (h : ¬ i < l.length) : gz l i = 0 := gz_far (by omega)
theorem at_run (ok0 : SOK S0) (r : Run S0 S) {v : V} {l : List Int} (h : QRow S0 v l) (hl : l.length ≤ 500000) {i : Nat} (hi : i < 9223372036854775808) :
    ∃ S', Run S0 S' ∧ (∀ q ds, Own S0 S q ds → Own S0 S' q ds) ∧ ∀ k, F89x v (nn i) S k = k (zv (gz l i)) S' := by
  have r1 := r.new [(.b false), (.s []), (.s [])]
  have h1 := h.run ok0 r1
  obtain ⟨S2, s1, s2, s3, s4⟩ := (Own.new r [(.b false), (.s []), (.s [])]).st r1 rfl (gz l i)
  refine ⟨S2, s1, fun q ds hq => ?_, fun k => ?_⟩
  · obtain ⟨k1, k2⟩ := hq.keep r [(.b false), (.s []), (.s [])]
    exact s3 q ds k2 k1
  · by_cases hlt : i < l.length
    · obtain ⟨q, g1, g2⟩ := h1.get hlt
      exact at_in F38q v (nn i) (nn l.length) (.p S.nx 0) q (zv (gz l i)) S _ S2 k (fun c => pAlloc_eq _ _ _) (fun c => (h1.len c).1) (fun c => by rw [lss_n hi (by omega), decide_eq_true hlt]) g1 g2 s4 (fun c => s2.ld c)
    · have e := gz_out hlt
      rw [e] at s2 s4 ⊢
      exact at_out F38q v (nn i) (nn l.length) (.p S.nx 0) (zv 0) S _ S2 k (fun c => pAlloc_eq _ _ _) (fun c => (h1.len c).1) (fun c => by rw [lss_n hi (by omega), decide_eq_false hlt]) (fun c => int_q (by omega) _ c) s4 (fun c => s2.ld c)
/- Add -/
def B44 (f84 : Gn 2) (f89 : Gn 2) : CS 6 := (cSeq (cSeq (cReg fun kn v0 v1 v2 v3 v4 v5 S => pLen v0 (fun a0 => pLen v1 (fun a1 => pMx [a0, a1] (fun a2 => pLss v2 a2 (fun a3 => kn v0 v1 v2 a3 v4 v5 S))))) (cCond (fun x y v0 v1 v2 v3 v4 v5 S => pIf v3 (x v0 v1 v2 v3 v4 v5 S) (y v0 v1 v2 v3 v4 v5 S)) cSkip (cExit 0))) (cSeq (cBlock 1 (cReg fun kn v0 v1 v2 v3 v4 v5 S => f89 v0 v2 S (fun a0 S => f89 v1 v2 S (fun a1 S => f84 a0 a1 S (fun a2 S => pBsl [(.b false),(.s []),(.s [])] 1 [(0, 3, a2)] S (fun a3 S => pApp 3 v4 a3 S (fun a4 S => kn v0 v1 v2 v3 a4 v5 S))))))) (cReg fun kn v0 v1 v2 v3 v4 v5 S => pAdd v2 (.i .i64 1) (fun a0 => kn v0 v1 a0 v3 v4 v5 S))))
def HT44 (f60 : Gn 1) (Lp : CS 6) : CS 6 := (cSeq (cReg fun kn v0 v1 v2 v3 v4 v5 S => kn v0 v1 v2 v3 v4 .sn S) (cSeq (cReg fun kn v0 v1 v2 v3 v4 v5 S => kn v0 v1 v2 v3 .sn v5 S) (cSeq (cSeq (cReg fun kn v0 v1 v2 v3 v4 v5 S => kn v0 v1 (.i .i64 0) v3 v4 v5 S) Lp) (cSeq (cReg fun kn v0 v1 v2 v3 v4 v5 S => f60 v4 S (fun a0 S => kn v0 v1 v2 v3 v4 a0 S)) cRet))))
theorem C44_eq (f60 : Gn 1) (f84 : Gn 2) (f89 : Gn 2) : C44 f60 f84 f89 = HT44 f60 (cBlock 0 (cLoop (B44 f84 f89))) := by rfl
section
variable (f60 : Gn 1) (f84 f89 : Gn 2) (K : Fn 6) (kx : Nat → Fn 6) (kr : Fn 6) (v0 v1 v2 v3 v4 v5 a b m x y z o n' r : V) (S S1 S2 S3 : St)
theorem s_end (h1 : ∀ c, pLen v0 c = c a) (h2 : ∀ c, pLen v1 c = c b) (h3 : ∀ c, pMx [a, b] c = c m) (h4 : ∀ c, pLss v2 m c = c (.b false)) : B44 f84 f89 K kx kr v0 v1 v2 v3 v4 v5 S = kx 0 v0 v1 v2 (.b false) v4 v5 S := by
  simp only [B44, cSeq, cReg, cCond, cBlock, cSkip, cExit, cRet, h1, h2, h3, h4, ifF]
theorem s_go (h1 : ∀ c, pLen v0 c = c a) (h2 : ∀ c, pLen v1 c = c b) (h3 : ∀ c, pMx [a, b] c = c m) (h4 : ∀ c, pLss v2 m c = c (.b true)) (h5 : ∀ c, f89 v0 v2 S c = c x S1) (h6 : ∀ c, f89 v1 v2 S1 c = c y S2) (h7 : ∀ c, f84 x y S2 c = c z S2)
    (h8 : ∀ c : Cont, pBsl [(.b false), (.s []), (.s [])] 1 [(0, 3, z)] S2 (fun a S => pApp 3 v4 a S c) = c o S3) (h9 : ∀ c, pAdd v2 (nn 1) c = c n') : B44 f84 f89 K kx kr v0 v1 v2 v3 v4 v5 S = K v0 v1 n' (.b true) o v5 S3 := by
  simp only [B44, cSeq, cReg, cCond, cBlock, cSkip, cExit, cRet, h1, h2, h3, h4, h5, h6, h7, h8, h9, ifT]
theorem s_head (Lp : CS 6) (hL : ∀ (kn : Fn 6) (kx : Nat → Fn 6) (kr : Fn 6), Lp kn kx kr v0 v1 (nn 0) v3 .sn .sn S = kn v0 v1 a b o .sn S1) (h2 : ∀ c, f60 o S1 c = c r S2) :
    HT44 f60 Lp K kx kr v0 v1 v2 v3 v4 v5 S = kr v0 v1 a b o r S2 := by
  simp only [HT44, cSeq, cReg, cCond, cBlock, cSkip, cExit, cRet, hL, h2]
end
theorem sum_loop (ok0 : SOK S0) {va vb : V} {f g : List Int} (hf : QRow S0 va f) (hg : QRow S0 vb g) (lf : f.length ≤ 200000) (lg : g.length ≤ 200000) (bf : ∀ z ∈ f, z.natAbs < 64) (bg : ∀ z ∈ g, z.natAbs < 8) {n : Nat} (hn : n = if f.length < g.length then g.length else f.length) :
    ∀ (N i : Nat) (S : St) (v3 v4 : V), i ≤ n → n < N + i → Run S0 S → Grow S0 S v4 (tabl (fun k => gz f k + gz g k) i) →
    ∃ S' v4', Run S0 S' ∧ Grow S0 S' v4' (tabl (fun k => gz f k + gz g k) n) ∧ ∀ (kx : Nat → Fn 6) (kr : Fn 6) (v5 : V), loopN (B44 F84q F89x) kx kr N va vb (nn i) v3 v4 v5 S = kx 0 va vb (nn n) (.b false) v4' v5 S'
  | 0, i, S, v3, v4, h1, h2, r, hv => by omega
  | N + 1, i, S, v3, v4, h1, h2, r, hv => by
    have hn2 : n ≤ 200000 := by rw [hn]; split <;> omega
    have e1 : ∀ c, pLen va c = c (nn f.length) := fun c => (hf.len c).1
    have e2 : ∀ c, pLen vb c = c (nn g.length) := fun c => (hg.len c).1
    have e3 : ∀ c, pMx [nn f.length, nn g.length] c = c (nn n) := fun c => by rw [mx_n (by omega) (by omega), ← hn]
    by_cases hi : i < n
    · obtain ⟨S1, r1, o1, a1⟩ := at_run ok0 r hf (by omega) (i := i) (by omega)
      obtain ⟨S2, r2, o2, a2⟩ := at_run ok0 r1 hg (by omega) (i := i) (by omega)
      have hv2 : Grow S0 S2 v4 (tabl (fun k => gz f k + gz g k) i) := by
        rcases hv with h | ⟨id, h, ho⟩
        · exact .inl h
        · exact .inr ⟨id, h, o2 _ _ (o1 _ _ ho)⟩
      obtain ⟨S3, v', r3, g3, _, a3⟩ := hv2.app r2 (by rw [tabl_len]; omega) (gz f i + gz g i)
      obtain ⟨S', v4', r4, g4, a4⟩ := sum_loop ok0 hf hg lf lg bf bg hn N (i + 1) S3 (.b true) v' (by omega) (by omega) r3 g3
      refine ⟨S', v4', r4, g4, fun kx kr v5 => ?_⟩
      rw [loopN_succ, s_go F84q F89x _ _ _ va vb (nn i) v3 v4 v5 (nn f.length) (nn g.length) (nn n) (zv (gz f i)) (zv (gz g i)) (zv (gz f i + gz g i)) v' (nn (i + 1)) S S1 S2 S3 e1 e2 e3 (fun c => by rw [lss_n (by omega) (by omega), decide_eq_true hi]) a1 a2 (fun c => add_q (gb bf (by omega) i) (gb bg (by omega) i) _ _) a3 (fun c => add_n (by omega) c)]
      exact a4 kx kr v5
    · have : i = n := by omega
      subst this
      refine ⟨S, v4, r, hv, fun kx kr v5 => ?_⟩
      rw [loopN_succ, s_end F84q F89x _ _ _ va vb (nn i) v3 v4 v5 (nn f.length) (nn g.length) (nn i) S e1 e2 e3 (fun c => by rw [lss_n (by omega) (by omega), decide_eq_false (by omega)])]
def F44x : Gn 2 := G44 (C44 F60x F84q F89x)
theorem K44x : FOK Tryz.prog 44 (un 2 F44x) := fokP (.cons K60x (.cons K84q (.cons K89x .nil))) .nil hm Tryz.func44 (by kernel_rfl) (D44 F60x F84q F89x) (H44 _)
theorem sum_run (ok0 : SOK S0) (r : Run S0 S) {va vb : V} {f g : List Int} (hf : QRow S0 va f) (hg : QRow S0 vb g) (lf : f.length ≤ 200000) (lg : g.length ≤ 200000) (bf : ∀ z ∈ f, z.natAbs < 64) (bg : ∀ z ∈ g, z.natAbs < 8) {n : Nat} (hn : n = if f.length < g.length then g.length else f.length) (hb : ∀ i, i < n → (gz f i + gz g i).natAbs < 64) :
    ∃ S' v', Run S0 S' ∧ Res S0 S' v' (tz (tabl (fun k => gz f k + gz g k) n)) ∧ ∀ k, F44x va vb S k = k v' S' := by
  have hn2 : n ≤ 200000 := by rw [hn]; split <;> omega
  obtain ⟨S1, v1, r1, g1, a1⟩ := sum_loop ok0 hf hg lf lg bf bg hn 1000000 0 S .other .sn (by omega) (by omega) r (.inl ⟨rfl, rfl⟩)
  obtain ⟨S2, v2, r2, g2, a2⟩ := trim_run r1 (g1.row (by rw [tabl_len]; omega)) (by rw [tabl_len]; omega) (tabl_all hb)
  refine ⟨S2, v2, r2, g2, fun k => ?_⟩
  unfold F44x G44
  rw [C44_eq, s_head (a := nn n) (b := .b false) (o := v1) (r := v2) (S1 := S1) (S2 := S2) (hL := fun kn kx kr => ?_) (h2 := a2)]
  obtain ⟨kx', e1, e2⟩ := block_loop0 (B44 F84q F89x) kn kx kr
  rw [e2, a1 kx' kr .sn, e1]
/-- the text of Add -/
def addT : Gn 2 := fun a b S k => rdQ a S (fun n P N m => rdQ b S (fun n' P' N' m' => Bool.rec (motive := fun _ => R) (F44x a b S k) (fN (Nat.add P P') (fun A => fN (Nat.add N N') (fun B => fN (Bool.rec n n' (Nat.blt n n')) (fun w => outQ A B w S k)))) (Bool.and (Bool.and (Nat.blt m 64) (Nat.blt m' 8)) (Bool.and (Nat.ble n 100000) (Nat.ble n' 100000)))))
theorem K44t : FOK Tryz.prog 44 (un 2 addT) := by
  intro vs S k out ok h
  match vs, h with
  | [], h => exact Q.no h
  | [_], h => exact Q.no h
  | _ :: _ :: _ :: _, h => exact Q.no h
  | [a, b], h =>
    have slow : F44x a b S k = some out → _ := fun h => K44x [a, b] S k out ok h
    obtain ⟨f, m, f1, f2, f3, h⟩ := rdQ_some (show addT a b S k = some out from h)
    obtain ⟨g, m', g1, g2, g3, h⟩ := rdQ_some h
    cases hc : Bool.and (Bool.and (Nat.blt m 64) (Nat.blt m' 8)) (Bool.and (Nat.ble f.length 100000) (Nat.ble g.length 100000)) with
    | false => rw [hc] at h; exact slow h
    | true =>
      rw [hc] at h
      simp only [Bool.and_eq_true] at hc
      have hm := lt_of_blt hc.1.1
      have hm' := lt_of_blt hc.1.2
      have lf := Nat.le_of_ble_eq_true hc.2.1
      have lg := Nat.le_of_ble_eq_true hc.2.2
      have h : fN (pz f + pz g) (fun A => fN (nz f + nz g) (fun B => fN (@Bool.rec (fun _ => Nat) f.length g.length (Nat.blt f.length g.length)) (fun w => outQ A B w S k))) = some out := h
      rw [fN_eq, fN_eq, fN_eq] at h
      have hw : (@Bool.rec (fun _ => Nat) f.length g.length (Nat.blt f.length g.length)) = if f.length < g.length then g.length else f.length := by
        rw [blt_eq]
        by_cases e : f.length < g.length
        · rw [decide_eq_true e, if_pos e]
        · rw [decide_eq_false e, if_neg e]
      rw [hw] at h
      obtain ⟨hd, h⟩ := outQ_some (D := tabl (fun k => gz f k + gz g k) (if f.length < g.length then g.length else f.length)) (tabl_len _ _).symm (fun i hi => by
        rw [tabl_len] at hi
        rw [tabl_gz _ _ _ hi]
        exact add_dig f3 g3 hm (by omega) i) h
      obtain ⟨S', v', r1, r2, r3⟩ := sum_run ok.lock (Run.start ok) f1.lock g1.lock (by omega) (by omega) (fun z hz => by have := f3 z hz; omega) (fun z hz => by have := g3 z hz; omega) rfl (fun i hi => by
        have h1 := hd i (by rw [tabl_len]; exact hi)
        have h2 := add_dig f3 g3 hm (show m' < 64 by omega) i
        omega)
      exact finish K44x ok r1 r2 r3 (by simp only [okL, f2, g2, Bool.and_self]) h
end
end Go.AM

/- galoisref06.Scale, Monomial, Mul: the machine's texts on rows of small whole fractions. -/
namespace Go.AM
open Go.Proofs
open Go.AM.Q
set_option linter.unusedVariables false
set_option linter.unusedSimpArgs false
noncomputable section
variable {S0 S : St} {out : V × St}
/- Scale -/
def B87 (f85 : Gn 2) : CS 10 := (cSeq (cReg fun kn v0 v1 v2 v3 v4 v5 v6 v7 v8 v9 S => pLss v2 v3 (fun a0 => kn v0 v1 v2 v3 a0 v5 v6 v7 v8 v9 S)) (cSeq (cCond (fun x y v0 v1 v2 v3 v4 v5 v6 v7 v8 v9 S => pIf v4 (x v0 v1 v2 v3 v4 v5 v6 v7 v8 v9 S) (y v0 v1 v2 v3 v4 v5 v6 v7 v8 v9 S)) cSkip (cExit 0)) (cSeq (cBlock 1 (cSeq (cReg fun kn v0 v1 v2 v3 v4 v5 v6 v7 v8 v9 S => pIdx 3 v5 v2 (fun a0 => pLdn 3 a0 S (fun a1 => pAlloc [(.b false),(.s []),(.s [])] S (fun a2 S => pSt 3 a2 a1 S (fun S => kn v0 v1 v2 v3 v4 v5 v6 a2 v8 v9 S))))) (cReg fun kn v0 v1 v2 v3 v4 v5 v6 v7 v8 v9 S => pLdn 3 v7 S (fun a0 => pLdn 3 v8 S (fun a1 => f85 a0 a1 S (fun a2 S => pBsl [(.b false),(.s []),(.s [])] 1 [(0, 3, a2)] S (fun a3 S => pApp 3 v6 a3 S (fun a4 S => kn v0 v1 v2 v3 v4 v5 a4 v7 v8 v9 S)))))))) (cReg fun kn v0 v1 v2 v3 v4 v5 v6 v7 v8 v9 S => pAdd v2 (.i .i64 1) (fun a0 => kn v0 v1 a0 v3 v4 v5 v6 v7 v8 v9 S)))))
def HT87 (f60 : Gn 1) (Lp : CS 10) : CS 10 := (cSeq (cReg fun kn v0 v1 v2 v3 v4 v5 v6 v7 v8 v9 S => pBox v1 S (fun a0 S => kn v0 v1 v2 v3 v4 v5 v6 v7 a0 .sn S)) (cSeq (cReg fun kn v0 v1 v2 v3 v4 v5 v6 v7 v8 v9 S => kn v0 v1 v2 v3 v4 v5 .sn v7 v8 v9 S) (cSeq (cSeq (cReg fun kn v0 v1 v2 v3 v4 v5 v6 v7 v8 v9 S => pLen v0 (fun a0 => kn v0 v1 (.i .i64 0) a0 v4 v0 v6 v7 v8 v9 S)) Lp) (cSeq (cReg fun kn v0 v1 v2 v3 v4 v5 v6 v7 v8 v9 S => f60 v6 S (fun a0 S => kn v0 v1 v2 v3 v4 v5 v6 v7 v8 a0 S)) cRet))))
theorem C87_eq (f60 : Gn 1) (f85 : Gn 2) : C87 f60 f85 = HT87 f60 (cBlock 0 (cLoop (B87 f85))) := by rfl
section
variable (f60 : Gn 1) (f85 : Gn 2) (K : Fn 10) (kx : Nat → Fn 10) (kr : Fn 10) (v0 v1 v2 v3 v4 v5 v6 v7 v8 v9 a b q x p y z o n' r : V) (S S1 S2 S3 : St)
theorem c_end (h1 : ∀ c, pLss v2 v3 c = c (.b false)) : B87 f85 K kx kr v0 v1 v2 v3 v4 v5 v6 v7 v8 v9 S = kx 0 v0 v1 v2 v3 (.b false) v5 v6 v7 v8 v9 S := by
  simp only [B87, cSeq, cReg, cCond, cBlock, cSkip, cExit, cRet, h1, ifF]
theorem c_go (h1 : ∀ c, pLss v2 v3 c = c (.b true)) (h2 : ∀ c, pIdx 3 v5 v2 c = c q) (h3 : ∀ c, pLdn 3 q S c = c x) (h4 : ∀ c : Cont, pAlloc [(.b false), (.s []), (.s [])] S c = c p S1) (h5 : ∀ c, pSt 3 p x S1 c = c S2)
    (h6 : ∀ c, pLdn 3 p S2 c = c x) (h7 : ∀ c, pLdn 3 v8 S2 c = c y) (h8 : ∀ c, f85 x y S2 c = c z S2) (h9 : ∀ c : Cont, pBsl [(.b false), (.s []), (.s [])] 1 [(0, 3, z)] S2 (fun a S => pApp 3 v6 a S c) = c o S3) (h10 : ∀ c, pAdd v2 (nn 1) c = c n') :
    B87 f85 K kx kr v0 v1 v2 v3 v4 v5 v6 v7 v8 v9 S = K v0 v1 n' v3 (.b true) v5 o p v8 v9 S3 := by
  simp only [B87, cSeq, cReg, cCond, cBlock, cSkip, cExit, cRet, h1, h2, h3, h4, h5, h6, h7, h8, h9, h10, ifT]
theorem c_head (Lp : CS 10) (h1 : ∀ c : Cont, pBox v1 S c = c p S1) (h2 : ∀ c, pLen v0 c = c a)
    (hL : ∀ (kn : Fn 10) (kx : Nat → Fn 10) (kr : Fn 10), Lp kn kx kr v0 v1 (nn 0) a v4 v0 .sn v7 p .sn S1 = kn v0 v1 b a x v0 o y p .sn S2) (h3 : ∀ c, f60 o S2 c = c r S3) :
    HT87 f60 Lp K kx kr v0 v1 v2 v3 v4 v5 v6 v7 v8 v9 S = kr v0 v1 b a x v0 o y p r S3 := by
  simp only [HT87, cSeq, cReg, cCond, cBlock, cSkip, cExit, cRet, h1, h2, hL, h3]
end
theorem box_eq (z : Int) (S : St) (c : Cont) : pBox (zv z) S c = c (.p S.nx 0) (S.new (Q.zc z)) := by
  show newK (Q.zc z) S (fun nx S' => c (.p nx 0) S') = _
  rw [newK_eq]
theorem Q.Grow.new {v : V} {l : List Int} (h : Grow S0 S v l) (r : Run S0 S) (cs : List V) : Grow S0 (S.new cs) v l ∧ Apart v S.nx := by
  rcases h with ⟨rfl, rfl⟩ | ⟨id, rfl, ho⟩
  · exact ⟨.inl ⟨rfl, rfl⟩, fun a b c d e => by cases e⟩
  · obtain ⟨h1, h2⟩ := ho.keep r cs
    exact ⟨.inr ⟨id, rfl, h1⟩, fun a b c d e => by cases e; exact h2 rfl⟩
theorem Q.Grow.ne {S' : St} {v : V} {l : List Int} {id : Pos} (h : Grow S0 S v l) (ha : Apart v id) (hk : ∀ q ds, q ≠ id → Own S0 S q ds → Own S0 S' q ds) : Grow S0 S' v l := by
  rcases h with ⟨rfl, rfl⟩ | ⟨q, rfl, ho⟩
  · exact .inl ⟨rfl, rfl⟩
  · exact .inr ⟨q, rfl, hk q _ (fun e => ha _ _ _ _ (by rw [e])) ho⟩
theorem Q.Apart.sn (q : Pos) : Apart .sn q := fun a b c d e => by cases e
theorem scale_loop (ok0 : SOK S0) {v0 v1 : V} {f : List Int} {c : Int} {id : Pos} (hf : QRow S0 v0 f) (lf : f.length ≤ 200000) (bf : ∀ z ∈ f, z.natAbs < 8) (bc : c.natAbs < 8) :
    ∀ (N i : Nat) (S : St) (v4 v6 v7 : V), i ≤ f.length → f.length < N + i → Run S0 S → Grow S0 S v6 (tabl (fun k => gz f k * c) i) → Own S0 S id (Q.zc c) → Apart v6 id →
    ∃ S' v6' v7', Run S0 S' ∧ Grow S0 S' v6' (tabl (fun k => gz f k * c) f.length) ∧ ∀ (kx : Nat → Fn 10) (kr : Fn 10) (v9 : V), loopN (B87 F85q) kx kr N v0 v1 (nn i) (nn f.length) v4 v0 v6 v7 (.p id 0) v9 S = kx 0 v0 v1 (nn f.length) (nn f.length) (.b false) v0 v6' v7' (.p id 0) v9 S'
  | 0, i, S, v4, v6, v7, h1, h2, r, hv, ho, ha => by omega
  | N + 1, i, S, v4, v6, v7, h1, h2, r, hv, ho, ha => by
    by_cases hi : i < f.length
    · obtain ⟨q, g1, g2⟩ := (hf.run ok0 r).get hi
      have r1 := r.new [(.b false), (.s []), (.s [])]
      obtain ⟨hv1, ha1⟩ := hv.new r [(.b false), (.s []), (.s [])]
      obtain ⟨ho1, hn1⟩ := ho.keep r [(.b false), (.s []), (.s [])]
      obtain ⟨S2, r2, o2, k2, s2⟩ := (Own.new r [(.b false), (.s []), (.s [])]).st r1 rfl (gz f i)
      have hv2 := hv1.ne ha1 k2
      have ho2 := k2 _ _ hn1 ho1
      obtain ⟨S3, v', r3, g3, k3, a3⟩ := hv2.app r2 (by rw [tabl_len]; omega) (gz f i * c)
      obtain ⟨ho3, ha3⟩ := k3 _ _ ho2 ha
      obtain ⟨S', v6', v7', r4, g4, a4⟩ := scale_loop (v1 := v1) ok0 hf lf bf bc N (i + 1) S3 (.b true) v' (.p S.nx 0) (by omega) (by omega) r3 g3 ho3 ha3
      refine ⟨S', v6', v7', r4, g4, fun kx kr v9 => ?_⟩
      rw [loopN_succ, c_go (h1 := fun c => by rw [lss_n (by omega) (by omega), decide_eq_true hi]) (h2 := g1) (h3 := g2) (h4 := fun c => pAlloc_eq _ _ c) (h5 := s2) (h6 := fun c => o2.ld c) (h7 := fun c => ho2.ld c) (h8 := fun k => mul_q (gb bf (by omega) i) bc _ k) (h9 := a3) (h10 := fun c => add_n (by omega) c)]
      exact a4 kx kr v9
    · have : i = f.length := by omega
      subst this
      refine ⟨S, v6, v7, r, hv, fun kx kr v9 => ?_⟩
      rw [loopN_succ, c_end (h1 := fun c => by rw [lss_n (by omega) (by omega), decide_eq_false (by omega)])]
def F87x : Gn 2 := G87 (C87 F60x F85q)
theorem K87x : FOK Tryz.prog 87 (un 2 F87x) := fokP (.cons K60x (.cons K85q .nil)) .nil hm Tryz.func87 (by kernel_rfl) (D87 F60x F85q) (H87 _)
theorem scale_run (ok0 : SOK S0) (r : Run S0 S) {v0 : V} {f : List Int} {c : Int} (hf : QRow S0 v0 f) (lf : f.length ≤ 200000) (bf : ∀ z ∈ f, z.natAbs < 8) (bc : c.natAbs < 8) (hb : ∀ i, i < f.length → (gz f i * c).natAbs < 64) :
    ∃ S' v', Run S0 S' ∧ Res S0 S' v' (tz (tabl (fun k => gz f k * c) f.length)) ∧ ∀ k, F87x v0 (zv c) S k = k v' S' := by
  have r0 := r.new (Q.zc c)
  obtain ⟨S1, v6, v7, r1, g1, a1⟩ := scale_loop (v1 := zv c) ok0 hf lf bf bc 1000000 0 (S.new (Q.zc c)) .other .sn .other (by omega) (by omega) r0 (.inl ⟨rfl, rfl⟩) (Own.new r (Q.zc c)) (Apart.sn _)
  obtain ⟨S2, v2, r2, g2, a2⟩ := trim_run r1 (g1.row (by rw [tabl_len]; omega)) (by rw [tabl_len]; omega) (tabl_all hb)
  refine ⟨S2, v2, r2, g2, fun k => ?_⟩
  unfold F87x G87
  rw [C87_eq, c_head (p := .p S.nx 0) (S1 := S.new (Q.zc c)) (a := nn f.length) (b := nn f.length) (x := .b false) (o := v6) (y := v7) (r := v2) (S2 := S1) (S3 := S2) (h1 := fun k => box_eq c S k) (h2 := fun c => (hf.len c).1) (hL := fun kn kx kr => ?_) (h3 := a2)]
  obtain ⟨kx', e1, e2⟩ := block_loop0 (B87 F85q) kn kx kr
  rw [e2, a1 kx' kr .sn, e1]
/-- the text of Scale -/
def scaleT : Gn 2 := fun a c S k => rdQ a S (fun n P N m => decK c (F87x a c S k) (fun s x => Bool.rec (motive := fun _ => R) (F87x a c S k) (fN (Nat.mul P x) (fun A => fN (Nat.mul N x) (fun B => Bool.rec (motive := fun _ => R) (outQ A B n S k) (outQ B A n S k) s))) (Bool.and (Bool.and (Nat.blt m 8) (Nat.blt x 8)) (Nat.ble n 100000))))
theorem K87t : FOK Tryz.prog 87 (un 2 scaleT) := by
  intro vs S k out ok h
  match vs, h with
  | [], h => exact Q.no h
  | [_], h => exact Q.no h
  | _ :: _ :: _ :: _, h => exact Q.no h
  | [a, cv], h =>
    have slow : F87x a cv S k = some out → _ := fun h => K87x [a, cv] S k out ok h
    obtain ⟨f, m, f1, f2, f3, h⟩ := rdQ_some (show scaleT a cv S k = some out from h)
    rcases decK_some h with h | ⟨s, x, rfl, h⟩
    · exact slow h
    cases hc : Bool.and (Bool.and (Nat.blt m 8) (Nat.blt x 8)) (Nat.ble f.length 100000) with
    | false => rw [hc] at h; exact slow h
    | true =>
      rw [hc] at h
      simp only [Bool.and_eq_true] at hc
      have hm := lt_of_blt hc.1.1
      have hx := lt_of_blt hc.1.2
      have lf := Nat.le_of_ble_eq_true hc.2
      have h : fN (pz f * x) (fun A => fN (nz f * x) (fun B => @Bool.rec (fun _ => R) (outQ A B f.length S k) (outQ B A f.length S k) s)) = some out := h
      rw [fN_eq, fN_eq] at h
      obtain ⟨c, hcz⟩ : ∃ c : Int, c = if s then -(x : Int) else x := ⟨_, rfl⟩
      rw [rv_of hcz]
      have bc : c.natAbs < 8 := by rw [hcz]; split <;> omega
      have h : outQ (pz f * c.toNat + nz f * (-c).toNat) (pz f * (-c).toNat + nz f * c.toNat) f.length S k = some out := by
        cases s with
        | false =>
          have hcz : c = (x : Int) := hcz
          rw [show c.toNat = x by omega, show (-c).toNat = 0 by omega, Nat.mul_zero, Nat.mul_zero, Nat.add_zero, Nat.zero_add]; exact h
        | true =>
          have hcz : c = -(x : Int) := hcz
          rw [show c.toNat = 0 by omega, show (-c).toNat = x by omega, Nat.mul_zero, Nat.mul_zero, Nat.add_zero, Nat.zero_add]; exact h
      obtain ⟨hd, h⟩ := outQ_some (D := tabl (fun k => gz f k * c) f.length) (tabl_len _ _).symm (fun i hi => by
        rw [tabl_len] at hi
        rw [tabl_gz _ _ _ hi]
        exact scale_dig c f3 (by omega) (by omega) i) h
      obtain ⟨S', v', r1, r2, r3⟩ := scale_run (c := c) ok.lock (Run.start ok) f1.lock (by omega) (fun z hz => by have := f3 z hz; omega) bc (fun i hi => by
        have h1 := hd i (by rw [tabl_len]; exact hi)
        have h2 := scale_dig c f3 (show m < 64 by omega) (by omega) i
        omega)
      refine finish K87x ok r1 r2 r3 ?_ h
      have : okV (pfq S) (zv c) = true := by rw [← rv_zv]; exact rv_ok _ _ _
      simp only [okL, f2, this, Bool.and_self]
/- Monomial -/
def B41 (f38 : Gn 1) : CS 7 := (cSeq (cSeq (cReg fun kn v0 v1 v2 v3 v4 v5 v6 S => pLss v2 v1 (fun a0 => kn v0 v1 v2 a0 v4 v5 v6 S)) (cCond (fun x y v0 v1 v2 v3 v4 v5 v6 S => pIf v3 (x v0 v1 v2 v3 v4 v5 v6 S) (y v0 v1 v2 v3 v4 v5 v6 S)) cSkip (cExit 0))) (cSeq (cBlock 1 (cReg fun kn v0 v1 v2 v3 v4 v5 v6 S => f38 (.i .i64 0) S (fun a0 S => pBsl [(.b false),(.s []),(.s [])] 1 [(0, 3, a0)] S (fun a1 S => pApp 3 v4 a1 S (fun a2 S => kn v0 v1 v2 v3 a2 v5 v6 S))))) (cReg fun kn v0 v1 v2 v3 v4 v5 v6 S => pAdd v2 (.i .i64 1) (fun a0 => kn v0 v1 a0 v3 v4 v5 v6 S))))
def HT41 (f60 : Gn 1) (Lp : CS 7) : CS 7 := (cSeq (cReg fun kn v0 v1 v2 v3 v4 v5 v6 S => pBox v0 S (fun a0 S => kn v0 v1 v2 v3 v4 a0 .sn S)) (cSeq (cReg fun kn v0 v1 v2 v3 v4 v5 v6 S => kn v0 v1 v2 v3 .sn v5 v6 S) (cSeq (cSeq (cReg fun kn v0 v1 v2 v3 v4 v5 v6 S => kn v0 v1 (.i .i64 0) v3 v4 v5 v6 S) Lp) (cSeq (cReg fun kn v0 v1 v2 v3 v4 v5 v6 S => pLdn 3 v5 S (fun a0 => pBsl [(.b false),(.s []),(.s [])] 1 [(0, 3, a0)] S (fun a1 S => pApp 3 v4 a1 S (fun a2 S => f60 a2 S (fun a3 S => kn v0 v1 v2 v3 v4 v5 a3 S))))) cRet))))
theorem C41_eq (f38 f60 : Gn 1) : C41 f38 f60 = HT41 f60 (cBlock 0 (cLoop (B41 f38))) := by rfl
section
variable (f60 f38 : Gn 1) (K : Fn 7) (kx : Nat → Fn 7) (kr : Fn 7) (v0 v1 v2 v3 v4 v5 v6 a b q x p y z o o' n' r : V) (S S1 S2 S3 S4 : St)
theorem n_end (h1 : ∀ c, pLss v2 v1 c = c (.b false)) : B41 f38 K kx kr v0 v1 v2 v3 v4 v5 v6 S = kx 0 v0 v1 v2 (.b false) v4 v5 v6 S := by
  simp only [B41, cSeq, cReg, cCond, cBlock, cSkip, cExit, cRet, h1, ifF]
theorem n_go (h1 : ∀ c, pLss v2 v1 c = c (.b true)) (h2 : ∀ c, f38 (nn 0) S c = c z S) (h9 : ∀ c : Cont, pBsl [(.b false), (.s []), (.s [])] 1 [(0, 3, z)] S (fun a S => pApp 3 v4 a S c) = c o S3) (h10 : ∀ c, pAdd v2 (nn 1) c = c n') :
    B41 f38 K kx kr v0 v1 v2 v3 v4 v5 v6 S = K v0 v1 n' (.b true) o v5 v6 S3 := by
  simp only [B41, cSeq, cReg, cCond, cBlock, cSkip, cExit, cRet, h1, h2, h9, h10, ifT]
theorem n_head (Lp : CS 7) (h1 : ∀ c : Cont, pBox v0 S c = c p S1)
    (hL : ∀ (kn : Fn 7) (kx : Nat → Fn 7) (kr : Fn 7), Lp kn kx kr v0 v1 (nn 0) v3 .sn p .sn S1 = kn v0 v1 b x o p .sn S2) (h2 : ∀ c, pLdn 3 p S2 c = c z) (h9 : ∀ c : Cont, pBsl [(.b false), (.s []), (.s [])] 1 [(0, 3, z)] S2 (fun a S => pApp 3 o a S c) = c o' S3) (h3 : ∀ c, f60 o' S3 c = c r S4) :
    HT41 f60 Lp K kx kr v0 v1 v2 v3 v4 v5 v6 S = kr v0 v1 b x o p r S4 := by
  simp only [HT41, cSeq, cReg, cCond, cBlock, cSkip, cExit, cRet, h1, hL, h2, h9, h3]
end
theorem mono_loop {id : Pos} {c : Int} {n : Nat} (hn : n ≤ 200000) (v0 : V) :
    ∀ (N i : Nat) (S : St) (v3 v4 : V), i ≤ n → n < N + i → Run S0 S → Grow S0 S v4 (List.replicate i 0) → Own S0 S id (Q.zc c) → Apart v4 id →
    ∃ S' v4', Run S0 S' ∧ Grow S0 S' v4' (List.replicate n 0) ∧ Own S0 S' id (Q.zc c) ∧ Apart v4' id ∧ ∀ (kx : Nat → Fn 7) (kr : Fn 7) (v6 : V), loopN (B41 F38q) kx kr N v0 (nn n) (nn i) v3 v4 (.p id 0) v6 S = kx 0 v0 (nn n) (nn n) (.b false) v4' (.p id 0) v6 S'
  | 0, i, S, v3, v4, h1, h2, r, hv, ho, ha => by omega
  | N + 1, i, S, v3, v4, h1, h2, r, hv, ho, ha => by
    by_cases hi : i < n
    · obtain ⟨S3, v', r3, g3, k3, a3⟩ := hv.app r (by rw [List.length_replicate]; omega) 0
      obtain ⟨ho3, ha3⟩ := k3 _ _ ho ha
      rw [show List.replicate i (0 : Int) ++ [0] = List.replicate (i + 1) 0 from List.replicate_succ'.symm] at g3
      obtain ⟨S', v4', r4, g4, o4, p4, a4⟩ := mono_loop (id := id) (c := c) hn v0 N (i + 1) S3 (.b true) v' (by omega) (by omega) r3 g3 ho3 ha3
      refine ⟨S', v4', r4, g4, o4, p4, fun kx kr v6 => ?_⟩
      rw [loopN_succ, n_go (h1 := fun c => by rw [lss_n (by omega) (by omega), decide_eq_true hi]) (h2 := fun k => int_q (by omega) _ k) (h9 := a3) (h10 := fun c => add_n (by omega) c)]
      exact a4 kx kr v6
    · have : i = n := by omega
      subst this
      refine ⟨S, v4, r, hv, ho, ha, fun kx kr v6 => ?_⟩
      rw [loopN_succ, n_end (h1 := fun c => by rw [lss_n (by omega) (by omega), decide_eq_false (by omega)])]
def F41x : Gn 2 := G41 (C41 F38q F60x)
theorem K41x : FOK Tryz.prog 41 (un 2 F41x) := fokP (.cons K38q (.cons K60x .nil)) .nil hm Tryz.func41 (by kernel_rfl) (D41 F38q F60x) (H41 _)
theorem mono_run (r : Run S0 S) {c : Int} {n : Nat} (hn : n ≤ 200000) (bc : c.natAbs < 64) :
    ∃ S' v', Run S0 S' ∧ Res S0 S' v' (tz (List.replicate n 0 ++ [c])) ∧ ∀ k, F41x (zv c) (nn n) S k = k v' S' := by
  have r0 := r.new (Q.zc c)
  obtain ⟨S1, v4, r1, g1, o1, p1, a1⟩ := mono_loop (c := c) hn (zv c) 1000000 0 (S.new (Q.zc c)) .other .sn (by omega) (by omega) r0 (.inl ⟨rfl, rfl⟩) (Own.new r (Q.zc c)) (Apart.sn _)
  obtain ⟨S2, v', r2, g2, _, a2⟩ := g1.app r1 (by rw [List.length_replicate]; omega) c
  obtain ⟨S3, v3, r3, g3, a3⟩ := trim_run r2 (g2.row (by rw [List.length_append, List.length_replicate]; simp; omega)) (by rw [List.length_append, List.length_replicate]; simp; omega) (fun z hz => by
    rcases List.mem_append.1 hz with h | h
    · rw [(List.mem_replicate.1 h).2]; decide
    · rw [List.mem_singleton.1 h]; exact bc)
  refine ⟨S3, v3, r3, g3, fun k => ?_⟩
  unfold F41x G41
  rw [C41_eq, n_head (p := .p S.nx 0) (S1 := S.new (Q.zc c)) (b := nn n) (x := .b false) (o := v4) (o' := v') (z := zv c) (r := v3) (S2 := S1) (S3 := S2) (S4 := S3) (h1 := fun k => box_eq c S k) (hL := fun kn kx kr => ?_) (h2 := fun k => o1.ld k) (h9 := a2) (h3 := a3)]
  obtain ⟨kx', e1, e2⟩ := block_loop0 (B41 F38q) kn kx kr
  rw [e2, a1 kx' kr .sn, e1]
/-- the text of Monomial -/
def monoT : Gn 2 := fun c n S k => decK c (F41x c n S k) (fun s x => vI n (fun kd n' => Bool.rec (motive := fun _ => R) (F41x c n S k) (fN (Nat.mul x (Nat.pow BB n')) (fun A => Bool.rec (motive := fun _ => R) (outQ A 0 (Nat.succ n') S k) (outQ 0 A (Nat.succ n') S k) s)) (Bool.and (Nat.beq (kNo kd) 3) (Bool.and (Nat.blt x 64) (Nat.ble n' 1000)))))
theorem pk_rep (x : Nat) : ∀ n, pk (List.replicate n 0 ++ [x]) = x * BB ^ n
  | 0 => by simp [pk]
  | n + 1 => by
    show 0 + BB * pk (List.replicate n 0 ++ [x]) = _
    rw [pk_rep x n, Nat.pow_succ, Nat.zero_add, Nat.mul_comm, Nat.mul_assoc]
theorem ps_rep (c : Int) (n : Nat) : pz (List.replicate n 0 ++ [c]) = c.toNat * BB ^ n ∧ nz (List.replicate n 0 ++ [c]) = (-c).toNat * BB ^ n := by
  unfold pz nz ps ns
  rw [List.map_append, List.map_append, List.map_replicate, List.map_replicate]
  exact ⟨pk_rep _ _, pk_rep _ _⟩
theorem K41t : FOK Tryz.prog 41 (un 2 monoT) := by
  intro vs S k out ok h
  match vs, h with
  | [], h => exact Q.no h
  | [_], h => exact Q.no h
  | _ :: _ :: _ :: _, h => exact Q.no h
  | [cv, nv], h =>
    have slow : F41x cv nv S k = some out → _ := fun h => K41x [cv, nv] S k out ok h
    rcases decK_some (show monoT cv nv S k = some out from h) with h | ⟨s, x, rfl, h⟩
    · exact slow h
    obtain ⟨kd, n, rfl, h⟩ := vI_some h
    cases hc : Bool.and (Nat.beq (kNo kd) 3) (Bool.and (Nat.blt x 64) (Nat.ble n 1000)) with
    | false => rw [hc] at h; exact slow h
    | true =>
      rw [hc] at h
      simp only [Bool.and_eq_true] at hc
      have := Q.kNo_i64 hc.1
      subst this
      have hx := lt_of_blt hc.2.1
      have hn := Nat.le_of_ble_eq_true hc.2.2
      have h : fN (x * BB ^ n) (fun A => @Bool.rec (fun _ => R) (outQ A 0 (n + 1) S k) (outQ 0 A (n + 1) S k) s) = some out := h
      rw [fN_eq] at h
      obtain ⟨c, hcz⟩ : ∃ c : Int, c = if s then -(x : Int) else x := ⟨_, rfl⟩
      rw [rv_of hcz]
      have bc : c.natAbs < 64 := by rw [hcz]; split <;> omega
      obtain ⟨e1, e2⟩ := ps_rep c n
      have h : outQ (pz (List.replicate n 0 ++ [c])) (nz (List.replicate n 0 ++ [c])) (n + 1) S k = some out := by
        rw [e1, e2]
        cases s with
        | false =>
          have hcz : c = (x : Int) := hcz
          rw [show c.toNat = x by omega, show (-c).toNat = 0 by omega, Nat.zero_mul]; exact h
        | true =>
          have hcz : c = -(x : Int) := hcz
          rw [show c.toNat = 0 by omega, show (-c).toNat = x by omega, Nat.zero_mul]; exact h
      have hall : ∀ z ∈ List.replicate n 0 ++ [c], z.natAbs ≤ 63 := fun z hz => by
        rcases List.mem_append.1 hz with h | h
        · rw [(List.mem_replicate.1 h).2]; decide
        · rw [List.mem_singleton.1 h]; omega
      obtain ⟨hd, h⟩ := outQ_some (D := List.replicate n 0 ++ [c]) (by simp) (fun i hi => id_dig hall (by omega) i) h
      obtain ⟨S', v', r1, r2, r3⟩ := mono_run (c := c) (n := n) (Run.start ok) (by omega) bc
      refine finish K41x ok r1 r2 r3 ?_ h
      have : okV (pfq S) (zv c) = true := by rw [← rv_zv]; exact rv_ok _ _ _
      have h2 : okV (pfq S) (nn n) = true := rfl
      simp only [okL, this, h2, Bool.and_self]
end
end Go.AM

/- galoisref06.Mul: the machine's text on rows of small whole fractions. -/
namespace Go.AM
open Go.Proofs
open Go.AM.Q
set_option linter.unusedVariables false
set_option linter.unusedSimpArgs false
noncomputable section
variable {S0 S : St} {out : V × St}
def BI35 (f84 f85 : Gn 2) : CS 12 := (cSeq (cReg fun kn v0 v1 v2 v3 v4 v5 v6 v7 v8 v9 v10 v11 S => pLss v4 v5 (fun a0 => kn v0 v1 v2 v3 v4 v5 a0 v7 v8 v9 v10 v11 S)) (cSeq (cCond (fun x y v0 v1 v2 v3 v4 v5 v6 v7 v8 v9 v10 v11 S => pIf v6 (x v0 v1 v2 v3 v4 v5 v6 v7 v8 v9 v10 v11 S) (y v0 v1 v2 v3 v4 v5 v6 v7 v8 v9 v10 v11 S)) cSkip (cExit 2)) (cSeq (cBlock 3 (cSeq (cReg fun kn v0 v1 v2 v3 v4 v5 v6 v7 v8 v9 v10 v11 S => kn v0 v1 v2 v3 v4 v5 v6 v4 v8 v9 v10 v11 S) (cSeq (cReg fun kn v0 v1 v2 v3 v4 v5 v6 v7 v8 v9 v10 v11 S => pSub v2 v7 (fun a0 => pGeq a0 (.i .i64 0) (fun a1 => pGd a1 true (fun c => c v2 S) S (fun a2 S => pGd a1 true (fun c => c v7 S) S (fun a3 S => pGd a1 true (fun c => pSub a2 a3 (fun v => c v S)) S (fun a4 S => pGd a1 true (fun c => c v1 S) S (fun a5 S => pGd a1 true (fun c => pLen a5 (fun v => c v S)) S (fun a6 S => pGd a1 true (fun c => pLss a4 a6 (fun v => c v S)) S (fun a7 S => pPick a1 a7 (.b false) (fun a8 => kn v0 v1 v2 v3 v4 v5 v6 v7 a8 v9 v10 v11 S)))))))))) (cCond (fun x y v0 v1 v2 v3 v4 v5 v6 v7 v8 v9 v10 v11 S => pIf v8 (x v0 v1 v2 v3 v4 v5 v6 v7 v8 v9 v10 v11 S) (y v0 v1 v2 v3 v4 v5 v6 v7 v8 v9 v10 v11 S)) (cReg fun kn v0 v1 v2 v3 v4 v5 v6 v7 v8 v9 v10 v11 S => pLdn 3 v9 S (fun a0 => pIdx 3 v0 v7 (fun a1 => pLdn 3 a1 S (fun a2 => pSub v2 v7 (fun a3 => pIdx 3 v1 a3 (fun a4 => pLdn 3 a4 S (fun a5 => pDraw (f85 a2 a5) S (fun a6 S => pDraw (f84 a0 a6) S (fun a7 S => pSt 3 v9 a7 S (fun S => kn v0 v1 v2 v3 v4 v5 v6 v7 v8 v9 v10 v11 S)))))))))) cSkip)))) (cReg fun kn v0 v1 v2 v3 v4 v5 v6 v7 v8 v9 v10 v11 S => pAdd v4 (.i .i64 1) (fun a0 => kn v0 v1 v2 v3 a0 v5 v6 v7 v8 v9 v10 v11 S)))))
def BO35 (f38 : Gn 1) (Ip : CS 12) : CS 12 := (cSeq (cSeq (cReg fun kn v0 v1 v2 v3 v4 v5 v6 v7 v8 v9 v10 v11 S => pLen v0 (fun a0 => pLen v1 (fun a1 => pAdd a0 a1 (fun a2 => pSub a2 (.i .i64 1) (fun a3 => pLss v2 a3 (fun a4 => kn v0 v1 v2 a4 v4 v5 v6 v7 v8 v9 v10 v11 S)))))) (cCond (fun x y v0 v1 v2 v3 v4 v5 v6 v7 v8 v9 v10 v11 S => pIf v3 (x v0 v1 v2 v3 v4 v5 v6 v7 v8 v9 v10 v11 S) (y v0 v1 v2 v3 v4 v5 v6 v7 v8 v9 v10 v11 S)) cSkip (cExit 0))) (cSeq (cBlock 1 (cSeq (cReg fun kn v0 v1 v2 v3 v4 v5 v6 v7 v8 v9 v10 v11 S => f38 (.i .i64 0) S (fun a0 S => pAlloc [(.b false),(.s []),(.s [])] S (fun a1 S => pSt 3 a1 a0 S (fun S => kn v0 v1 v2 v3 v4 v5 v6 v7 v8 a1 v10 v11 S)))) (cSeq (cSeq (cReg fun kn v0 v1 v2 v3 v4 v5 v6 v7 v8 v9 v10 v11 S => pLen v0 (fun a0 => kn v0 v1 v2 v3 (.i .i64 0) a0 v6 v7 v8 v9 v10 v11 S)) Ip) (cReg fun kn v0 v1 v2 v3 v4 v5 v6 v7 v8 v9 v10 v11 S => pLdn 3 v9 S (fun a0 => pBsl [(.b false),(.s []),(.s [])] 1 [(0, 3, a0)] S (fun a1 S => pApp 3 v10 a1 S (fun a2 S => kn v0 v1 v2 v3 v4 v5 v6 v7 v8 v9 a2 v11 S))))))) (cReg fun kn v0 v1 v2 v3 v4 v5 v6 v7 v8 v9 v10 v11 S => pAdd v2 (.i .i64 1) (fun a0 => kn v0 v1 a0 v3 v4 v5 v6 v7 v8 v9 v10 v11 S))))
def HT35 (f60 : Gn 1) (Lp : CS 12) : CS 12 := (cSeq (cReg fun kn v0 v1 v2 v3 v4 v5 v6 v7 v8 v9 v10 v11 S => kn v0 v1 v2 v3 v4 v5 v6 v7 v8 v9 v10 .sn S) (cSeq (cReg fun kn v0 v1 v2 v3 v4 v5 v6 v7 v8 v9 v10 v11 S => kn v0 v1 v2 v3 v4 v5 v6 v7 v8 v9 .sn v11 S) (cSeq (cSeq (cReg fun kn v0 v1 v2 v3 v4 v5 v6 v7 v8 v9 v10 v11 S => kn v0 v1 (.i .i64 0) v3 v4 v5 v6 v7 v8 v9 v10 v11 S) Lp) (cSeq (cReg fun kn v0 v1 v2 v3 v4 v5 v6 v7 v8 v9 v10 v11 S => f60 v10 S (fun a0 S => kn v0 v1 v2 v3 v4 v5 v6 v7 v8 v9 v10 a0 S)) cRet))))
theorem C35_eq (f38 f60 : Gn 1) (f84 f85 : Gn 2) : C35 f38 f60 f84 f85 = HT35 f60 (cBlock 0 (cLoop (BO35 f38 (cBlock 2 (cLoop (BI35 f84 f85)))))) := by rfl
section
variable (f38 f60 : Gn 1) (f84 f85 : Gn 2) (K : Fn 12) (kx : Nat → Fn 12) (kr : Fn 12) (v0 v1 v2 v3 v4 v5 v6 v7 v8 v9 v10 v11 a b d q q' x p y z s o n' r w6 w7 w8 w3 w9 w4 w5 : V) (S S1 S2 S3 S4 : St)
theorem pi_end (h1 : ∀ c, pLss v4 v5 c = c (.b false)) : BI35 f84 f85 K kx kr v0 v1 v2 v3 v4 v5 v6 v7 v8 v9 v10 v11 S = kx 2 v0 v1 v2 v3 v4 v5 (.b false) v7 v8 v9 v10 v11 S := by
  simp only [BI35, cSeq, cReg, cCond, cBlock, cSkip, cExit, cRet, h1, ifF]
theorem pi_neg (h1 : ∀ c, pLss v4 v5 c = c (.b true)) (h2 : ∀ c, pSub v2 v4 c = c d) (h3 : ∀ c, pGeq d (nn 0) c = c (.b false)) (h10 : ∀ c, pAdd v4 (nn 1) c = c n') :
    BI35 f84 f85 K kx kr v0 v1 v2 v3 v4 v5 v6 v7 v8 v9 v10 v11 S = K v0 v1 v2 v3 n' v5 (.b true) v4 (.b false) v9 v10 v11 S := by
  simp only [BI35, cSeq, cReg, cCond, cBlock, cSkip, cExit, cRet, h1, h2, h3, h10, pGd_ft, pPick_f, ifT, ifF]
theorem pi_far (h1 : ∀ c, pLss v4 v5 c = c (.b true)) (h2 : ∀ c, pSub v2 v4 c = c d) (h3 : ∀ c, pGeq d (nn 0) c = c (.b true)) (h4 : ∀ c, pLen v1 c = c b) (h5 : ∀ c, pLss d b c = c (.b false)) (h10 : ∀ c, pAdd v4 (nn 1) c = c n') :
    BI35 f84 f85 K kx kr v0 v1 v2 v3 v4 v5 v6 v7 v8 v9 v10 v11 S = K v0 v1 v2 v3 n' v5 (.b true) v4 (.b false) v9 v10 v11 S := by
  simp only [BI35, cSeq, cReg, cCond, cBlock, cSkip, cExit, cRet, h1, h2, h3, h4, h5, h10, pGd_tt, pPick_t, ifT, ifF]
theorem pi_go (h1 : ∀ c, pLss v4 v5 c = c (.b true)) (h2 : ∀ c, pSub v2 v4 c = c d) (h3 : ∀ c, pGeq d (nn 0) c = c (.b true)) (h4 : ∀ c, pLen v1 c = c b) (h5 : ∀ c, pLss d b c = c (.b true))
    (g1 : ∀ c, pLdn 3 v9 S c = c s) (g2 : ∀ c, pIdx 3 v0 v4 c = c q) (g3 : ∀ c, pLdn 3 q S c = c x) (g4 : ∀ c, pIdx 3 v1 d c = c q') (g5 : ∀ c, pLdn 3 q' S c = c y) (g6 : ∀ k, pDraw (f85 x y) S k = k z S) (g7 : ∀ k, pDraw (f84 s z) S k = k o S) (g8 : ∀ c, pSt 3 v9 o S c = c S1) (h10 : ∀ c, pAdd v4 (nn 1) c = c n') :
    BI35 f84 f85 K kx kr v0 v1 v2 v3 v4 v5 v6 v7 v8 v9 v10 v11 S = K v0 v1 v2 v3 n' v5 (.b true) v4 (.b true) v9 v10 v11 S1 := by
  simp only [BI35, cSeq, cReg, cCond, cBlock, cSkip, cExit, cRet, h1, h2, h3, h4, h5, g1, g2, g3, g4, g5, g6, g7, g8, h10, pGd_tt, pPick_t, ifT]
theorem po_end (Ip : CS 12) (h1 : ∀ c, pLen v0 c = c a) (h2 : ∀ c, pLen v1 c = c b) (h3 : ∀ c, pAdd a b c = c d) (h4 : ∀ c, pSub d (nn 1) c = c x) (h5 : ∀ c, pLss v2 x c = c (.b false)) : BO35 f38 Ip K kx kr v0 v1 v2 v3 v4 v5 v6 v7 v8 v9 v10 v11 S = kx 0 v0 v1 v2 (.b false) v4 v5 v6 v7 v8 v9 v10 v11 S := by
  simp only [BO35, cSeq, cReg, cCond, cBlock, cSkip, cExit, cRet, h1, h2, h3, h4, h5, ifF]
theorem po_go (Ip : CS 12) (h1 : ∀ c, pLen v0 c = c a) (h2 : ∀ c, pLen v1 c = c b) (h3 : ∀ c, pAdd a b c = c d) (h4 : ∀ c, pSub d (nn 1) c = c x) (h5 : ∀ c, pLss v2 x c = c (.b true))
    (g1 : ∀ c, f38 (nn 0) S c = c z S) (g2 : ∀ c : Cont, pAlloc [(.b false), (.s []), (.s [])] S c = c p S1) (g3 : ∀ c, pSt 3 p z S1 c = c S2)
    (hI : ∀ (kn : Fn 12) (kx : Nat → Fn 12) (kr : Fn 12), Ip kn kx kr v0 v1 v2 (.b true) (nn 0) a v6 v7 v8 p v10 v11 S2 = kn v0 v1 v2 (.b true) w4 w5 w6 w7 w8 p v10 v11 S3)
    (g4 : ∀ c, pLdn 3 p S3 c = c s) (g5 : ∀ c : Cont, pBsl [(.b false), (.s []), (.s [])] 1 [(0, 3, s)] S3 (fun a S => pApp 3 v10 a S c) = c o S4) (g6 : ∀ c, pAdd v2 (nn 1) c = c n') :
    BO35 f38 Ip K kx kr v0 v1 v2 v3 v4 v5 v6 v7 v8 v9 v10 v11 S = K v0 v1 n' (.b true) w4 w5 w6 w7 w8 p o v11 S4 := by
  simp only [BO35, cSeq, cReg, cCond, cBlock, cSkip, cExit, cRet, h1, h2, h3, h4, h5, g1, g2, g3, hI, g4, g5, g6, ifT]
theorem p_head (Lp : CS 12) (hL : ∀ (kn : Fn 12) (kx : Nat → Fn 12) (kr : Fn 12), Lp kn kx kr v0 v1 (nn 0) v3 v4 v5 v6 v7 v8 v9 .sn .sn S = kn v0 v1 a w3 w4 w5 w6 w7 w8 w9 o .sn S1) (h2 : ∀ c, f60 o S1 c = c r S2) :
    HT35 f60 Lp K kx kr v0 v1 v2 v3 v4 v5 v6 v7 v8 v9 v10 v11 S = kr v0 v1 a w3 w4 w5 w6 w7 w8 w9 o r S2 := by
  simp only [HT35, cSeq, cReg, cCond, cBlock, cSkip, cExit, cRet, hL, h2]
end
theorem mul_in {v0 v1 : V} {f g : List Int} {k : Nat} {id : Pos} (hf : QRow S0 v0 f) (hg : QRow S0 v1 g) (ok0 : SOK S0) (lf : f.length ≤ 200000) (lg : g.length ≤ 200000) (hk : k ≤ 400000) (bf : ∀ z ∈ f, z.natAbs < 8) (bg : ∀ z ∈ g, z.natAbs < 8) (bfg : ∀ x ∈ f, ∀ y ∈ g, (x * y).natAbs < 8) (hb : ca f g k < 64) :
    ∀ (N i : Nat) (S : St) (v6 v7 v8 : V), i ≤ f.length → f.length < N + i → Run S0 S → Own S0 S id (Q.zc (psum f g k i)) →
    ∃ S' v7' v8', Run S0 S' ∧ Own S0 S' id (Q.zc (psum f g k f.length)) ∧ (∀ q ds, q ≠ id → Own S0 S q ds → Own S0 S' q ds) ∧
      ∀ (kx : Nat → Fn 12) (kr : Fn 12) (v3 v10 v11 : V), loopN (BI35 F84q F85q) kx kr N v0 v1 (nn k) v3 (nn i) (nn f.length) v6 v7 v8 (.p id 0) v10 v11 S = kx 2 v0 v1 (nn k) v3 (nn f.length) (nn f.length) (.b false) v7' v8' (.p id 0) v10 v11 S'
  | 0, i, S, v6, v7, v8, h1, h2, r, ho => by omega
  | N + 1, i, S, v6, v7, v8, h1, h2, r, ho => by
    by_cases hi : i < f.length
    · have e1 : ∀ c, pLss (nn i) (nn f.length) c = c (.b true) := fun c => by rw [lss_n (by omega) (by omega), decide_eq_true hi]
      have e10 : ∀ c, pAdd (nn i) (nn 1) c = c (nn (i + 1)) := fun c => add_n (by omega) c
      by_cases hki : i ≤ k
      · have e2 : ∀ c, pSub (nn k) (nn i) c = c (nn (k - i)) := fun c => sub_n hki (by omega) c
        have e3 : ∀ c, pGeq (nn (k - i)) (nn 0) c = c (.b true) := fun c => by rw [geq_n (by omega) (by omega), decide_eq_true (by omega)]
        have e4 : ∀ c, pLen v1 c = c (nn g.length) := fun c => (hg.len c).1
        by_cases hg1 : k - i < g.length
        · have hp : psum f g k (i + 1) = psum f g k i + gz f i * gz g (k - i) := by
            show psum f g k i + (if _ then _ else _) = _
            rw [if_pos ⟨hki, hg1⟩]
          have b1 : (psum f g k i).natAbs < 64 := psum_bd hb (by omega)
          have b2 : (gz f i * gz g (k - i)).natAbs < 8 := bfg _ (List.mem_of_getElem? (gz_of hi)) _ (List.mem_of_getElem? (gz_of hg1))
          obtain ⟨q, g1, g2⟩ := (hf.run ok0 r).get hi
          obtain ⟨q', g3, g4⟩ := (hg.run ok0 r).get hg1
          obtain ⟨S1, r1, o1, k1, s1⟩ := ho.st r (by rfl) (psum f g k (i + 1))
          obtain ⟨S', v7', v8', r2, o2, k2, a2⟩ := mul_in (id := id) hf hg ok0 lf lg hk bf bg bfg hb N (i + 1) S1 (.b true) (nn i) (.b true) (by omega) (by omega) r1 o1
          refine ⟨S', v7', v8', r2, o2, fun q ds hq ho => k2 q ds hq (k1 q ds hq ho), fun kx kr v3 v10 v11 => ?_⟩
          rw [loopN_succ, pi_go (h1 := e1) (h2 := e2) (h3 := e3) (h4 := e4) (h5 := fun c => by rw [lss_n (by omega) (by omega), decide_eq_true hg1]) (g1 := fun c => ho.ld c) (g2 := g1) (g3 := g2) (g4 := g3) (g5 := g4)
            (g6 := fun c => pDraw_of (fun S kk => mul_q (gb bf (by omega) i) (gb bg (by omega) (k - i)) S kk) S c)
            (g7 := fun c => pDraw_of (fun S kk => add_q b1 b2 S kk) S c) (g8 := by rw [← hp]; exact s1) (h10 := e10)]
          exact a2 kx kr v3 v10 v11
        · have hp : psum f g k (i + 1) = psum f g k i := by
            show psum f g k i + (if _ then _ else _) = _
            rw [if_neg (by omega), Int.add_zero]
          obtain ⟨S', v7', v8', r2, o2, k2, a2⟩ := mul_in (id := id) hf hg ok0 lf lg hk bf bg bfg hb N (i + 1) S (.b true) (nn i) (.b false) (by omega) (by omega) r (by rw [hp]; exact ho)
          refine ⟨S', v7', v8', r2, o2, k2, fun kx kr v3 v10 v11 => ?_⟩
          rw [loopN_succ, pi_far (h1 := e1) (h2 := e2) (h3 := e3) (h4 := e4) (h5 := fun c => by rw [lss_n (by omega) (by omega), decide_eq_false hg1]) (h10 := e10)]
          exact a2 kx kr v3 v10 v11
      · have hp : psum f g k (i + 1) = psum f g k i := by
          show psum f g k i + (if _ then _ else _) = _
          rw [if_neg (by omega), Int.add_zero]
        obtain ⟨S', v7', v8', r2, o2, k2, a2⟩ := mul_in (id := id) hf hg ok0 lf lg hk bf bg bfg hb N (i + 1) S (.b true) (nn i) (.b false) (by omega) (by omega) r (by rw [hp]; exact ho)
        refine ⟨S', v7', v8', r2, o2, k2, fun kx kr v3 v10 v11 => ?_⟩
        rw [loopN_succ, pi_neg (h1 := e1) (h2 := fun c => sub_neg (by omega) (by omega) c) (h3 := fun c => geq_neg (by omega) (by omega) c) (h10 := e10)]
        exact a2 kx kr v3 v10 v11
    · have : i = f.length := by omega
      subst this
      refine ⟨S, v7, v8, r, ho, fun q ds _ h => h, fun kx kr v3 v10 v11 => ?_⟩
      rw [loopN_succ, pi_end (h1 := fun c => by rw [lss_n (by omega) (by omega), decide_eq_false (by omega)])]
theorem mul_out {v0 v1 : V} {f g : List Int} (hf : QRow S0 v0 f) (hg : QRow S0 v1 g) (ok0 : SOK S0) (lf : f.length ≤ 200000) (lg : g.length ≤ 200000) (bf : ∀ z ∈ f, z.natAbs < 8) (bg : ∀ z ∈ g, z.natAbs < 8) (bfg : ∀ x ∈ f, ∀ y ∈ g, (x * y).natAbs < 8) {n : Nat} (hn : n + 1 = f.length + g.length) (hb : ∀ k, k < n → ca f g k < 64) :
    ∀ (N i : Nat) (S : St) (v3 v4 v5 v6 v7 v8 v9 v10 : V), i ≤ n → n < N + i → Run S0 S → Grow S0 S v10 (tabl (cz f g) i) →
    ∃ S' v4' v5' v6' v7' v8' v9' v10', Run S0 S' ∧ Grow S0 S' v10' (tabl (cz f g) n) ∧
      ∀ (kx : Nat → Fn 12) (kr : Fn 12) (v11 : V), loopN (BO35 F38q (cBlock 2 (cLoop (BI35 F84q F85q)))) kx kr N v0 v1 (nn i) v3 v4 v5 v6 v7 v8 v9 v10 v11 S = kx 0 v0 v1 (nn n) (.b false) v4' v5' v6' v7' v8' v9' v10' v11 S'
  | 0, i, S, v3, v4, v5, v6, v7, v8, v9, v10, h1, h2, r, hv => by omega
  | N + 1, i, S, v3, v4, v5, v6, v7, v8, v9, v10, h1, h2, r, hv => by
    have e1 : ∀ c, pLen v0 c = c (nn f.length) := fun c => (hf.len c).1
    have e2 : ∀ c, pLen v1 c = c (nn g.length) := fun c => (hg.len c).1
    have e3 : ∀ c, pAdd (nn f.length) (nn g.length) c = c (nn (f.length + g.length)) := fun c => add_n (by omega) c
    have e4 : ∀ c, pSub (nn (f.length + g.length)) (nn 1) c = c (nn n) := fun c => by rw [sub_n (by omega) (by omega), show f.length + g.length - 1 = n by omega]
    by_cases hi : i < n
    · have r1 := r.new [(.b false), (.s []), (.s [])]
      obtain ⟨hv1, ha1⟩ := hv.new r [(.b false), (.s []), (.s [])]
      obtain ⟨S2, r2, o2, k2, s2⟩ := (Own.new r [(.b false), (.s []), (.s [])]).st r1 rfl 0
      have hv2 := hv1.ne ha1 k2
      obtain ⟨S3, v7', v8', r3, o3, k3, a3⟩ := mul_in (k := i) (id := S.nx) hf hg ok0 lf lg (by omega) bf bg bfg (hb i hi) 1000000 0 S2 v6 v7 v8 (by omega) (by omega) r2 o2
      have hv3 := hv2.ne ha1 k3
      rw [(psum_all f g i).1] at o3
      obtain ⟨S4, o, r4, g4, _, a4⟩ := hv3.app r3 (by rw [tabl_len]; omega) (cz f g i)
      obtain ⟨S', w4, w5, w6, w7, w8, w9, w10, r5, g5, a5⟩ := mul_out hf hg ok0 lf lg bf bg bfg hn hb N (i + 1) S4 (.b true) (nn f.length) (nn f.length) (.b false) v7' v8' (.p S.nx 0) o (by omega) (by omega) r4 g4
      refine ⟨S', w4, w5, w6, w7, w8, w9, w10, r5, g5, fun kx kr v11 => ?_⟩
      rw [loopN_succ, po_go (h1 := e1) (h2 := e2) (h3 := e3) (h4 := e4) (h5 := fun c => by rw [lss_n (by omega) (by omega), decide_eq_true hi]) (g1 := fun k => int_q (n := 0) (by omega) _ k) (g2 := fun c => pAlloc_eq _ _ c) (g3 := s2) (hI := fun kn kx kr => by
        obtain ⟨kx', e1, e2⟩ := block_loop2 (BI35 F84q F85q) kn kx kr
        rw [e2]
        refine (a3 kx' kr _ _ _).trans ?_
        rw [e1]) (g4 := fun c => o3.ld c) (g5 := a4) (g6 := fun c => add_n (by omega) c)]
      exact a5 kx kr v11
    · have : i = n := by omega
      subst this
      refine ⟨S, v4, v5, v6, v7, v8, v9, v10, r, hv, fun kx kr v11 => ?_⟩
      rw [loopN_succ, po_end (h1 := e1) (h2 := e2) (h3 := e3) (h4 := e4) (h5 := fun c => by rw [lss_n (by omega) (by omega), decide_eq_false (by omega)])]
def F35x : Gn 2 := G35 (C35 F38q F60x F84q F85q)
theorem K35x : FOK Tryz.prog 35 (un 2 F35x) := fokP (.cons K38q (.cons K60x (.cons K84q (.cons K85q .nil)))) .nil hm Tryz.func35 (by kernel_rfl) (D35 F38q F60x F84q F85q) (H35 _)
theorem mul_run (ok0 : SOK S0) (r : Run S0 S) {v0 v1 : V} {f g : List Int} (hf : QRow S0 v0 f) (hg : QRow S0 v1 g) (lf : f.length ≤ 200000) (lg : g.length ≤ 200000) (bf : ∀ z ∈ f, z.natAbs < 8) (bg : ∀ z ∈ g, z.natAbs < 8) (bfg : ∀ x ∈ f, ∀ y ∈ g, (x * y).natAbs < 8) {n : Nat} (hn : n + 1 = f.length + g.length) (hb : ∀ k, k < n → ca f g k < 64) :
    ∃ S' v', Run S0 S' ∧ Res S0 S' v' (tz (tabl (cz f g) n)) ∧ ∀ k, F35x v0 v1 S k = k v' S' := by
  obtain ⟨S1, w4, w5, w6, w7, w8, w9, w10, r1, g1, a1⟩ := mul_out hf hg ok0 lf lg bf bg bfg hn hb 1000000 0 S .other .other .other .other .other .other .other .sn (by omega) (by omega) r (.inl ⟨rfl, rfl⟩)
  obtain ⟨S2, v2, r2, g2, a2⟩ := trim_run r1 (g1.row (by rw [tabl_len]; omega)) (by rw [tabl_len]; omega) (tabl_all fun i hi => by
    have := psum_bd (i := f.length) (hb i hi) (Nat.le_refl _)
    rwa [(psum_all f g i).1] at this)
  refine ⟨S2, v2, r2, g2, fun k => ?_⟩
  unfold F35x G35
  rw [C35_eq, p_head (a := nn n) (w3 := .b false) (w4 := w4) (w5 := w5) (w6 := w6) (w7 := w7) (w8 := w8) (w9 := w9) (o := w10) (r := v2) (S1 := S1) (S2 := S2) (hL := fun kn kx kr => ?_) (h2 := a2)]
  obtain ⟨kx', e1, e2⟩ := block_loop0 (BO35 F38q (cBlock 2 (cLoop (BI35 F84q F85q)))) kn kx kr
  rw [e2]
  refine (a1 kx' kr .sn).trans ?_
  rw [e1]
/-- the text of Mul -/
def mulT : Gn 2 := fun a b S k => rdQ a S (fun n P N m => rdQ b S (fun n' P' N' m' => Bool.rec (motive := fun _ => R) (F35x a b S k)
  (fN (Nat.add (Nat.mul P P') (Nat.mul N N')) (fun A => fN (Nat.add (Nat.mul P N') (Nat.mul N P')) (fun B => fN (Nat.sub (Nat.add n n') 1) (fun w => outQ A B w S k))))
  (Bool.and (Bool.and (Bool.and (Nat.blt m 8) (Nat.blt m' 8)) (Bool.and (Nat.blt (Nat.mul m m') 8) (Nat.blt 0 (Nat.add n n')))) (Bool.and (Nat.ble n 100000) (Nat.ble n' 100000)))))
theorem K35t : FOK Tryz.prog 35 (un 2 mulT) := by
  intro vs S k out ok h
  match vs, h with
  | [], h => exact Q.no h
  | [_], h => exact Q.no h
  | _ :: _ :: _ :: _, h => exact Q.no h
  | [a, b], h =>
    have slow : F35x a b S k = some out → _ := fun h => K35x [a, b] S k out ok h
    obtain ⟨f, m, f1, f2, f3, h⟩ := rdQ_some (show mulT a b S k = some out from h)
    obtain ⟨g, m', g1, g2, g3, h⟩ := rdQ_some h
    cases hc : Bool.and (Bool.and (Bool.and (Nat.blt m 8) (Nat.blt m' 8)) (Bool.and (Nat.blt (Nat.mul m m') 8) (Nat.blt 0 (Nat.add f.length g.length)))) (Bool.and (Nat.ble f.length 100000) (Nat.ble g.length 100000)) with
    | false => rw [hc] at h; exact slow h
    | true =>
      rw [hc] at h
      simp only [Bool.and_eq_true] at hc
      have hm := lt_of_blt hc.1.1.1
      have hm' := lt_of_blt hc.1.1.2
      have hmm : m * m' < 8 := lt_of_blt hc.1.2.1
      have hpos : 0 < f.length + g.length := lt_of_blt hc.1.2.2
      have lf := Nat.le_of_ble_eq_true hc.2.1
      have lg := Nat.le_of_ble_eq_true hc.2.2
      have h : fN (pz f * pz g + nz f * nz g) (fun A => fN (pz f * nz g + nz f * pz g) (fun B => fN (f.length + g.length - 1) (fun w => outQ A B w S k))) = some out := h
      rw [fN_eq, fN_eq, fN_eq] at h
      have dg := fun i => mul_dig f3 g3 (show m < 64 by omega) (show m' < 64 by omega) lf i
      obtain ⟨hd, h⟩ := outQ_some (D := tabl (cz f g) (f.length + g.length - 1)) (tabl_len _ _).symm (fun i hi => by
        rw [tabl_len] at hi
        rw [tabl_gz _ _ _ hi]
        exact (dg i).1) h
      obtain ⟨S', v', r1, r2, r3⟩ := mul_run (n := f.length + g.length - 1) ok.lock (Run.start ok) f1.lock g1.lock (by omega) (by omega) (fun z hz => by have := f3 z hz; omega) (fun z hz => by have := g3 z hz; omega) (fun x hx y hy => by
        rw [Int.natAbs_mul]
        exact Nat.lt_of_le_of_lt (Nat.mul_le_mul (f3 x hx) (g3 y hy)) hmm) (by omega) (fun i hi => by
        have h1 := hd i (by rw [tabl_len]; exact hi)
        rw [(dg i).2] at h1; exact h1)
      exact finish K35x ok r1 r2 r3 (by simp only [okL, f2, g2, Bool.and_self]) h
end
end Go.AM

/- cyclotomic.gcd as a text; remainders; errors of conductors. -/
namespace Go.AM
open Go.Proofs
open Go.AM.Q
set_option linter.unusedVariables false
set_option linter.unusedSimpArgs false
noncomputable section
variable {S0' S : St} {out : V × St}
def B109 : CS 5 := (cSeq (cSeq (cReg fun kn v0 v1 v2 v3 v4 S => pGtr v0 (.i .i64 0) (fun a0 => kn v0 v1 v2 a0 v4 S)) (cCond (fun x y v0 v1 v2 v3 v4 S => pIf v3 (x v0 v1 v2 v3 v4 S) (y v0 v1 v2 v3 v4 S)) cSkip (cExit 0))) (cBlock 1 (cReg fun kn v0 v1 v2 v3 v4 S => pRem v1 v0 (fun a0 => kn a0 v0 v2 v3 v4 S))))
def HT109 (Lp : CS 5) : CS 5 := (cSeq (cReg fun kn v0 v1 v2 v3 v4 S => kn v0 v1 v2 v3 (.i .i64 0) S) (cSeq (cReg fun kn v0 v1 v2 v3 v4 S => pRem v0 v1 (fun a0 => kn a0 v1 v2 v3 v4 S)) (cSeq (cSeq (cReg fun kn v0 v1 v2 v3 v4 S => pLss v0 (.i .i64 0) (fun a0 => kn v0 v1 a0 v3 v4 S)) (cCond (fun x y v0 v1 v2 v3 v4 S => pIf v2 (x v0 v1 v2 v3 v4 S) (y v0 v1 v2 v3 v4 S)) (cReg fun kn v0 v1 v2 v3 v4 S => pAdd v0 v1 (fun a0 => kn a0 v1 v2 v3 v4 S)) cSkip)) (cSeq Lp (cSeq (cReg fun kn v0 v1 v2 v3 v4 S => kn v0 v1 v2 v3 v1 S) cRet)))))
theorem C109_eq : C109 = HT109 (cBlock 0 (cLoop B109)) := by rfl
section
variable (K : Fn 5) (kx : Nat → Fn 5) (kr : Fn 5) (v0 v1 v2 v3 v4 a b w3 r : V) (S : St)
theorem g_end (h1 : ∀ c, pGtr v0 (nn 0) c = c (.b false)) : B109 K kx kr v0 v1 v2 v3 v4 S = kx 0 v0 v1 v2 (.b false) v4 S := by
  simp only [B109, cSeq, cReg, cCond, cBlock, cSkip, cExit, cRet, h1, ifF]
theorem g_go (h1 : ∀ c, pGtr v0 (nn 0) c = c (.b true)) (h2 : ∀ c, pRem v1 v0 c = c a) : B109 K kx kr v0 v1 v2 v3 v4 S = K a v0 v2 (.b true) v4 S := by
  simp only [B109, cSeq, cReg, cCond, cBlock, cSkip, cExit, cRet, h1, h2, ifT]
theorem g_head (Lp : CS 5) (h1 : ∀ c, pRem v0 v1 c = c a) (h2 : ∀ c, pLss a (nn 0) c = c (.b false)) (hL : ∀ (kn : Fn 5) (kx : Nat → Fn 5) (kr : Fn 5), Lp kn kx kr a v1 (.b false) v3 (nn 0) S = kn b r (.b false) w3 (nn 0) S) :
    HT109 Lp K kx kr v0 v1 v2 v3 v4 S = kr b r (.b false) w3 r S := by
  simp only [HT109, cSeq, cReg, cCond, cBlock, cSkip, cExit, cRet, h1, h2, hL, ifF]
end
theorem gcd_loop (kx : Nat → Fn 5) (kr : Fn 5) (v2 v4 : V) : ∀ (N a n : Nat) (v3 : V), a < N → a < 1000000 → n < 1000000 → loopN B109 kx kr N (nn a) (nn n) v2 v3 v4 S = kx 0 (nn 0) (nn (Nat.gcd a n)) v2 (.b false) v4 S
  | 0, a, n, v3, h, _, _ => by omega
  | N + 1, 0, n, v3, h, _, _ => by
    rw [loopN_succ, g_end (h1 := fun c => by rw [gtr_n (by omega) (by omega)]; rfl), Nat.gcd_zero_left]
  | N + 1, a + 1, n, v3, h, h1, h2 => by
    rw [loopN_succ, g_go (h1 := fun c => by rw [gtr_n (by omega) (by omega), decide_eq_true (by omega)]) (h2 := fun c => rem_n (by omega) (by omega) (by omega) c)]
    have hlt : n % (a + 1) < a + 1 := Nat.mod_lt _ (by omega)
    rw [gcd_loop kx kr v2 v4 N (n % (a + 1)) (a + 1) _ (by omega) (by omega) (by omega)]
    rw [← Nat.gcd_rec]
theorem gcd_run {a n : Nat} (ha : a < 1000000) (h0 : 0 < n) (hn : n < 900000) (S : St) (k : Cont) : F109 (nn a) (nn n) S k = k (nn (Nat.gcd a n)) S := by
  have hlt : a % n < n := Nat.mod_lt _ h0
  unfold F109 G109
  rw [C109_eq, g_head (a := nn (a % n)) (b := nn 0) (r := nn (Nat.gcd (a % n) n)) (w3 := .b false) (h1 := fun c => rem_n (by omega) h0 (by omega) c) (h2 := fun c => by rw [lss_n (by omega) (by omega)]; rfl) (hL := fun kn kx kr => ?_)]
  · rw [Nat.gcd_comm a n, Nat.gcd_rec n a]
  · obtain ⟨kx', e1, e2⟩ := block_loop0 B109 kn kx kr
    rw [e2, gcd_loop kx' kr _ _ 1000000 (a % n) n _ (by omega) (by omega) (by omega), e1]
/-- the text of gcd -/
def gcdT : Gn 2 := fun a n S k => vI a (fun kd x => vI n (fun kd' y => Bool.rec (motive := fun _ => R) (F109 a n S k) (fN (Nat.gcd x y) (fun g => k (nn g) S)) (Bool.and (Bool.and (Nat.beq (kNo kd) 3) (Nat.beq (kNo kd') 3)) (Bool.and (Nat.blt x 100000) (Bool.and (Nat.blt 0 y) (Nat.blt y 100000))))))
theorem K109t : FOK Tryz.prog 109 (un 2 gcdT) := by
  intro vs S k out ok h
  match vs, h with
  | [], h => exact Q.no h
  | [_], h => exact Q.no h
  | _ :: _ :: _ :: _, h => exact Q.no h
  | [a, n], h =>
    have slow : F109 a n S k = some out → _ := fun h => K109 [a, n] S k out ok h
    obtain ⟨kd, x, rfl, h⟩ := vI_some (show gcdT a n S k = some out from h)
    obtain ⟨kd', y, rfl, h⟩ := vI_some h
    cases hc : Bool.and (Bool.and (Nat.beq (kNo kd) 3) (Nat.beq (kNo kd') 3)) (Bool.and (Nat.blt x 100000) (Bool.and (Nat.blt 0 y) (Nat.blt y 100000))) with
    | false => rw [hc] at h; exact slow h
    | true =>
      rw [hc] at h
      simp only [Bool.and_eq_true] at hc
      have := Q.kNo_i64 hc.1.1
      subst this
      have := Q.kNo_i64 hc.1.2
      subst this
      have h : fN (Nat.gcd x y) (fun g => k (nn g) S) = some out := h
      rw [fN_eq] at h
      have hx := lt_of_blt hc.2.1
      have h0 := lt_of_blt hc.2.2.1
      have hy := lt_of_blt hc.2.2.2
      exact slow ((gcd_run (by omega) h0 (by omega) S k).trans h)
/- remainders -/
/-- the remainder of a machine integer -/
def rs (n k : Nat) : Nat := if k < 9223372036854775808 then k % n else if (18446744073709551616 - k) % n = 0 then 0 else n - (18446744073709551616 - k) % n
theorem rs_lt {n : Nat} (k : Nat) (h0 : 0 < n) : rs n k < n := by
  unfold rs
  split
  · exact Nat.mod_lt _ h0
  · split <;> omega
theorem remI_neg {d p : Nat} (h0 : 0 < d) (hd : d ≤ 9223372036854775808) (hp : p < 9223372036854775808) : remI .i64 (18446744073709551616 - d) p = (18446744073709551616 - d % p) % 18446744073709551616 := by
  have n1 : neg .i64 (18446744073709551616 - d) = true := by
    show Nat.ble 9223372036854775808 (18446744073709551616 - d) = true
    rw [ble_eq]; exact decide_eq_true (by omega)
  unfold remI
  rw [n1, neg_n hp]
  show (18446744073709551616 - (18446744073709551616 - (18446744073709551616 - d)) % p) % 18446744073709551616 = _
  rw [show 18446744073709551616 - (18446744073709551616 - d) = d by omega]
theorem neg_rem {k n : Nat} (hk : k < 18446744073709551616) (h1 : 9223372036854775808 ≤ k) (h0 : 0 < n) (hn : n < 1000000) (c : V → R) : pRem (nn k) (nn n) c = c (nn ((18446744073709551616 - (18446744073709551616 - k) % n) % 18446744073709551616)) := by
  obtain ⟨n, rfl⟩ : ∃ x, n = x + 1 := ⟨n - 1, by omega⟩
  rw [pRem_i]
  have := remI_neg (d := 18446744073709551616 - k) (p := n + 1) (by omega) (by omega) (by omega)
  rw [show 18446744073709551616 - (18446744073709551616 - k) = k by omega] at this
  rw [this]
theorem add_wrap {a b : Nat} (c : V → R) : pAdd (nn a) (nn b) c = c (nn ((a + b) % 18446744073709551616)) := pAdd_i .i64 a b c
theorem lss_neg {d : Nat} (h0 : 0 < d) (hd : d ≤ 9223372036854775808) (c : V → R) : pLss (.i .i64 (18446744073709551616 - d)) (nn 0) c = c (.b true) := by
  rw [pLss_i, sh_neg h0 hd, sh_lt (by omega), blt_eq, decide_eq_true (by omega)]
section
variable (K : Fn 4) (kx : Nat → Fn 4) (kr : Fn 4) (v0 v1 v2 v3 a b : V) (S : St)
theorem rd_pos (h1 : ∀ c, pRem v0 v1 c = c a) (h2 : ∀ c, pLss a (nn 0) c = c (.b false)) : C94 K kx kr v0 v1 v2 v3 S = kr a v1 (.b false) a S := by
  simp only [C94, cSeq, cReg, cCond, cBlock, cSkip, cExit, cRet, h1, h2, ifF]
theorem rd_neg (h1 : ∀ c, pRem v0 v1 c = c a) (h2 : ∀ c, pLss a (nn 0) c = c (.b true)) (h3 : ∀ c, pAdd a v1 c = c b) : C94 K kx kr v0 v1 v2 v3 S = kr a v1 (.b true) b S := by
  simp only [C94, cSeq, cReg, cCond, cBlock, cSkip, cExit, cRet, h1, h2, h3, ifT]
end
theorem res94 {k n : Nat} (hk : k < 18446744073709551616) (h0 : 0 < n) (hn : n < 1000000) (S : St) (c : Cont) : F94 (nn k) (nn n) S c = c (nn (rs n k)) S := by
  unfold F94 G94
  have hm : (18446744073709551616 - k) % n < n := Nat.mod_lt _ h0
  by_cases h1 : k < 9223372036854775808
  · have hlt : k % n < n := Nat.mod_lt _ h0
    rw [rd_pos (a := nn (k % n)) (h1 := fun c => rem_n h1 h0 (by omega) c) (h2 := fun c => by rw [lss_n (by omega) (by omega)]; rfl)]
    unfold rs; rw [if_pos h1]
  · by_cases h2 : (18446744073709551616 - k) % n = 0
    · have e : (18446744073709551616 - (18446744073709551616 - k) % n) % 18446744073709551616 = 0 := by rw [h2, Nat.sub_zero, Nat.mod_self]
      rw [rd_pos (a := nn 0) (h1 := fun c => by rw [neg_rem hk (by omega) h0 hn, e]) (h2 := fun c => by rw [lss_n (by omega) (by omega)]; rfl)]
      unfold rs; rw [if_neg h1, if_pos h2]
    · have e : (18446744073709551616 - (18446744073709551616 - k) % n) % 18446744073709551616 = 18446744073709551616 - (18446744073709551616 - k) % n := Nat.mod_eq_of_lt (by omega)
      rw [rd_neg (a := nn (18446744073709551616 - (18446744073709551616 - k) % n)) (b := nn (n - (18446744073709551616 - k) % n)) (h1 := fun c => by rw [neg_rem hk (by omega) h0 hn, e]) (h2 := fun c => lss_neg (by omega) (by omega) c) (h3 := fun c => by rw [add_wrap, show 18446744073709551616 - (18446744073709551616 - k) % n + n = (n - (18446744073709551616 - k) % n) + 18446744073709551616 by omega, Nat.add_mod_right, Nat.mod_eq_of_lt (by omega)])]
      unfold rs; rw [if_neg h1, if_neg h2]
section
variable (K : Fn 3) (kx : Nat → Fn 3) (kr : Fn 3) (v0 v1 v2 a b d : V) (S : St)
theorem md_all (h1 : ∀ c, pRem v0 v1 c = c a) (h2 : ∀ c, pAdd a v1 c = c b) (h3 : ∀ c, pRem b v1 c = c d) : C57 K kx kr v0 v1 v2 S = kr v0 v1 d S := by
  simp only [C57, cSeq, cReg, cCond, cBlock, cSkip, cExit, cRet, h1, h2, h3]
end
theorem res57 {k n : Nat} (hk : k < 18446744073709551616) (h0 : 0 < n) (hn : n < 1000000) (S : St) (c : Cont) : F57 (nn k) (nn n) S c = c (nn (rs n k)) S := by
  unfold F57 G57
  have hm : (18446744073709551616 - k) % n < n := Nat.mod_lt _ h0
  by_cases h1 : k < 9223372036854775808
  · have hlt : k % n < n := Nat.mod_lt _ h0
    rw [md_all (a := nn (k % n)) (b := nn (k % n + n)) (d := nn ((k % n + n) % n)) (h1 := fun c => rem_n h1 h0 (by omega) c) (h2 := fun c => add_n (by omega) c) (h3 := fun c => rem_n (by omega) h0 (by omega) c)]
    unfold rs; rw [if_pos h1, Nat.add_mod_right, Nat.mod_mod]
  · by_cases h2 : (18446744073709551616 - k) % n = 0
    · have e : (18446744073709551616 - (18446744073709551616 - k) % n) % 18446744073709551616 = 0 := by rw [h2, Nat.sub_zero, Nat.mod_self]
      rw [md_all (a := nn 0) (b := nn (0 + n)) (d := nn ((0 + n) % n)) (h1 := fun c => by rw [neg_rem hk (by omega) h0 hn, e]) (h2 := fun c => add_n (by omega) c) (h3 := fun c => rem_n (by omega) h0 (by omega) c)]
      unfold rs; rw [if_neg h1, if_pos h2, Nat.zero_add, Nat.mod_self]
    · have e : (18446744073709551616 - (18446744073709551616 - k) % n) % 18446744073709551616 = 18446744073709551616 - (18446744073709551616 - k) % n := Nat.mod_eq_of_lt (by omega)
      rw [md_all (a := nn (18446744073709551616 - (18446744073709551616 - k) % n)) (b := nn (n - (18446744073709551616 - k) % n)) (d := nn ((n - (18446744073709551616 - k) % n) % n)) (h1 := fun c => by rw [neg_rem hk (by omega) h0 hn, e]) (h2 := fun c => by rw [add_wrap, show 18446744073709551616 - (18446744073709551616 - k) % n + n = (n - (18446744073709551616 - k) % n) + 18446744073709551616 by omega, Nat.add_mod_right, Nat.mod_eq_of_lt (by omega)]) (h3 := fun c => rem_n (by omega) h0 (by omega) c)]
      unfold rs; rw [if_neg h1, if_neg h2, Nat.mod_eq_of_lt (by omega)]
/- errors -/
def Bad (n : Nat) : Prop := n < 18446744073709551616 ∧ ¬ (1 ≤ n ∧ n ≤ 256)
theorem bad_cases {n : Nat} (h : Bad n) : (∀ c, pLss (nn n) (nn 1) c = c (.b true)) ∨ (∀ c, pLss (nn n) (nn 1) c = c (.b false)) ∧ ∀ c, pGtr (nn n) (nn 256) c = c (.b true) := by
  obtain ⟨h1, h2⟩ := h
  by_cases h3 : n < 9223372036854775808
  · by_cases h4 : n = 0
    · subst h4; exact .inl fun c => by rw [lss_n (by omega) (by omega)]; rfl
    · exact .inr ⟨fun c => by rw [lss_n (by omega) (by omega), decide_eq_false (by omega)], fun c => by rw [gtr_n (by omega) (by omega), decide_eq_true (by omega)]⟩
  · refine .inl fun c => ?_
    have := sh_neg (d := 18446744073709551616 - n) (by omega) (by omega)
    rw [show 18446744073709551616 - (18446744073709551616 - n) = n by omega] at this
    rw [pLss_i, this, sh_lt (by omega), blt_eq, decide_eq_true (by omega)]
section
variable (f34 : Gn 1) (v0 v1 : V) (S : St) (k : Cont)
theorem cond_err1 (h1 : ∀ c, pLss v0 (nn 1) c = c (.b true)) : G15 (C15 f34) v0 v1 S k = k (nn 3) S := by
  simp only [G15, C15, cSeq, cReg, cCond, cBlock, cSkip, cExit, cRet, h1, pGd_tf, pGd_tt, pGd_ff, pGd_ft, pPick_t, pPick_f, ifT, ifF]
theorem cond_err2 (h1 : ∀ c, pLss v0 (nn 1) c = c (.b false)) (h2 : ∀ c, pGtr v0 (nn 256) c = c (.b true)) : G15 (C15 f34) v0 v1 S k = k (nn 3) S := by
  simp only [G15, C15, cSeq, cReg, cCond, cBlock, cSkip, cExit, cRet, h1, h2, pGd_tf, pGd_tt, pGd_ff, pGd_ft, pPick_t, pPick_f, ifT, ifF]
end
theorem cond_err (f34 : Gn 1) (v1 : V) (S : St) (k : Cont) {n : Nat} (h : Bad n) : G15 (C15 f34) (nn n) v1 S k = k (nn 3) S := by
  rcases bad_cases h with h1 | ⟨h1, h2⟩
  · exact cond_err1 f34 _ v1 S k h1
  · exact cond_err2 f34 _ v1 S k h1 h2
def B64 : CS 15 := (cSeq (cReg fun kn v0 v1 v2 v3 v4 v5 v6 v7 v8 v9 v10 v11 v12 v13 v14 S => pLss v2 v3 (fun a0 => kn v0 v1 v2 v3 a0 v5 v6 v7 v8 v9 v10 v11 v12 v13 v14 S)) (cSeq (cCond (fun x y v0 v1 v2 v3 v4 v5 v6 v7 v8 v9 v10 v11 v12 v13 v14 S => pIf v4 (x v0 v1 v2 v3 v4 v5 v6 v7 v8 v9 v10 v11 v12 v13 v14 S) (y v0 v1 v2 v3 v4 v5 v6 v7 v8 v9 v10 v11 v12 v13 v14 S)) cSkip (cExit 0)) (cSeq (cBlock 1 (cSeq (cReg fun kn v0 v1 v2 v3 v4 v5 v6 v7 v8 v9 v10 v11 v12 v13 v14 S => pIdx 1 v5 v2 (fun a0 => pLd a0 S (fun a1 => kn v0 v1 v2 v3 v4 v5 a1 v7 v8 v9 v10 v11 v12 v13 v14 S))) (cSeq (cReg fun kn v0 v1 v2 v3 v4 v5 v6 v7 v8 v9 v10 v11 v12 v13 v14 S => pLss v6 (.i .i64 1) (fun a0 => pGd a0 false (fun c => c v6 S) S (fun a1 S => pGd a0 false (fun c => pGtr a1 (.i .i64 256) (fun v => c v S)) S (fun a2 S => pPick a0 (.b true) a2 (fun a3 => kn v0 v1 v2 v3 v4 v5 v6 a3 v8 v9 v10 v11 v12 v13 v14 S))))) (cCond (fun x y v0 v1 v2 v3 v4 v5 v6 v7 v8 v9 v10 v11 v12 v13 v14 S => pIf v7 (x v0 v1 v2 v3 v4 v5 v6 v7 v8 v9 v10 v11 v12 v13 v14 S) (y v0 v1 v2 v3 v4 v5 v6 v7 v8 v9 v10 v11 v12 v13 v14 S)) (cSeq (cReg fun kn v0 v1 v2 v3 v4 v5 v6 v7 v8 v9 v10 v11 v12 v13 v14 S => kn v0 v1 v2 v3 v4 v5 v6 v7 v8 v9 v10 v11 v12 v13 (.i .i64 3) S) cRet) cSkip)))) (cReg fun kn v0 v1 v2 v3 v4 v5 v6 v7 v8 v9 v10 v11 v12 v13 v14 S => pAdd v2 (.i .i64 1) (fun a0 => kn v0 v1 a0 v3 v4 v5 v6 v7 v8 v9 v10 v11 v12 v13 v14 S)))))
def B64b (f67 : Gn 1) : CS 15 := (cSeq (cReg fun kn v0 v1 v2 v3 v4 v5 v6 v7 v8 v9 v10 v11 v12 v13 v14 S => pLss v8 v9 (fun a0 => kn v0 v1 v2 v3 v4 v5 v6 v7 v8 v9 a0 v11 v12 v13 v14 S)) (cSeq (cCond (fun x y v0 v1 v2 v3 v4 v5 v6 v7 v8 v9 v10 v11 v12 v13 v14 S => pIf v10 (x v0 v1 v2 v3 v4 v5 v6 v7 v8 v9 v10 v11 v12 v13 v14 S) (y v0 v1 v2 v3 v4 v5 v6 v7 v8 v9 v10 v11 v12 v13 v14 S)) cSkip (cExit 2)) (cSeq (cBlock 3 (cSeq (cReg fun kn v0 v1 v2 v3 v4 v5 v6 v7 v8 v9 v10 v11 v12 v13 v14 S => pIdx 1 v11 v8 (fun a0 => pLd a0 S (fun a1 => kn v0 v1 v2 v3 v4 v5 v6 v7 v8 v9 v10 v11 a1 v13 v14 S))) (cSeq (cReg fun kn v0 v1 v2 v3 v4 v5 v6 v7 v8 v9 v10 v11 v12 v13 v14 S => f67 v12 S (fun a0 S => pLen a0 (fun a1 => pGtr a1 v0 (fun a2 => kn v0 v1 v2 v3 v4 v5 v6 v7 v8 v9 v10 v11 v12 a2 v14 S)))) (cCond (fun x y v0 v1 v2 v3 v4 v5 v6 v7 v8 v9 v10 v11 v12 v13 v14 S => pIf v13 (x v0 v1 v2 v3 v4 v5 v6 v7 v8 v9 v10 v11 v12 v13 v14 S) (y v0 v1 v2 v3 v4 v5 v6 v7 v8 v9 v10 v11 v12 v13 v14 S)) (cSeq (cReg fun kn v0 v1 v2 v3 v4 v5 v6 v7 v8 v9 v10 v11 v12 v13 v14 S => kn v0 v1 v2 v3 v4 v5 v6 v7 v8 v9 v10 v11 v12 v13 (.i .i64 4) S) cRet) cSkip)))) (cReg fun kn v0 v1 v2 v3 v4 v5 v6 v7 v8 v9 v10 v11 v12 v13 v14 S => pAdd v8 (.i .i64 1) (fun a0 => kn v0 v1 v2 v3 v4 v5 v6 v7 a0 v9 v10 v11 v12 v13 v14 S)))))
def HT64 (Lp Lq : CS 15) : CS 15 := (cSeq (cReg fun kn v0 v1 v2 v3 v4 v5 v6 v7 v8 v9 v10 v11 v12 v13 v14 S => kn v0 v1 v2 v3 v4 v5 v6 v7 v8 v9 v10 v11 v12 v13 (.i .i64 0) S) (cSeq (cSeq (cReg fun kn v0 v1 v2 v3 v4 v5 v6 v7 v8 v9 v10 v11 v12 v13 v14 S => pLen v1 (fun a0 => kn v0 v1 (.i .i64 0) a0 v4 v1 v6 v7 v8 v9 v10 v11 v12 v13 v14 S)) Lp) (cSeq (cSeq (cReg fun kn v0 v1 v2 v3 v4 v5 v6 v7 v8 v9 v10 v11 v12 v13 v14 S => pLen v1 (fun a0 => kn v0 v1 v2 v3 v4 v5 v6 v7 (.i .i64 0) a0 v10 v1 v12 v13 v14 S)) Lq) (cSeq (cReg fun kn v0 v1 v2 v3 v4 v5 v6 v7 v8 v9 v10 v11 v12 v13 v14 S => kn v0 v1 v2 v3 v4 v5 v6 v7 v8 v9 v10 v11 v12 v13 (.i .i64 0) S) cRet))))
theorem C64_eq (f67 : Gn 1) : C64 f67 = HT64 (cBlock 0 (cLoop B64)) (cBlock 2 (cLoop (B64b f67))) := by rfl
theorem loop_first {n : Nat} (c : CS n) (kn : Fn n) (kx : Nat → Fn n) (kr : Fn n) : ∃ (K : Fn n) (kx' : Nat → Fn n), cBlock 0 (cLoop c) kn kx kr = c K kx' kr := by
  obtain ⟨kx', e1, e2⟩ := block_loop0 c kn kx kr
  have key : ∀ N : Nat, 0 < N → ∃ K, loopN c kx' kr N = c K kx' kr := fun N h => by
    cases N with
    | zero => omega
    | succ N => exact ⟨_, loopN_succ c kx' kr N⟩
  obtain ⟨K, hK⟩ := key 1000000 (by omega)
  exact ⟨K, kx', by rw [e2]; exact hK⟩
section
variable (K : Fn 15) (kx : Nat → Fn 15) (kr : Fn 15) (v0 v1 v2 v3 v4 v5 v6 v7 v8 v9 v10 v11 v12 v13 v14 a q x : V) (S : St)
theorem b64_err1 (h1 : ∀ c, pLss v2 v3 c = c (.b true)) (h2 : ∀ c, pIdx 1 v5 v2 c = c q) (h3 : ∀ c, pLd q S c = c x) (g1 : ∀ c, pLss x (nn 1) c = c (.b true)) : B64 K kx kr v0 v1 v2 v3 v4 v5 v6 v7 v8 v9 v10 v11 v12 v13 v14 S = kr v0 v1 v2 v3 (.b true) v5 x (.b true) v8 v9 v10 v11 v12 v13 (nn 3) S := by
  simp only [B64, cSeq, cReg, cCond, cBlock, cSkip, cExit, cRet, h1, h2, h3, g1, pGd_tf, pGd_tt, pGd_ff, pGd_ft, pPick_t, pPick_f, ifT, ifF]
theorem b64_err2 (h1 : ∀ c, pLss v2 v3 c = c (.b true)) (h2 : ∀ c, pIdx 1 v5 v2 c = c q) (h3 : ∀ c, pLd q S c = c x) (g1 : ∀ c, pLss x (nn 1) c = c (.b false)) (g2 : ∀ c, pGtr x (nn 256) c = c (.b true)) : B64 K kx kr v0 v1 v2 v3 v4 v5 v6 v7 v8 v9 v10 v11 v12 v13 v14 S = kr v0 v1 v2 v3 (.b true) v5 x (.b true) v8 v9 v10 v11 v12 v13 (nn 3) S := by
  simp only [B64, cSeq, cReg, cCond, cBlock, cSkip, cExit, cRet, h1, h2, h3, g1, g2, pGd_tf, pGd_tt, pGd_ff, pGd_ft, pPick_t, pPick_f, ifT, ifF]
theorem h64_err (Lp Lq : CS 15) (y : V) (h1 : ∀ c, pLen v1 c = c a) (hL : ∀ (kn : Fn 15) (kx : Nat → Fn 15) (kr : Fn 15), Lp kn kx kr v0 v1 (nn 0) a v4 v1 v6 v7 v8 v9 v10 v11 v12 v13 (nn 0) S = kr v0 v1 (nn 0) a (.b true) v1 x (.b true) v8 v9 v10 v11 v12 v13 (nn 3) S) :
    HT64 Lp Lq K kx kr v0 v1 v2 v3 v4 v5 v6 v7 v8 v9 v10 v11 v12 v13 v14 S = kr v0 v1 (nn 0) a (.b true) v1 x (.b true) v8 v9 v10 v11 v12 v13 (nn 3) S := by
  simp only [HT64, cSeq, cReg, cCond, cBlock, cSkip, cExit, cRet, h1, hL]
end
theorem err64v (f67 : Gn 1) {x : V} (hx : (∀ c, pLss x (nn 1) c = c (.b true)) ∨ (∀ c, pLss x (nn 1) c = c (.b false)) ∧ ∀ c, pGtr x (nn 256) c = c (.b true)) (m l q a : V) (S : St) (k : Cont)
    (h1 : ∀ c, pLen l c = c a) (h2 : ∀ c, pLss (nn 0) a c = c (.b true)) (h3 : ∀ c, pIdx 1 l (nn 0) c = c q) (h4 : ∀ c, pLd q S c = c x) : G64 (C64 f67) m l S k = k (nn 3) S := by
  unfold G64
  rw [C64_eq, h64_err (a := a) (x := x) (y := m) (h1 := h1) (hL := fun kn kx kr => ?_)]
  obtain ⟨K, kx', e⟩ := loop_first B64 kn kx kr
  rw [e]
  rcases hx with g1 | ⟨g1, g2⟩
  · exact b64_err1 (x := x) (q := q) (h1 := h2) (h2 := h3) (h3 := h4) (g1 := g1) ..
  · exact b64_err2 (x := x) (q := q) (h1 := h2) (h2 := h3) (h3 := h4) (g1 := g1) (g2 := g2) ..
theorem len1 (id : Pos) (c : V → R) : pLen (.sl id 0 1 1) c = c (nn 1) := by rfl
theorem idx1 (id : Pos) (c : V → R) : pIdx 1 (.sl id 0 1 1) (nn 0) c = c (.p id 0) := by rfl
theorem err64 (f67 : Gn 1) {n : Nat} (h : Bad n) (m : V) (S : St) (k : Cont) : G64 (C64 f67) m (.sl S.nx 0 1 1) (S.new [nn n]) k = k (nn 3) (S.new [nn n]) :=
  err64v f67 (bad_cases h) m _ (.p S.nx 0) (nn 1) _ k (fun c => len1 _ c) (fun c => by rw [lss_n (by omega) (by omega)]; rfl) (fun c => idx1 _ c) (fun c => pLd_eq (St.new_get _ _) rfl c)
end
end Go.AM
