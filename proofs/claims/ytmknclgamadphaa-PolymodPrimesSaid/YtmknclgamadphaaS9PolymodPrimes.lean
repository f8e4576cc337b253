/- What the program's test of irreducibility is; the bytes of a prime. -/
import Derived.Test.YtmknclgamadphaaA9PolymodPrimes
import Derived.Test.YtmknclgamadphaaS8PolymodPrimes
namespace Go.Proofs.Ytmknclgamadphaa.MPolymodPrimes
open Go.RowKit Go.Proofs.Ytmknclgamadphaa.PPolymodPrimes Go.Proofs.YtmknclgamadphaaW.PrintWords Go.Proofs.YtmknclgamadphaaW.PrintLast Go.Proofs.YtmknclgamadphaaW.PrintMore
set_option linter.unusedVariables false
set_option linter.unusedSimpArgs false
theorem Ev.uniq {α : Type} {g : Nat → Option α} {r s : α} (h : Ev g r) (k : Ev g s) : r = s := by
  obtain ⟨a, ha⟩ := h
  obtain ⟨b, hb⟩ := k
  have h1 := ha (max a b) (by omega)
  rw [hb (max a b) (by omega)] at h1
  exact (Option.some.inj h1).symm
/-! ### bytes -/
theorem byte_nat (n : Nat) (h : n < 256) : (UInt8.ofNat n).toNat = n := by
  rw [UInt8.toNat_ofNat']; exact Nat.mod_eq_of_lt h
theorem two_bytes {a b : Nat} (ha : a < 256) (hb : b < 256) : (strOfNums [(a : Int), (b : Int)]).size = 2 ∧ bt (strOfNums [(a : Int), (b : Int)]) 0 = (a : Int) ∧ bt (strOfNums [(a : Int), (b : Int)]) 1 = (b : Int) := by
  refine ⟨rfl, ?_, ?_⟩
  · show (((UInt8.ofNat ((a : Int).toNat)).toNat : Nat) : Int) = _
    rw [Int.toNat_natCast, byte_nat a ha]
  · show (((UInt8.ofNat ((b : Int).toNat)).toNat : Nat) : Int) = _
    rw [Int.toNat_natCast, byte_nat b hb]
theorem one_byte {a : Nat} (ha : a < 256) : (strOfNums [(a : Int)]).size = 1 ∧ bt (strOfNums [(a : Int)]) 0 = (a : Int) := by
  refine ⟨rfl, ?_⟩
  show (((UInt8.ofNat ((a : Int).toNat)).toNat : Nat) : Int) = _
  rw [Int.toNat_natCast, byte_nat a ha]
theorem numB_two {a b : Nat} (ha : a < 256) (hb : b < 256) : numB (strOfNums [(a : Int), (b : Int)]) (strOfNums [(a : Int), (b : Int)]).size = a * 256 + b := by
  obtain ⟨h1, h2, h3⟩ := two_bytes ha hb
  rw [h1]
  show ((0 * 256 + (bt _ 0).toNat) * 256 + (bt _ 1).toNat) = _
  rw [h2, h3]
  omega
theorem numB_one {a : Nat} (ha : a < 256) : numB (strOfNums [(a : Int)]) (strOfNums [(a : Int)]).size = a := by
  obtain ⟨h1, h2⟩ := one_byte ha
  rw [h1]
  show 0 * 256 + (bt _ 0).toNat = _
  rw [h2]
  omega
theorem shr_nat64 (x : Nat) (j : Nat) (hj : j ≤ 64) : shr .u64 (x : Int) (j : Int) = ((x / 2 ^ j : Nat) : Int) := by
  unfold shr
  rw [Int.toNat_natCast, show min j (IntKind.bits .u64) = j from Nat.min_eq_left hj]
  norm_cast
section
variable {W : List Int} {i s : Nat} {x : Nat} {o : List Int} {r : ByteArray}
theorem pack_skip (hi : i < W.length) (hx : rd W (i : Int) = (x : Int)) (hs : s ≤ 24) (hb : x / 2 ^ s % 256 = 0) (h : Ev (fun k => galoisref01_pack.l1 k W [] (i : Int) ((s : Int) - 8)) r) : Ev (fun k => galoisref01_pack.l1 k W [] (i : Int) (s : Int)) r := by
  refine Ev.succ ?_
  simp only [galoisref01_pack.l1]
  rw [hx, shr_nat64 _ _ (by omega), w64 (x := (s : Int) - 8) (by omega) (by omega)]
  exact Ev.pos (by omega) (Ev.pos (by omega) (Ev.pos (by omega) (Ev.pos (by omega) (Ev.neg (by simp) (Ev.neg (by omega) h)))))
theorem pack_put (hi : i < W.length) (hx : rd W (i : Int) = (x : Int)) (hs : s ≤ 24) {b : Nat} (hb : x / 2 ^ s % 256 = b) (h0 : 0 < b ∨ 0 < o.length) (ho : o.length ≤ 100) (h : Ev (fun k => galoisref01_pack.l1 k W (o ++ [(b : Int)]) (i : Int) ((s : Int) - 8)) r) : Ev (fun k => galoisref01_pack.l1 k W o (i : Int) (s : Int)) r := by
  have e : ((x / 2 ^ s : Nat) : Int) % 256 = (b : Int) := by rw [← hb]; omega
  refine Ev.succ ?_
  simp only [galoisref01_pack.l1]
  rw [hx, shr_nat64 _ _ (by omega), e, w64 (x := (s : Int) - 8) (by omega) (by omega)]
  refine Ev.pos (by omega) (Ev.pos (by omega) (Ev.pos (by omega) (Ev.pos (by omega) ?_)))
  by_cases hl : (o.length : Int) > 0
  · exact Ev.pos hl (Ev.pos (by omega) h)
  · exact Ev.neg hl (Ev.pos (by omega) (Ev.pos (by omega) h))
theorem pack_row (h : Ev (fun k => galoisref01_pack.l0 k W o ((i : Int) - 1)) r) (hi : i ≤ 100) : Ev (fun k => galoisref01_pack.l1 k W o (i : Int) (-8)) r := by
  refine Ev.succ ?_
  simp only [galoisref01_pack.l1]
  rw [w64 (x := (i : Int) - 1) (by omega) (by omega)]
  exact Ev.neg (by omega) h
end
/-- A small number's bytes. -/
theorem FromInt_is {p : Int} (h0 : 0 < p) (h1 : p < 65536) : ∃ e, Ev (fun k => galoisref01_FromInt.f k p) e ∧ (0 < e.size → bt e 0 ≠ 0) ∧ e.size ≤ 2 ∧ (numB e e.size : Int) = p := by
  obtain ⟨n, rfl⟩ : ∃ n : Nat, p = (n : Int) := ⟨p.toNat, by omega⟩
  have hw : IntKind.u64.wrap ((n : Int)) = (n : Int) := by
    show (n : Int) % 18446744073709551616 = (n : Int)
    omega
  have hm : Go.bits .and .u64 (n : Int) 4294967295 = (n : Int) := by
    have := bits_mask .u64 64 (by decide) (fun m h2 h3 => by
      show m % 18446744073709551616 = m
      omega) 32 (by decide) (n : Int) (by omega) (by omega)
    rw [show (2 : Int) ^ 32 - 1 = 4294967295 from rfl] at this
    rw [this]
    omega
  have hd : (n : Int) / 4294967296 = 0 := by omega
  have r0 : rd [(n : Int), 0] ((0 : Nat) : Int) = ((n : Nat) : Int) := rfl
  have r1 : rd [(n : Int), 0] ((1 : Nat) : Int) = ((0 : Nat) : Int) := rfl
  have l2 : (0 : Nat) < [(n : Int), 0].length := by simp
  have l3 : (1 : Nat) < [(n : Int), 0].length := by simp
  -- the second word is zero
  have hall : ∀ r, Ev (fun k => galoisref01_pack.l1 k [(n : Int), 0] [] ((0 : Nat) : Int) ((8 : Nat) : Int)) r → Ev (fun k => galoisref01_FromInt.f k (n : Int)) r := fun r h => by
    have z0 : Ev (fun k => galoisref01_pack.l0 k [(n : Int), 0] [] (0 : Int)) r := by
      refine Ev.succ ?_
      simp only [galoisref01_pack.l0]
      exact Ev.pos (by omega) (pack_skip (s := 24) l2 r0 (by omega) (by omega) (pack_skip (s := 16) l2 r0 (by omega) (by omega) h))
    have z1 : Ev (fun k => galoisref01_pack.l0 k [(n : Int), 0] [] (1 : Int)) r := by
      refine Ev.succ ?_
      simp only [galoisref01_pack.l0]
      exact Ev.pos (by omega) (pack_skip (s := 24) (i := 1) l3 r1 (by omega) (by omega) (pack_skip (s := 16) (i := 1) l3 r1 (by omega) (by omega) (pack_skip (s := 8) (i := 1) l3 r1 (by omega) (by omega) (pack_skip (s := 0) (i := 1) l3 r1 (by omega) (by omega) (pack_row (i := 1) z0 (by omega))))))
    unfold galoisref01_FromInt.f galoisref01_Of.f galoisref01_pack.f
    rw [hw, hm, hd]
    refine Ev.bind (Ev.bind ?_ (Ev.con rfl)) (Ev.con rfl)
    rw [show wrap64 (([(n : Int), 0].length : Int) - 1) = 1 from by rw [w64 (by simp) (by simp)]; simp]
    exact z1
  have fin : ∀ o : List Int, Ev (fun k => galoisref01_pack.l1 k [(n : Int), 0] o ((0 : Nat) : Int) (-8)) (strOfNums o) := fun o => pack_row (i := 0) (by
    refine Ev.succ ?_
    simp only [galoisref01_pack.l0]
    exact Ev.neg (by omega) (Ev.con rfl)) (by omega)
  by_cases hn : n < 256
  · obtain ⟨b1, b2⟩ := one_byte hn
    refine ⟨_, hall _ (pack_skip (s := 8) l2 r0 (by omega) (by omega) (pack_put (s := 0) l2 r0 (by omega) (b := n) (by omega) (.inl (by omega)) (by simp) (fin _))), ?_, ?_, ?_⟩
    · intro _; rw [List.nil_append, b2]; omega
    · rw [List.nil_append, b1]; omega
    · rw [List.nil_append, numB_one hn]
  · obtain ⟨b1, b2, b3⟩ := two_bytes (a := n / 256) (b := n % 256) (by omega) (by omega)
    refine ⟨_, hall _ (pack_put (s := 8) l2 r0 (by omega) (b := n / 256) (by omega) (.inl (by omega)) (by simp) (pack_put (s := 0) l2 r0 (by omega) (b := n % 256) (by omega) (.inr (by simp)) (by simp) (fin _))), ?_, ?_, ?_⟩
    · intro _; rw [show ([] ++ [((n / 256 : Nat) : Int)] ++ [((n % 256 : Nat) : Int)]) = [((n / 256 : Nat) : Int), ((n % 256 : Nat) : Int)] from rfl, b2]; omega
    · rw [show ([] ++ [((n / 256 : Nat) : Int)] ++ [((n % 256 : Nat) : Int)]) = [((n / 256 : Nat) : Int), ((n % 256 : Nat) : Int)] from rfl, b1]; omega
    · rw [show ([] ++ [((n / 256 : Nat) : Int)] ++ [((n % 256 : Nat) : Int)]) = [((n / 256 : Nat) : Int), ((n % 256 : Nat) : Int)] from rfl, numB_two (by omega) (by omega)]; omega
/-! ### the test -/
theorem toF_x {p : Int} : toF p [0, 1] = Fx.mono p 1 1 := Fx.ext fun j => by
  rw [Fx.mono_c]
  show co [0, 1] j % p = _
  match j with
  | 0 => rw [co_zero, if_neg (by omega)]
  | 1 => rw [co_succ, co_zero, if_pos rfl]
  | j + 2 => rw [co_succ, co_succ, co_nil, if_neg (by omega)]
theorem val_x {p : Int} (hp : Mo p) : Val p [0, 1] := ⟨fun i => by
  have := hp.lo
  match i with
  | 0 => rw [co_zero]; omega
  | 1 => rw [co_succ, co_zero]; omega
  | i + 2 => rw [co_succ, co_succ, co_nil]; omega, rfl⟩
theorem id_cgsub {R : Type} [CR R] (a b c d : R) : a - c - (b - d) = (a - b) - (c - d) := by
  have h := CR.solve [a, b, c, d] (.v 0 - .v 2 - (.v 1 - .v 3)) ((.v 0 - .v 1) - (.v 2 - .v 3)) (by decide +kernel)
  exact h
theorem Fx.Cg.sub {p : Int} {g a b c d : Fx p} (h : Fx.Cg g a b) (k : Fx.Cg g c d) : Fx.Cg g (a - c) (b - d) := ⟨h.pa.sub k.pa, h.pb.sub k.pb, by rw [id_cgsub]; exact h.dv.sub k.dv⟩
theorem id_back2 {R : Type} [CR R] (a b : R) : a = (a - b) + b := by
  have h := CR.solve [a, b] (.v 0) ((.v 0 - .v 1) + .v 1) (by decide +kernel)
  exact h
theorem Fx.Cg.dvd {p : Int} {g a b e : Fx p} (h : Fx.Cg g a b) (he : Fx.Dvd e g) (hb : Fx.Dvd e b) : Fx.Dvd e a := by
  rw [id_back2 a b]
  exact (he.trans h.dv).add hb
/-- x^(p^(k+1)) is the p-th power of x^(p^k). -/
theorem xk_succ {p : Int} (n k : Nat) : Fx.xk p n (k + 1) = CR.pw (Fx.xk p n k) n := by
  unfold Fx.xk
  rw [CR.pw_pw, Nat.pow_succ]
theorem xk_zero {p : Int} (n : Nat) : Fx.xk p n 0 = Fx.mono p 1 1 := CR.one_mul _
/-- The test's common divisor. -/
theorem gcd_cop {p : Int} (hp : MoP p) {F : List Int} (hF : Val p F) (hne : F ≠ []) {D : Fx p} {G : Fx p} (hc : Fx.Cg (toF p F) D G) {d : List Int} (hd : IsGcd p G (toF p F) d) : d.length = 1 ↔ Fx.Cop (toF p F) D := by
  have hFt := toF_top hF hne
  have hd0 : d ≠ [] := fun e => by
    obtain ⟨q, n, _, h⟩ := hd.right
    rw [e, toF_nil, CR.mul_0] at h
    exact hFt.ne h
  have hdt := toF_top hd.vd hd0
  have hdl := List.length_pos_iff.2 hd0
  constructor
  · intro h1 e k he hx ht
    have := ((hd.dv e).2 ⟨hc.symm.dvd he hx, he⟩).le hp.2 ht hdt
    omega
  · intro h
    have := h _ _ hd.right (hc.dvd hd.right hd.left) hdt
    omega
theorem fp_Power_is {p : Int} (hp : MoP p) {f m : List Int} (hf : Val p f) (hm : Val p m) (hne : m ≠ []) (hfl : f.length ≤ 1000) (hml : m.length ≤ 1000) :
    ∃ w, Ev (fun k => fp_Power.f k p f m) w ∧ Val p w ∧ w.length < m.length ∧ Fx.Cg (toF p m) (CR.pw (toF p f) p.toNat) (toF p w) := by
  have hlo := hp.1.lo
  have hhi := hp.1.hi
  have e1 : p / 256 % 256 = ((p.toNat / 256 : Nat) : Int) := by omega
  have e2 : p % 256 = ((p.toNat % 256 : Nat) : Int) := by omega
  have b := two_bytes (a := p.toNat / 256) (b := p.toNat % 256) (by omega) (by omega)
  obtain ⟨w, w1, w2, w3, w4⟩ := fp_PowMod_is hp hf hm hne hfl hml (e := strOfNums [((p.toNat / 256 : Nat) : Int), ((p.toNat % 256 : Nat) : Int)]) (by rw [b.1]; omega)
  rw [numB_two (by omega) (by omega), show p.toNat / 256 * 256 + p.toNat % 256 = p.toNat from by omega] at w4
  refine ⟨w, ?_, w2, w3, w4⟩
  unfold fp_Power.f
  rw [e1, e2]
  exact Ev.bind w1 (Ev.con rfl)
theorem fp_Irr_loop {p : Int} (hp : MoP p) {F : List Int} (hF : Val p F) {n : Nat} (hn : F.length = n + 1) (h1 : 1 ≤ n) (hl : n ≤ 500) :
    ∀ (d i : Nat) (v : List Int), i + d = n → 1 ≤ i → Val p v → v.length < F.length → Fx.Cg (toF p F) (Fx.xk p p.toNat (i - 1)) (toF p v) → (∀ j, 1 ≤ j → j < i → j ∣ n → Fx.Cop (toF p F) (Fx.xk p p.toNat j - Fx.mono p 1 1)) →
      ∃ b, Ev (fun k => fp_Irreducible.l0 k p F (n : Int) [0, 1] v (i : Int)) b ∧ (b = true ↔ Fx.Irr (toF p F) n) := by
  have hne : F ≠ [] := List.length_pos_iff.1 (by omega)
  have hpn : ((p.toNat : Nat) : Int) = p := Int.toNat_of_nonneg (by have := hp.1.lo; omega)
  have hFt := toF_top hF hne
  rw [hn, Nat.add_sub_cancel] at hFt
  have hrab := Fx.rabin hp.2 hpn hFt h1
  intro d
  induction d with
  | zero =>
    intro i v hi hi1 hv hvl hc hcop
    obtain ⟨w, w1, wv, wl, wc⟩ := fp_Power_is hp hv hF hne (by omega) (by omega)
    obtain ⟨_, t, t1, td⟩ := fp_Rem_is hp (val_x hp.1) hF hne (by simp) (by omega)
    have tl := td.lt
    have hS := fp_Sub_is hp.1 wv td.vr (by omega) (by omega)
    have hSl : (ofF (max w.length t.length) fun j => (co w j + p - co t j) % p).length ≤ max w.length t.length := ofF_len _ _
    have hSv := val_ofF (F := fun j => co w j + p - co t j) hp.1.pos (max w.length t.length)
    have hxi := (hc.pw p.toNat).trans wc
    rw [← xk_succ, show i - 1 + 1 = i from by omega] at hxi
    have htc := td.cg
    rw [toF_x] at htc
    have hdc := hxi.sub htc
    rw [← toF_sub] at hdc
    obtain rfl : i = n := by omega
    refine ⟨decide ((ofF (max w.length t.length) fun j => (co w j + p - co t j) % p).length = 0), Ev.succ ?_, ?_⟩
    · simp only [fp_Irreducible.l0]
      refine Ev.pos (by omega) (Ev.bind w1 (Ev.bind t1 (Ev.bind hS (Ev.pos (by trivial) (Ev.con ?_)))))
      congr 1
      rw [Bool.eq_iff_iff]; simp
    · rw [decide_eq_true_eq, hrab]
      constructor
      · intro h0
        rw [List.length_eq_zero_iff.1 h0, toF_nil] at hdc
        exact ⟨hcop, by have := hdc.dv; rwa [Fx.sub_zero'] at this⟩
      · intro ⟨_, h2⟩
        have h3 : Fx.Dvd (toF p F) (toF p (ofF (max w.length t.length) fun j => (co w j + p - co t j) % p)) := hdc.symm.dvd (Fx.Dvd.refl _) h2
        rw [List.length_eq_zero_iff]
        refine toF_eq_zero hp.1.pos hSv (Classical.byContradiction fun h0 => ?_)
        obtain ⟨k, hk, ht⟩ := Fx.exists_top (toF_bd p _) h0
        have := h3.le hp.2 hFt ht
        omega
  | succ d ih =>
    intro i v hi hi1 hv hvl hc hcop
    obtain ⟨w, w1, wv, wl, wc⟩ := fp_Power_is hp hv hF hne (by omega) (by omega)
    obtain ⟨_, t, t1, td⟩ := fp_Rem_is hp (val_x hp.1) hF hne (by simp) (by omega)
    have tl := td.lt
    have hS := fp_Sub_is hp.1 wv td.vr (by omega) (by omega)
    have hSl : (ofF (max w.length t.length) fun j => (co w j + p - co t j) % p).length ≤ max w.length t.length := ofF_len _ _
    have hSv := val_ofF (F := fun j => co w j + p - co t j) hp.1.pos (max w.length t.length)
    have hxi := (hc.pw p.toNat).trans wc
    rw [← xk_succ, show i - 1 + 1 = i from by omega] at hxi
    have htc := td.cg
    rw [toF_x] at htc
    have hdc := hxi.sub htc
    rw [← toF_sub] at hdc
    have hmod : Int.tmod (n : Int) (i : Int) = ((n % i : Nat) : Int) := by rw [tmod_pos (by omega)]; norm_cast
    obtain ⟨g, g1, gg⟩ := fp_Gcd_is hp hSv hF (by omega) (by omega)
    have hgc := gcd_cop hp hF hne hdc gg
    by_cases hdiv : n % i = 0
    · by_cases hg : g.length = 1
      · obtain ⟨b, b1, b2⟩ := ih (i + 1) w (by omega) (by omega) wv wl (by rw [Nat.add_sub_cancel]; exact hxi) (fun j hj1 hj2 hj3 => by
          by_cases hji : j = i
          · rw [hji]; exact hgc.1 hg
          · exact hcop j hj1 (by omega) hj3)
        refine ⟨b, Ev.succ ?_, b2⟩
        simp only [fp_Irreducible.l0]
        rw [w64 (x := (i : Int) + 1) (by omega) (by omega), hmod]
        exact Ev.pos (by omega) (Ev.bind w1 (Ev.bind t1 (Ev.bind hS (Ev.neg (by omega) (Ev.neg (by omega) (Ev.pos (by omega) (Ev.bind g1 (Ev.pos (by omega) b1))))))))
      · refine ⟨false, Ev.succ ?_, ?_⟩
        · simp only [fp_Irreducible.l0]
          rw [hmod]
          exact Ev.pos (by omega) (Ev.bind w1 (Ev.bind t1 (Ev.bind hS (Ev.neg (by omega) (Ev.neg (by omega) (Ev.pos (by omega) (Ev.bind g1 (Ev.neg (by omega) (Ev.con rfl)))))))))
        · constructor
          · intro h; cases h
          · intro h
            exact absurd (hgc.2 ((hrab.1 h).1 i hi1 (by omega) (Nat.dvd_of_mod_eq_zero hdiv))) hg
    · obtain ⟨b, b1, b2⟩ := ih (i + 1) w (by omega) (by omega) wv wl (by rw [Nat.add_sub_cancel]; exact hxi) (fun j hj1 hj2 hj3 => by
        by_cases hji : j = i
        · subst hji; exact absurd (Nat.mod_eq_zero_of_dvd hj3) hdiv
        · exact hcop j hj1 (by omega) hj3)
      refine ⟨b, Ev.succ ?_, b2⟩
      simp only [fp_Irreducible.l0]
      rw [w64 (x := (i : Int) + 1) (by omega) (by omega), hmod]
      exact Ev.pos (by omega) (Ev.bind w1 (Ev.bind t1 (Ev.bind hS (Ev.neg (by omega) (Ev.neg (by omega) (Ev.neg (by omega) b1))))))
theorem fp_Irreducible_is {p : Int} (hp : MoP p) {F : List Int} (hF : Val p F) (hl : F.length ≤ 500) : ∃ b, Ev (fun k => fp_Irreducible.f k p F) b ∧ (b = true ↔ 2 ≤ F.length ∧ Fx.Irr (toF p F) (F.length - 1)) := by
  by_cases h2 : 2 ≤ F.length
  · have hne : F ≠ [] := List.length_pos_iff.1 (by omega)
    obtain ⟨_, t, t1, td⟩ := fp_Rem_is hp (val_x hp.1) hF hne (by simp) (by omega)
    have htc := td.cg
    rw [toF_x] at htc
    obtain ⟨b, b1, b2⟩ := fp_Irr_loop hp hF (n := F.length - 1) (by omega) (by omega) (by omega) (F.length - 1 - 1) 1 t (by omega) (by omega) td.vr td.lt (by rw [Nat.sub_self, xk_zero]; exact htc) (fun j hj1 hj2 => by omega)
    refine ⟨b, ?_, b2.trans ⟨fun h => ⟨h2, h⟩, fun h => h.2⟩⟩
    unfold fp_Irreducible.f
    rw [w64 (x := (F.length : Int) - 1) (by omega) (by omega), show (F.length : Int) - 1 = ((F.length - 1 : Nat) : Int) from by omega]
    exact Ev.neg (by omega) (Ev.cbind rfl (Ev.bind t1 b1))
  · refine ⟨false, ?_, ?_⟩
    · unfold fp_Irreducible.f
      rw [w64 (x := (F.length : Int) - 1) (by omega) (by omega)]
      exact Ev.pos (by omega) (Ev.con rfl)
    · constructor
      · intro h; cases h
      · intro h; exact absurd h.1 h2
theorem IsIrr_is {p : Int} {F : List Int} (hF : Ok p F 65) : ∃ b, Ev (fun k => polymod_IsIrreducible.f k p F) (b, 0) ∧ (b = true ↔ 2 ≤ F.length ∧ Fx.Irr (toF p F) (F.length - 1)) := by
  have := hF.len
  obtain ⟨b, b1, b2⟩ := fp_Irreducible_is hF.mo hF.va (by omega)
  have hf1 : Ev (fun k => polymod_first.f k p [F]) 0 := Ev.eq (first1_is p F) (hF.chk (Nat.le_refl _))
  refine ⟨b, ?_, b2⟩
  unfold polymod_IsIrreducible.f
  exact Ev.bind hf1 (Ev.pos rfl (Ev.bind b1 (Ev.con rfl)))
end Go.Proofs.Ytmknclgamadphaa.MPolymodPrimes
