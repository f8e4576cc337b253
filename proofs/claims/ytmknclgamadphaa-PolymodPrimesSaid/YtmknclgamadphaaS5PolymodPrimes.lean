/- The reference's division; remainders and powers, the program's and the reference's side by side. -/
import Derived.Test.YtmknclgamadphaaA4PolymodPrimes
import Derived.Test.YtmknclgamadphaaA5PolymodPrimes
namespace Go.Proofs.Ytmknclgamadphaa.MPolymodPrimes
open Go.RowKit Go.Proofs.Ytmknclgamadphaa.PPolymodPrimes Go.Proofs.YtmknclgamadphaaW.PrintWords Go.Proofs.YtmknclgamadphaaW.PrintLast Go.Proofs.YtmknclgamadphaaW.PrintMore
set_option linter.unusedVariables false
set_option linter.unusedSimpArgs false
theorem DM.small {p : Int} (hp : 0 < p) {f g : List Int} (hf : Val p f) (h : f.length < g.length) : DM p f g [] f := ⟨val_nil hp, hf, by rw [toF_nil, CR.zero_mul, CR.zero_add], h⟩
theorem val_unit {p : Int} (hp : Mo p) : Val p [1] := ⟨fun i => by
  have := hp.lo
  cases i with
  | zero => rw [co_zero]; omega
  | succ i => rw [co_succ, co_nil]; omega, rfl⟩
theorem sub_mul_mod {p : Int} (r c g : Int) : (r + (p - c) * g) % p = (r - c * g) % p := by
  rw [Int.sub_mul, show r + (p * g - c * g) = r - c * g + p * g from by omega, Int.add_mul_emod_self_left]
theorem ref_DivMod_row {p : Int} (hm : Mo p) {g rest quo : List Int} (hg : Val p g) (hne : g ≠ []) {L : Nat} (hL : L ≤ 100000) (hgl : g.length ≤ 100000) {inv c : Int} (hc : 0 ≤ c ∧ c < p) {k : Nat} (hkl : k + g.length ≤ L) (hrr : ∀ i, 0 ≤ co rest i ∧ co rest i < p) {res : List Int × List Int}
    (next : ∀ out : List Int, out.length = L → (∀ i, co out i = if k ≤ i ∧ i < k + g.length then (co rest i - c * co g (i - k)) % p else co rest i) → Ev (fun m => galoisref09_DivMod.l0 m p g out ((g.length : Int) - 1) quo inv ((k : Int) - 1)) res) :
    ∀ (d j : Nat) (out : List Int), j + d = g.length → out.length = L → (∀ i, co out i = if k ≤ i ∧ i < k + j then (co rest i - c * co g (i - k)) % p else co rest i) →
    Ev (fun m => galoisref09_DivMod.l1 m p g out ((g.length : Int) - 1) quo inv (k : Int) c (j : Int)) res := by
  have hl := List.length_pos_iff.2 hne
  intro d
  induction d with
  | zero =>
    intro j out hj hl h
    refine Ev.succ ?_
    simp only [galoisref09_DivMod.l1]
    refine Ev.neg (by omega) ?_
    rw [w64 (by omega) (by omega)]
    have : j = g.length := by omega
    subst this
    exact next out hl h
  | succ d ih =>
    intro j out hj hl h
    refine Ev.succ ?_
    simp only [galoisref09_DivMod.l1]
    have := hm.hi
    have hgj := hg.rng j
    have b0 : 0 ≤ (p - c) * co g j := Int.mul_nonneg (by omega) (by omega)
    have b1 : (p - c) * co g j ≤ 65521 * 65521 := Int.mul_le_mul (by omega) (by omega) (by omega) (by omega)
    have b2 := hrr (k + j)
    rw [w64 (x := (k : Int) + j) (by omega) (by omega), rd_co, rd_co, show ((k : Int) + (j : Int)).toNat = k + j from by omega, Int.toNat_natCast]
    have e : co out (k + j) = co rest (k + j) := by rw [h (k + j), if_neg (by omega)]
    rw [e, w64 (x := p - c) (by omega) (by omega), w64 (x := (p - c) * co g j) (by omega) (by omega), w64 (x := co rest (k + j) + (p - c) * co g j) (by omega) (by omega), w64 (x := (j : Int) + 1) (by omega) (by omega), tmod_pos (by omega), sub_mul_mod]
    refine Ev.pos (by omega) (Ev.pos (by omega) (Ev.pos (by omega) (Ev.pos (by omega) (Ev.pos (by omega) (Ev.neg (by have := hm.lo; omega) ?_)))))
    refine ih (j + 1) _ (by omega) (by rw [List.length_set]; exact hl) (fun i => ?_)
    rw [co_set]
    by_cases e1 : k + j = i
    · rw [if_pos ⟨e1, by omega⟩, if_pos (by omega), ← e1, show k + j - k = j from by omega]
    · rw [if_neg (fun hh => e1 hh.1), h i]
      by_cases e2 : k ≤ i ∧ i < k + j
      · rw [if_pos e2, if_pos (by omega)]
      · rw [if_neg e2, if_neg (by omega)]
theorem ref_DivMod_rows {p : Int} (hp : MoP p) {f g : List Int} (hg : Val p g) (hne : g ≠ []) (hgl : g.length ≤ 100000) {b : Int} (hb : IsInv p (co g (g.length - 1)) b) {L Q : Nat} (hLQ : Q = 0 ∨ L + 1 = Q + g.length) (hL : L ≤ 100000) :
    ∀ (k : Nat) (rest quo : List Int), k ≤ Q → DS p f g rest quo L Q k → ∃ q r, Ev (fun m => galoisref09_DivMod.l0 m p g rest ((g.length : Int) - 1) quo b ((k : Int) - 1)) (q, r) ∧ DM p f g q r := by
  have hl := List.length_pos_iff.2 hne
  intro k
  induction k with
  | zero =>
    intro rest quo hk h
    have hlr := h.lr
    have hlq := h.lq
    refine ⟨trimZ quo, trimZ rest, Ev.succ ?_, h.done hp hne (fun i => rfl)⟩
    simp only [galoisref09_DivMod.l0]
    exact Ev.neg (by omega) (Ev.bind (ref_Trim_ev (by omega)) (Ev.bind (ref_Trim_ev (by omega)) (Ev.con rfl)))
  | succ k ih =>
    intro rest quo hk h
    have hlr := h.lr
    have hlq := h.lq
    have hm := hp.1
    have := hm.hi
    have hc := mod_bd hm (co rest (k + g.length - 1) * b)
    have b1 := mul_bd hm (h.rr (k + g.length - 1)) ⟨hb.lo, hb.hi⟩
    have key : ∃ q r, DM p f g q r ∧ Ev (fun m => galoisref09_DivMod.l1 m p g rest ((g.length : Int) - 1) (quo.set k ((co rest (k + g.length - 1) * b) % p)) b (k : Int) ((co rest (k + g.length - 1) * b) % p) 0) (q, r) := by
      obtain ⟨out, h1, h2⟩ : ∃ out : List Int, out.length = L ∧ ∀ i, co out i = if k ≤ i ∧ i < k + g.length then (co rest i - (co rest (k + g.length - 1) * b) % p * co g (i - k)) % p else co rest i :=
        ⟨tab L fun i => if k ≤ i ∧ i < k + g.length then (co rest i - (co rest (k + g.length - 1) * b) % p * co g (i - k)) % p else co rest i, tab_length _ _, fun i => by
          rw [co_tab]
          by_cases hi : i < L
          · rw [if_pos hi]
          · rw [if_neg hi, if_neg (by omega), co_ge (by omega)]⟩
      obtain ⟨q, r, he, hdm⟩ := ih out _ (by omega) (h.step hp hg hne (by omega) (by omega) hb h1 h2)
      refine ⟨q, r, hdm, ?_⟩
      refine ref_DivMod_row hm hg hne hL hgl hc (by omega) h.rr (fun out2 h3 h4 => ?_) g.length 0 rest (by omega) hlr (fun i => by rw [if_neg (by omega)])
      have : out2 = out := List.ext_getElem (by omega) (fun i h5 h6 => by
        have := (h4 i).trans (h2 i).symm
        simpa [co, h5, h6] using this)
      rw [this]; exact he
    obtain ⟨q, r, hdm, he⟩ := key
    refine ⟨q, r, Ev.succ ?_, hdm⟩
    simp only [galoisref09_DivMod.l0]
    rw [show ((k + 1 : Nat) : Int) - 1 = (k : Int) from by omega, w64 (x := (k : Int) + ((g.length : Int) - 1)) (by omega) (by omega), rd_co, show ((k : Int) + ((g.length : Int) - 1)).toNat = k + g.length - 1 from by omega, w64 (x := co rest (k + g.length - 1) * b) (by omega) (by omega), tmod_pos (by omega), Int.toNat_natCast]
    exact Ev.pos (by omega) (Ev.pos (by omega) (Ev.pos (by omega) (Ev.neg (by have := hm.lo; omega) (Ev.pos (by omega) (Ev.pos (by omega) he)))))
theorem mx_sub (a b : Nat) (hb : 0 < b) : mx 0 ((a : Int) - ((b : Int) - 1)) = ((a + 1 - b : Nat) : Int) := by unfold mx; split <;> omega
theorem ref_DivMod_is {p : Int} (hp : MoP p) {f g : List Int} (hf : Val p f) (hg : Val p g) (hne : g ≠ []) (hfl : f.length ≤ 100000) (hgl : g.length ≤ 100000) :
    ∃ q r, Ev (fun m => galoisref09_DivMod.f m p f g) (q, r) ∧ DM p f g q r := by
  have hl := List.length_pos_iff.2 hne
  have hm := hp.1
  have hmem := hg.mem hne
  obtain ⟨b, hb, hbe⟩ := ref_Inv_is hp hmem.1 hmem.2
  obtain ⟨q, r, he, hdm⟩ := ref_DivMod_rows hp hg hne hgl hb (L := f.length) (Q := f.length + 1 - g.length) (by omega) hfl (f.length + 1 - g.length) f _ (Nat.le_refl _) (DS.start hp hf (by omega) _ rfl)
  refine ⟨q, r, ?_, hdm⟩
  simp only [galoisref09_DivMod.f, Option.bind_some]
  rw [w64 (x := (g.length : Int) - 1) (by omega) (by omega), w64 (x := (f.length : Int) - ((g.length : Int) - 1)) (by omega) (by omega), mx_sub _ _ hl, rd_co, Int.toNat_natCast, List.length_replicate, show ((g.length : Int) - 1).toNat = g.length - 1 from by omega, w64 (x := ((f.length + 1 - g.length : Nat) : Int) - 1) (by omega) (by omega)]
  exact Ev.cbind (ref_Copy_is (by omega)) (Ev.pos (by omega) (Ev.pos (by omega) (Ev.pos (by omega) (Ev.pos (by omega) (Ev.bind hbe he)))))
theorem ref_Rem_is {p : Int} (hp : MoP p) {f g : List Int} (hf : Val p f) (hg : Val p g) (hne : g ≠ []) (hfl : f.length ≤ 100000) (hgl : g.length ≤ 100000) :
    ∃ q r, Ev (fun m => galoisref09_Mod.f m p f g) r ∧ DM p f g q r := by
  obtain ⟨q, r, he, hd⟩ := ref_DivMod_is hp hf hg hne hfl hgl
  exact ⟨q, r, Ev.bind he (Ev.con rfl), hd⟩
theorem both_Rem {p : Int} (hp : MoP p) {f g : List Int} (hf : Val p f) (hg : Val p g) (hne : g ≠ []) (hfl : f.length ≤ 100000) (hgl : g.length ≤ 100000) :
    ∃ q r, Ev (fun m => fp_Rem.f m p f g) r ∧ Ev (fun m => galoisref09_Mod.f m p f g) r ∧ DM p f g q r := by
  obtain ⟨q, r, he, hd⟩ := fp_Rem_is hp hf hg hne hfl hgl
  obtain ⟨q', r', he', hd'⟩ := ref_Rem_is hp hf hg hne hfl hgl
  obtain ⟨e1, e2⟩ := hd.uniq hp.2 hg hd'
  subst e1; subst e2
  exact ⟨q, r, he, he', hd⟩
theorem both_MulMod {p : Int} (hp : MoP p) {f g m : List Int} (hf : Val p f) (hg : Val p g) (hm : Val p m) (hne : m ≠ []) (hfl : f.length ≤ 1000) (hgl : g.length ≤ 1000) (hml : m.length ≤ 1000) :
    ∃ r, Ev (fun k => fp_MulMod.f k p f g m) r ∧ Ev (fun k => galoisref09_MulMod.f k p f g m) r ∧ Val p r ∧ r.length < m.length := by
  have hl := pmul_len p f g
  obtain ⟨q, r, h1, h2, hd⟩ := both_Rem hp (val_pmul hp.1.pos f g) hm hne (by omega) (by omega)
  exact ⟨r, Ev.bind (fp_Mul_is hp.1 hf hg (by omega) (by omega)) (Ev.bind h1 (Ev.con rfl)), Ev.bind (ref_Mul_is hp.1 hf hg (by omega) (by omega)) (Ev.bind h2 (Ev.con rfl)), hd.vr, hd.lt⟩
theorem bit_fin : ∀ n : Fin 256, Go.bits .and .u8 ((n.val : Nat) : Int) 1 = 1 ↔ Int.tmod ((n.val : Nat) : Int) 2 = 1 := by decide +kernel
theorem bit_eq {x : Int} (h0 : 0 ≤ x) (h1 : x ≤ 255) : Go.bits .and .u8 x 1 = 1 ↔ Int.tmod x 2 = 1 := by
  have h := bit_fin ⟨x.toNat, by omega⟩
  simp only [Int.toNat_of_nonneg h0] at h
  exact h
theorem shr_rng {x : Int} (h0 : 0 ≤ x) (h1 : x ≤ 255) (j : Int) : 0 ≤ shr .u8 x j ∧ shr .u8 x j ≤ 255 := by
  unfold shr
  have h2 : (0 : Int) < 2 ^ min j.toNat (IntKind.bits .u8) := Int.pow_pos (by decide)
  exact ⟨Int.ediv_nonneg h0 (Int.le_of_lt h2), Int.le_trans (Int.ediv_le_self _ h0) h1⟩
theorem both_bits {p : Int} (hp : MoP p) {m b : List Int} {e : ByteArray} (hm : Val p m) (hne : m ≠ []) (hb : Val p b) (hbl : b.length < m.length) (hml : m.length ≤ 1000) {n i : Nat} (hi : i < e.size) (hes : e.size ≤ 1000000)
    (next : ∀ v : List Int, Val p v → v.length < m.length → ∃ w, Ev (fun k => fp_PowMod.l0 k p e m v b (n : Int) ((i : Int) + 1)) w ∧ Ev (fun k => galoisref09_PowMod.l0 k p b e m v ((i : Int) + 1)) w ∧ Val p w ∧ w.length < m.length) :
    ∀ (j : Nat) (v : List Int), j ≤ 8 → Val p v → v.length < m.length → ∃ w, Ev (fun k => fp_PowMod.l1 k p e m v b (i : Int) ((j : Int) - 1) (n : Int) (i : Int)) w ∧ Ev (fun k => galoisref09_PowMod.l1 k p b e m v (i : Int) ((j : Int) - 1)) w ∧ Val p w ∧ w.length < m.length := by
  intro j
  induction j with
  | zero =>
    intro v _ hv hvl
    obtain ⟨w, h1, h2, h3⟩ := next v hv hvl
    refine ⟨w, Ev.succ ?_, Ev.succ ?_, h3⟩
    · simp only [fp_PowMod.l1]
      rw [w64 (x := (i : Int) + 1) (by omega) (by omega)]
      exact Ev.neg (by omega) h1
    · simp only [galoisref09_PowMod.l1]
      rw [w64 (x := (i : Int) + 1) (by omega) (by omega)]
      exact Ev.neg (by omega) h2
  | succ j ih =>
    intro v hj hv hvl
    obtain ⟨s, s1, s2, sv, sl⟩ := both_MulMod hp hv hv hm hne (by omega) (by omega) hml
    obtain ⟨t, t1, t2, tv, tl⟩ := both_MulMod hp sv hb hm hne (by omega) (by omega) hml
    have hr := bt_range e (i : Int)
    have hs := shr_rng hr.1 hr.2 (j : Int)
    have hbit := bit_eq hs.1 hs.2
    by_cases c : Int.tmod (shr .u8 (bt e (i : Int)) (j : Int)) 2 = 1
    · obtain ⟨w, h1, h2, h3⟩ := ih t (by omega) tv tl
      refine ⟨w, Ev.succ ?_, Ev.succ ?_, h3⟩
      · simp only [fp_PowMod.l1]
        rw [show ((j + 1 : Nat) : Int) - 1 = (j : Int) from by omega, w64 (x := (j : Int) - 1) (by omega) (by omega)]
        exact Ev.pos (by omega) (Ev.bind s1 (Ev.pos (by omega) (Ev.pos (by omega) (Ev.pos (by omega) (Ev.pos (hbit.2 c) (Ev.bind t1 h1))))))
      · simp only [galoisref09_PowMod.l1]
        rw [show ((j + 1 : Nat) : Int) - 1 = (j : Int) from by omega, w64 (x := (j : Int) - 1) (by omega) (by omega)]
        exact Ev.pos (by omega) (Ev.bind s2 (Ev.pos (by omega) (Ev.pos (by omega) (Ev.pos (by omega) (Ev.pos c (Ev.bind t2 h2))))))
    · obtain ⟨w, h1, h2, h3⟩ := ih s (by omega) sv sl
      refine ⟨w, Ev.succ ?_, Ev.succ ?_, h3⟩
      · simp only [fp_PowMod.l1]
        rw [show ((j + 1 : Nat) : Int) - 1 = (j : Int) from by omega, w64 (x := (j : Int) - 1) (by omega) (by omega)]
        exact Ev.pos (by omega) (Ev.bind s1 (Ev.pos (by omega) (Ev.pos (by omega) (Ev.pos (by omega) (Ev.neg (fun h => c (hbit.1 h)) h1)))))
      · simp only [galoisref09_PowMod.l1]
        rw [show ((j + 1 : Nat) : Int) - 1 = (j : Int) from by omega, w64 (x := (j : Int) - 1) (by omega) (by omega)]
        exact Ev.pos (by omega) (Ev.bind s2 (Ev.pos (by omega) (Ev.pos (by omega) (Ev.pos (by omega) (Ev.neg c h2)))))
theorem both_bytes {p : Int} (hp : MoP p) {m b : List Int} {e : ByteArray} (hm : Val p m) (hne : m ≠ []) (hb : Val p b) (hbl : b.length < m.length) (hml : m.length ≤ 1000) (hes : e.size ≤ 1000000) :
    ∀ (d i : Nat) (v : List Int), i + d = e.size → Val p v → v.length < m.length → ∃ w, Ev (fun k => fp_PowMod.l0 k p e m v b (e.size : Int) (i : Int)) w ∧ Ev (fun k => galoisref09_PowMod.l0 k p b e m v (i : Int)) w ∧ Val p w ∧ w.length < m.length := by
  intro d
  induction d with
  | zero =>
    intro i v hi hv hvl
    refine ⟨v, Ev.succ ?_, Ev.succ ?_, hv, hvl⟩
    · simp only [fp_PowMod.l0]
      exact Ev.neg (by omega) (Ev.con rfl)
    · simp only [galoisref09_PowMod.l0]
      exact Ev.neg (by omega) (Ev.con rfl)
  | succ d ih =>
    intro i v hi hv hvl
    obtain ⟨w, h1, h2, h3⟩ := both_bits hp hm hne hb hbl hml (n := e.size) (i := i) (by omega) hes (fun v hv hvl => ih (i + 1) v (by omega) hv hvl) 8 v (Nat.le_refl _) hv hvl
    refine ⟨w, Ev.succ ?_, Ev.succ ?_, h3⟩
    · simp only [fp_PowMod.l0]
      exact Ev.pos (by omega) h1
    · simp only [galoisref09_PowMod.l0]
      exact Ev.pos (by omega) h2
theorem both_PowMod {p : Int} (hp : MoP p) {f m : List Int} {e : ByteArray} (hf : Val p f) (hm : Val p m) (hne : m ≠ []) (hfl : f.length ≤ 1000) (hml : m.length ≤ 1000) (hes : e.size ≤ 1000000) :
    ∃ t w, Ev (fun k => fp_Rem.f k p f m) t ∧ Ev (fun k => fp_PowMod.f k p t e m) w ∧ Ev (fun k => galoisref09_PowMod.f k p f e m) w ∧ Val p w ∧ w.length < m.length := by
  obtain ⟨_, o, o1, o2, od⟩ := both_Rem hp (val_unit hp.1) hm hne (by simp) (by omega)
  obtain ⟨_, t, t1, t2, td⟩ := both_Rem hp hf hm hne (by omega) (by omega)
  obtain ⟨_, u, u1, _, ud⟩ := both_Rem hp td.vr hm hne (by have := td.lt; omega) (by omega)
  have hu := ((DM.small hp.1.pos td.vr td.lt).uniq hp.2 hm ud).2
  subst hu
  obtain ⟨w, h1, h2, h3⟩ := both_bytes hp hm hne td.vr td.lt hml hes e.size 0 o (Nat.zero_add _) od.vr od.lt
  exact ⟨t, w, t1, Ev.bind o1 (Ev.bind u1 h1), Ev.bind o2 (Ev.bind t2 h2), h3⟩
end Go.Proofs.Ytmknclgamadphaa.MPolymodPrimes
