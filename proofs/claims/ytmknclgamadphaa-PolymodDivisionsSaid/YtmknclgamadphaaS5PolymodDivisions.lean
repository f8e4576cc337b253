/- The reference's division; remainders and powers, the program's and the reference's side by side. -/
import Derived.Test.YtmknclgamadphaaA4PolymodDivisions
import Derived.Test.YtmknclgamadphaaA5PolymodDivisions
namespace Go.Proofs.Ytmknclgamadphaa.MPolymodDivisions
open Go.RowKit Go.Proofs.Ytmknclgamadphaa.PPolymodDivisions Go.Proofs.YtmknclgamadphaaW.PrintWords Go.Proofs.YtmknclgamadphaaW.PrintLast Go.Proofs.YtmknclgamadphaaW.PrintMore
set_option linter.unusedVariables false
set_option linter.unusedSimpArgs false
theorem DM.small {p : Int} (hp : 0 < p) {f g : List Int} (hf : Val p f) (h : f.length < g.length) : DM p f g [] f := ⟨val_nil hp, hf, by rw [toF_nil, CR.zero_mul, CR.zero_add], h⟩
theorem val_unit {p : Int} (hp : Mo p) : Val p [1] := ⟨fun i => by
  have := hp.lo
  cases i with
  | zero => rw [co_zero]; omega
  | succ i => rw [co_succ, co_nil]; omega, rfl⟩
theorem sub_mul_mod {p : Int} (r c g : Int) : (r + (p - c) * g) % p = (r - c * g) % p := by
  rw [Int.sub_mul, show r + (p * g - c * g) = r - c * g + p * g from by omega, Int.add_mul_emod_self_left]
theorem ref_DivMod_row {p : Int} (hm : Mo p) {g rest quo : List Int} (hg : Val p g) (hne : g ≠ []) {L : Nat} (hL : L ≤ 100000) (hgl : g.length ≤ 100000) {inv c : Int} (hc : 0 ≤ c ∧ c < p) {k : Nat} (hkl : k + g.length ≤ L) (hrr : ∀ i, 0 ≤ co rest i ∧ co rest i < p) {res : List Int × List Int}
    (next : ∀ out : List Int, out.length = L → (∀ i, co out i = if k ≤ i ∧ i < k + g.length then (co rest i - c * co g (i - k)) % p else co rest i) → Ev (fun m => galoisref09_DivMod.l0 m p g out ((g.length : Int) - 1) quo inv ((k : Int) - 1)) res) :
    ∀ (d j : Nat) (out : List Int), j + d = g.length → out.length = L → (∀ i, co out i = if k ≤ i ∧ i < k + j then (co rest i - c * co g (i - k)) % p else co rest i) →
    Ev (fun m => galoisref09_DivMod.l1 m p g out ((g.length : Int) - 1) quo inv (k : Int) c (j : Int)) res := by
  have hl := List.length_pos_iff.2 hne
  intro d
  induction d with
  | zero =>
    intro j out hj hl h
    refine Ev.succ ?_
    simp only [galoisref09_DivMod.l1]
    refine Ev.neg (by omega) ?_
    rw [w64 (by omega) (by omega)]
    have : j = g.length := by omega
    subst this
    exact next out hl h
  | succ d ih =>
    intro j out hj hl h
    refine Ev.succ ?_
    simp only [galoisref09_DivMod.l1]
    have := hm.hi
    have hgj := hg.rng j
    have b0 : 0 ≤ (p - c) * co g j := Int.mul_nonneg (by omega) (by omega)
    have b1 : (p - c) * co g j ≤ 65521 * 65521 := Int.mul_le_mul (by omega) (by omega) (by omega) (by omega)
    have b2 := hrr (k + j)
    rw [w64 (x := (k : Int) + j) (by omega) (by omega), rd_co, rd_co, show ((k : Int) + (j : Int)).toNat = k + j from by omega, Int.toNat_natCast]
    have e : co out (k + j) = co rest (k + j) := by rw [h (k + j), if_neg (by omega)]
    rw [e, w64 (x := p - c) (by omega) (by omega), w64 (x := (p - c) * co g j) (by omega) (by omega), w64 (x := co rest (k + j) + (p - c) * co g j) (by omega) (by omega), w64 (x := (j : Int) + 1) (by omega) (by omega), tmod_pos (by omega), sub_mul_mod]
    refine Ev.pos (by omega) (Ev.pos (by omega) (Ev.pos (by omega) (Ev.pos (by omega) (Ev.pos (by omega) (Ev.neg (by have := hm.lo; omega) ?_)))))
    refine ih (j + 1) _ (by omega) (by rw [List.length_set]; exact hl) (fun i => ?_)
    rw [co_set]
    by_cases e1 : k + j = i
    · rw [if_pos ⟨e1, by omega⟩, if_pos (by omega), ← e1, show k + j - k = j from by omega]
    · rw [if_neg (fun hh => e1 hh.1), h i]
      by_cases e2 : k ≤ i ∧ i < k + j
      · rw [if_pos e2, if_pos (by omega)]
      · rw [if_neg e2, if_neg (by omega)]
theorem ref_DivMod_rows {p : Int} (hp : MoP p) {f g : List Int} (hg : Val p g) (hne : g ≠ []) (hgl : g.length ≤ 100000) {b : Int} (hb : IsInv p (co g (g.length - 1)) b) {L Q : Nat} (hLQ : Q = 0 ∨ L + 1 = Q + g.length) (hL : L ≤ 100000) :
    ∀ (k : Nat) (rest quo : List Int), k ≤ Q → DS p f g rest quo L Q k → ∃ q r, Ev (fun m => galoisref09_DivMod.l0 m p g rest ((g.length : Int) - 1) quo b ((k : Int) - 1)) (q, r) ∧ DM p f g q r := by
  have hl := List.length_pos_iff.2 hne
  intro k
  induction k with
  | zero =>
    intro rest quo hk h
    have hlr := h.lr
    have hlq := h.lq
    refine ⟨trimZ quo, trimZ rest, Ev.succ ?_, h.done hp hne (fun i => rfl)⟩
    simp only [galoisref09_DivMod.l0]
    exact Ev.neg (by omega) (Ev.bind (ref_Trim_ev (by omega)) (Ev.bind (ref_Trim_ev (by omega)) (Ev.con rfl)))
  | succ k ih =>
    intro rest quo hk h
    have hlr := h.lr
    have hlq := h.lq
    have hm := hp.1
    have := hm.hi
    have hc := mod_bd hm (co rest (k + g.length - 1) * b)
    have b1 := mul_bd hm (h.rr (k + g.length - 1)) ⟨hb.lo, hb.hi⟩
    have key : ∃ q r, DM p f g q r ∧ Ev (fun m => galoisref09_DivMod.l1 m p g rest ((g.length : Int) - 1) (quo.set k ((co rest (k + g.length - 1) * b) % p)) b (k : Int) ((co rest (k + g.length - 1) * b) % p) 0) (q, r) := by
      obtain ⟨out, h1, h2⟩ : ∃ out : List Int, out.length = L ∧ ∀ i, co out i = if k ≤ i ∧ i < k + g.length then (co rest i - (co rest (k + g.length - 1) * b) % p * co g (i - k)) % p else co rest i :=
        ⟨tab L fun i => if k ≤ i ∧ i < k + g.length then (co rest i - (co rest (k + g.length - 1) * b) % p * co g (i - k)) % p else co rest i, tab_length _ _, fun i => by
          rw [co_tab]
          by_cases hi : i < L
          · rw [if_pos hi]
          · rw [if_neg hi, if_neg (by omega), co_ge (by omega)]⟩
      obtain ⟨q, r, he, hdm⟩ := ih out _ (by omega) (h.step hp hg hne (by omega) (by omega) hb h1 h2)
      refine ⟨q, r, hdm, ?_⟩
      refine ref_DivMod_row hm hg hne hL hgl hc (by omega) h.rr (fun out2 h3 h4 => ?_) g.length 0 rest (by omega) hlr (fun i => by rw [if_neg (by omega)])
      have : out2 = out := List.ext_getElem (by omega) (fun i h5 h6 => by
        have := (h4 i).trans (h2 i).symm
        simpa [co, h5, h6] using this)
      rw [this]; exact he
    obtain ⟨q, r, hdm, he⟩ := key
    refine ⟨q, r, Ev.succ ?_, hdm⟩
    simp only [galoisref09_DivMod.l0]
    rw [show ((k + 1 : Nat) : Int) - 1 = (k : Int) from by omega, w64 (x := (k : Int) + ((g.length : Int) - 1)) (by omega) (by omega), rd_co, show ((k : Int) + ((g.length : Int) - 1)).toNat = k + g.length - 1 from by omega, w64 (x := co rest (k + g.length - 1) * b) (by omega) (by omega), tmod_pos (by omega), Int.toNat_natCast]
    exact Ev.pos (by omega) (Ev.pos (by omega) (Ev.pos (by omega) (Ev.neg (by have := hm.lo; omega) (Ev.pos (by omega) (Ev.pos (by omega) he)))))
theorem mx_sub (a b : Nat) (hb : 0 < b) : mx 0 ((a : Int) - ((b : Int) - 1)) = ((a + 1 - b : Nat) : Int) := by unfold mx; split <;> omega
theorem ref_DivMod_is {p : Int} (hp : MoP p) {f g : List Int} (hf : Val p f) (hg : Val p g) (hne : g ≠ []) (hfl : f.length ≤ 100000) (hgl : g.length ≤ 100000) :
    ∃ q r, Ev (fun m => galoisref09_DivMod.f m p f g) (q, r) ∧ DM p f g q r := by
  have hl := List.length_pos_iff.2 hne
  have hm := hp.1
  have hmem := hg.mem hne
  obtain ⟨b, hb, hbe⟩ := ref_Inv_is hp hmem.1 hmem.2
  obtain ⟨q, r, he, hdm⟩ := ref_DivMod_rows hp hg hne hgl hb (L := f.length) (Q := f.length + 1 - g.length) (by omega) hfl (f.length + 1 - g.length) f _ (Nat.le_refl _) (DS.start hp hf (by omega) _ rfl)
  refine ⟨q, r, ?_, hdm⟩
  simp only [galoisref09_DivMod.f, Option.bind_some]
  rw [w64 (x := (g.length : Int) - 1) (by omega) (by omega), w64 (x := (f.length : Int) - ((g.length : Int) - 1)) (by omega) (by omega), mx_sub _ _ hl, rd_co, Int.toNat_natCast, List.length_replicate, show ((g.length : Int) - 1).toNat = g.length - 1 from by omega, w64 (x := ((f.length + 1 - g.length : Nat) : Int) - 1) (by omega) (by omega)]
  exact Ev.cbind (ref_Copy_is (by omega)) (Ev.pos (by omega) (Ev.pos (by omega) (Ev.pos (by omega) (Ev.pos (by omega) (Ev.bind hbe he)))))
theorem id_rstep {R : Type} [CR R] {a b r q s t u v F G : R} (h1 : a = s * F + u * G) (h2 : b = t * F + v * G) (h3 : a = q * b + r) : r = (s - q * t) * F + (u - q * v) * G := id_xstep h1 h2 h3
theorem id_rdone {R : Type} [CR R] {a s u c F G d : R} (h1 : a = s * F + u * G) (h2 : d = c * a) : c * s * F + c * u * G = d := by
  rw [h2, h1]
  have h := CR.solve [s, u, c, F, G] (.v 2 * .v 0 * .v 3 + .v 2 * .v 1 * .v 4) (.v 2 * (.v 0 * .v 3 + .v 1 * .v 4)) (by decide +kernel)
  exact h
/-- Within the reference's extended algorithm. -/
structure YS (p : Int) (F G : Fx p) (a b s t u v : List Int) (N : Nat) : Prop where
  va : Val p a
  vb : Val p b
  vs : Val p s
  vt : Val p t
  vu : Val p u
  vv : Val p v
  ea : toF p a = toF p s * F + toF p u * G
  eb : toF p b = toF p t * F + toF p v * G
  dv : ∀ e, (Fx.Dvd e (toF p a) ∧ Fx.Dvd e (toF p b)) ↔ (Fx.Dvd e F ∧ Fx.Dvd e G)
  ls : s.length + b.length ≤ N
  lt : t.length + a.length ≤ N
  lu : u.length + b.length ≤ N
  lv : v.length + a.length ≤ N
def psub (p : Int) (f g : List Int) : List Int := ofF (max f.length g.length) fun j => (co f j + p - co g j) % p
theorem psub_short {p : Int} {s t q : List Int} {la lb N : Nat} (hq : q.length ≤ la + 1 - lb) (h1 : s.length + lb ≤ N) (h2 : t.length + la ≤ N) : (psub p s (pmul p q t)).length + lb ≤ N := by
  have h3 := psub_len p s (pmul p q t)
  have h4 := pmul_len p q t
  have h5 : (psub p s (pmul p q t)).length ≤ max s.length (pmul p q t).length := h3
  by_cases hq0 : q = []
  · have : (pmul p q t).length = 0 := by rw [hq0]; simp [pmul]
    omega
  · by_cases ht0 : t = []
    · have : (pmul p q t).length = 0 := by rw [ht0]; simp [pmul]
      omega
    · have := List.length_pos_iff.2 hq0
      have := List.length_pos_iff.2 ht0
      omega
theorem YS.next {p : Int} (hp : MoP p) {F G : Fx p} {a b s t u v q r : List Int} {N : Nat} (h : YS p F G a b s t u v N) (hd : DM p a b q r) :
    YS p F G b r t (psub p s (pmul p q t)) v (psub p u (pmul p q v)) N := by
  have hq := hd.lq hp.2 h.va h.vb
  have hr := hd.lt
  have hra : r.length ≤ a.length := by
    by_cases hab : a.length < b.length
    · rw [((DM.small hp.1.pos h.va hab).uniq hp.2 h.vb hd).2]; exact Nat.le_refl _
    · omega
  have e := id_rstep h.ea h.eb hd.eq
  refine ⟨h.vb, hd.vr, h.vt, val_ofF hp.1.pos _ _, h.vv, val_ofF hp.1.pos _ _, h.eb, ?_, fun e => (hd.dvd_iff e).symm.trans (h.dv e), ?_, psub_short hq h.ls h.lt, ?_, psub_short hq h.lu h.lv⟩
  · unfold psub
    rw [toF_sub, toF_mul, toF_sub, toF_mul]; exact e
  · have := h.lt; omega
  · have := h.lv; omega
/-- What the reference's extended algorithm answers. -/
theorem ref_Xgcd_loop {p : Int} (hp : MoP p) {F G : Fx p} {N : Nat} (hN : N ≤ 10000) : ∀ (n : Nat) (a b s t u v : List Int), b.length = n → YS p F G a b s t u v N →
    ∃ d s' u', Ev (fun k => galoisref09_Xgcd.l0 k p a b s t u v) (d, s', u') ∧ IsGcd p F G d ∧ Val p s' ∧ Val p u' ∧ toF p s' * F + toF p u' * G = toF p d ∧ s'.length ≤ N ∧ u'.length ≤ N := by
  intro n
  induction n using Nat.strongRecOn with
  | _ n ih =>
    intro a b s t u v hn h
    have hls := h.ls; have hlt := h.lt; have hlu := h.lu; have hlv := h.lv
    by_cases h0 : (b.length : Int) > 0
    · have hb : b ≠ [] := List.length_pos_iff.1 (by omega)
      obtain ⟨q, r, he, hd⟩ := ref_DivMod_is hp h.va h.vb hb (by omega) (by omega)
      have hq := hd.lq hp.2 h.va h.vb
      have hnx := h.next hp hd
      obtain ⟨d, s', u', h1, h2⟩ := ih r.length (by have := hd.lt; omega) _ _ _ _ _ _ rfl hnx
      refine ⟨d, s', u', Ev.succ ?_, h2⟩
      simp only [galoisref09_Xgcd.l0]
      have hm1 := pmul_len p q t
      have hm2 := pmul_len p q v
      have hM1 := ref_Mul_is hp.1 hd.vq h.vt (by omega) (by omega)
      have hM2 := ref_Mul_is hp.1 hd.vq h.vv (by omega) (by omega)
      have hS1 := ref_Sub_is hp.1 h.vs (val_pmul hp.1.pos q t) (by omega) (by omega)
      have hS2 := ref_Sub_is hp.1 h.vu (val_pmul hp.1.pos q v) (by omega) (by omega)
      exact Ev.pos h0 (Ev.bind he (Ev.bind hM1 (Ev.bind hS1 (Ev.bind hM2 (Ev.bind hS2 h1)))))
    · have hb0 : b = [] := List.length_eq_zero_iff.1 (by omega)
      by_cases ha0 : a = []
      · refine ⟨[], [], [], Ev.succ ?_, ?_, val_nil hp.1.pos, val_nil hp.1.pos, ?_, by simp, by simp⟩
        · simp only [galoisref09_Xgcd.l0]
          exact Ev.neg h0 (Ev.pos (by rw [ha0]; rfl) (Ev.con rfl))
        · refine (isGcd_nil hp).congr fun e => ?_
          have := h.dv e
          rwa [ha0, hb0, toF_nil] at this
        · rw [toF_nil, CR.zero_mul, CR.zero_mul, CR.add_0]
      · have hal := List.length_pos_iff.2 ha0
        have hm := h.va.mem ha0
        obtain ⟨c, hc, hce⟩ := ref_Inv_is hp hm.1 hm.2
        have hmon := mon_scale hp h.va ha0 hc
        have hcm : c % p = c := Int.emod_eq_of_lt hc.lo hc.hi
        have hgcd : IsGcd p F G (ofF a.length fun j => (co a j * c) % p) := (isGcd_zero hp hmon).congr (fun e => by
          have := h.dv e
          rwa [hb0, toF_nil] at this)
        have hS1 := ref_Scale_is hp.1 h.va c (by omega)
        have hS2 := ref_Scale_is hp.1 h.vs c (by omega)
        have hS3 := ref_Scale_is hp.1 h.vu c (by omega)
        rw [hcm] at hS1 hS2 hS3
        have hvs1 := val_ofF hp.1.pos s.length fun j => co s j * c
        have hvu1 := val_ofF hp.1.pos u.length fun j => co u j * c
        have l1 := ofF_len s.length fun j => (co s j * c) % p
        have l2 := ofF_len u.length fun j => (co u j * c) % p
        have hlead : galoisref09_Lead.f a = some (co a (a.length - 1)) := by
          unfold galoisref09_Lead.f
          rw [if_neg (by omega), w64 (by omega) (by omega), if_pos (by omega), if_pos (by omega), rd_co, show ((a.length : Int) - 1).toNat = a.length - 1 from by omega]
        refine ⟨_, _, _, Ev.succ ?_, hgcd, hvs1, hvu1, ?_, by omega, by omega⟩
        · simp only [galoisref09_Xgcd.l0]
          exact Ev.neg h0 (Ev.neg (by omega) (Ev.cbind hlead (Ev.bind hce (Ev.bind hS1 (Ev.bind hS2 (Ev.bind hS3 (Ev.con rfl)))))))
        · rw [toF_scale, toF_scale]
          exact id_rdone h.ea hmon.eq
theorem ref_Xgcd_is {p : Int} (hp : MoP p) {f g : List Int} (hf : Val p f) (hg : Val p g) (hfl : f.length ≤ 1000) (hgl : g.length ≤ 1000) :
    ∃ d s u, Ev (fun k => galoisref09_Xgcd.f k p f g) (d, s, u) ∧ IsGcd p (toF p f) (toF p g) d ∧ Val p s ∧ Val p u ∧ toF p s * toF p f + toF p u * toF p g = toF p d ∧ s.length ≤ f.length + g.length + 1 ∧ u.length ≤ f.length + g.length + 1 := by
  have h1 : toF p [1] = 1 := Fx.ext fun i => by
    rw [Fx.one_c]
    show co [1] i % p = _
    cases i with
    | zero => rfl
    | succ i => rw [co_succ, co_nil, if_neg (by omega)]
  have hv1 : Val p [1] := ⟨fun i => by
    have := hp.1.lo
    cases i with
    | zero => rw [co_zero]; omega
    | succ i => rw [co_succ, co_nil]; omega, rfl⟩
  exact ref_Xgcd_loop hp (by omega) g.length f g [1] [] [] [1] rfl ⟨hf, hg, hv1, val_nil hp.1.pos, val_nil hp.1.pos, hv1, by rw [h1, toF_nil, CR.one_mul, CR.zero_mul, CR.add_0], by rw [h1, toF_nil, CR.one_mul, CR.zero_mul, CR.zero_add], fun e => Iff.rfl, by simp; omega, by simp; omega, by simp; omega, by simp; omega⟩
end Go.Proofs.Ytmknclgamadphaa.MPolymodDivisions
