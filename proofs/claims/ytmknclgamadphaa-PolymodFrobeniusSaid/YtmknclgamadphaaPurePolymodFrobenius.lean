/- The pure statement of PolymodFrobenius. -/
import Derived.Test.YtmknclgamadphaaS7PolymodFrobenius
import Derived.Test.YtmknclgamadphaaS8PolymodFrobenius
import Derived.Test.YtmknclgamadphaaA6PolymodFrobenius
namespace Go.Proofs.Ytmknclgamadphaa.Pure
open Go.RowKit Go.Proofs.Ytmknclgamadphaa.PPolymodFrobenius Go.Proofs.YtmknclgamadphaaW.PrintWords Go.Proofs.YtmknclgamadphaaW.PrintLast Go.Proofs.YtmknclgamadphaaW.PrintMore Go.Proofs.Ytmknclgamadphaa.MPolymodFrobenius
set_option linter.unusedVariables false
set_option linter.unusedSimpArgs false
theorem awake_is : Ev (fun k => galoislaw09_awake.f k) true := Ev.of (fun k => galoislaw09_awake.mono k) (k := 100) (by decide +kernel)
/-- The exponent: the bytes of a small number. -/
def fiOk (n : Nat) : Bool :=
  match galoisref01_FromInt.f 40 (n : Int) with
  | some e => decide (0 < e.size → bt e 0 ≠ 0) && (decide (e.size ≤ 2) && decide (numB e e.size = n))
  | none => false
theorem fi_all : (List.range 1001).all fiOk = true := by decide +kernel
theorem FromInt_is {p : Int} (h0 : 0 ≤ p) (h1 : p ≤ 1000) : ∃ e, Ev (fun k => galoisref01_FromInt.f k p) e ∧ (0 < e.size → bt e 0 ≠ 0) ∧ e.size ≤ 2 ∧ (numB e e.size : Int) = p := by
  have h := List.all_eq_true.1 fi_all p.toNat (List.mem_range.2 (by omega))
  unfold fiOk at h
  rw [Int.toNat_of_nonneg h0] at h
  split at h
  · rename_i e he
    simp only [Bool.and_eq_true, decide_eq_true_eq] at h
    exact ⟨e, Ev.of (fun k => galoisref01_FromInt.mono p k) (k := 40) he, h.1, h.2.1, by omega⟩
  · cases h
theorem natural_Check_ok {e : ByteArray} (h0 : 0 < e.size → bt e 0 ≠ 0) (h1 : e.size ≤ 2) : Ev (fun k => natural_Check.f k e) 0 := by
  have hj : Ev (fun k => natural_Check.j0 k e false) 0 := by
    refine Ev.succ ?_
    simp only [natural_Check.j0]
    exact Ev.neg (by decide) (Ev.neg (by omega) (Ev.con rfl))
  unfold natural_Check.f
  by_cases h : (e.size : Int) > 0
  · refine Ev.pos h (Ev.pos (by omega) ?_)
    rw [show (bt e 0 == 0) = false from by simp [h0 (by omega)]]
    exact hj
  · exact Ev.neg h hj
theorem PowMod_ok {p : Int} {f m : List Int} {e : ByteArray} (hf : Ok p f 65) (hm : Ok p m 65) (hne : m ≠ []) (h0 : 0 < e.size → bt e 0 ≠ 0) (h1 : e.size ≤ 2) :
    ∃ w, Ev (fun k => polymod_PowMod.f k p f e m) (w, 0) ∧ Val p w ∧ w.length < m.length ∧ Fx.Cg (toF p m) (CR.pw (toF p f) (numB e e.size)) (toF p w) := by
  have lf := hf.len; have lm := hm.len
  obtain ⟨q, r, h2, hd⟩ := fp_Rem_is hf.mo hf.va hm.va hne (by omega) (by omega)
  have hrl := hd.lt
  obtain ⟨w, w1, w2, w3, w4⟩ := fp_PowMod_is hf.mo hd.vr hm.va hne (by omega) (by omega) (e := e) (by omega)
  refine ⟨w, ?_, w2, w3, (hd.cg.pw _).trans w4⟩
  have := List.length_pos_iff.2 hne
  unfold polymod_PowMod.f
  exact Ev.bind (first2_ok hf hm) (Ev.pos rfl (Ev.bind (natural_Check_ok h0 h1) (Ev.pos rfl (Ev.neg (by omega) (Ev.bind h2 (Ev.bind w1 (Ev.con rfl)))))))
theorem Eval_ok {p : Int} {f : List Int} (hf : Ok p f 65) (a : Int) : Ev (fun k => polymod_Eval.f k p f a) (hn p (a % p) f f.length 0, 0) := by
  unfold polymod_Eval.f
  have hf1 : Ev (fun k => polymod_first.f k p [f]) 0 := Ev.eq (first1_is p f) (hf.chk (Nat.le_refl _))
  have := hf.len
  exact Ev.bind hf1 (Ev.pos rfl (Ev.cbind (fp_Mod_is hf.mo.1) (Ev.bind (fp_Eval_is hf.mo.1 hf.va (mod_bd hf.mo.1 a) (by omega)) (Ev.con rfl))))
theorem toF_one {p : Int} (c : Int) : toF p (trimZ [c]) = Fx.mono p c 0 := Fx.ext fun j => by
  rw [Fx.mono_c]
  show co (trimZ [c]) j % p = _
  rw [co_trimZ]
  cases j with
  | zero => rw [co_zero, if_pos rfl]
  | succ j => rw [co_succ, co_nil, if_neg (by omega)]
theorem toF_x {p : Int} : toF p [0, 1] = Fx.mono p 1 1 := Fx.ext fun j => by
  rw [Fx.mono_c]
  show co [0, 1] j % p = _
  match j with
  | 0 => rw [co_zero, if_neg (by omega)]
  | 1 => rw [co_succ, co_zero, if_pos rfl]
  | j + 2 => rw [co_succ, co_succ, co_nil, if_neg (by omega)]
/-- The law's own loop: Horner's rule modulo m. -/
theorem law_loop {p : Int} {f m w s : List Int} {n : Nat} (hn : (n : Int) = p) (hf : Ok p f 7) (hm : Ok p m 11) (hne : m ≠ []) (hs : Val p s) (hsl : s.length < m.length) (hw : Val p w) (hwl : w.length < m.length)
    (hsc : Fx.Cg (toF p m) (CR.pw (Fx.mono p 1 1) n) (toF p s)) (hwc : Fx.Cg (toF p m) (CR.pw (toF p f) n) (toF p w)) :
    ∀ (i : Nat) (v : List Int), i ≤ f.length → Val p v → v.length < m.length → Fx.Cg (toF p m) (CR.pw (Fx.shf p f i) n) (toF p v) → Ev (fun k => galoislaw09_PolymodFrobenius.l0 k f m p w s v ((i : Int) - 1)) true := by
  have lf := hf.len; have lm := hm.len
  intro i
  induction i with
  | zero =>
    intro v _ hv hvl hc
    rw [Fx.shf_zero] at hc
    have e1 : v = w := toF_inj hv hw ((hc.symm.trans hwc).eq hf.mo.2 (toF_top hm.va hne) ((toF_bd p v).mono (by omega)) ((toF_bd p w).mono (by omega)))
    refine Ev.succ ?_
    simp only [galoislaw09_PolymodFrobenius.l0]
    exact Ev.neg (by omega) (Ev.bind (Ev.eq (Same_is (f := v) (g := w) (by omega)) (decide_eq_true e1)) (Ev.con rfl))
  | succ i ih =>
    intro v hi hv hvl hc
    obtain ⟨t, t1, tv, _, tl, tF⟩ := Mul_ok (hm.of hv (m := 65) (by omega)) (hm.of hs (m := 65) (by omega)) (n := 65) (by omega) ((mul_small hf.mo).mono (by omega))
    have hol := len_one (co f i)
    obtain ⟨a, a1, av, al, aF⟩ := Add_ok (hm.of tv (m := 65) (by omega)) (hm.of (val_one hf.va i) (m := 65) (by omega))
    obtain ⟨q, r, r1, hd, _⟩ := DivMod_ok (hm.of av (m := 65) (by omega)) (hm.mono (m := 65) (by omega)) hne
    have hrl := hd.lt
    have hT : Ev (fun k => galoisref09_Trim.f k [co f i]) (trimZ [co f i]) := ref_Trim_ev (l := [co f i]) (by simp)
    refine Ev.succ ?_
    simp only [galoislaw09_PolymodFrobenius.l0]
    rw [show ((i + 1 : Nat) : Int) - 1 = (i : Int) from by omega, rd_co, Int.toNat_natCast, w64 (x := (i : Int) - 1) (by omega) (by omega)]
    refine Ev.pos (by omega) (Ev.bind t1 (Ev.pos (by omega) (Ev.pos (by omega) (Ev.bind hT (Ev.bind a1 (Ev.bind r1 (Ev.pos rfl (Ev.pos rfl (Ev.pos rfl (Ev.neg (by simp only; omega) (ih r (by omega) hd.vr hrl ?_)))))))))))
    have e2 : toF p a = toF p s * toF p v + Fx.mono p (co f i) 0 := by rw [aF, tF, toF_one, CR.mul_comm]
    have h1 := (hsc.mul hc).add (Fx.Cg.refl (g := toF p m) (Fx.po_mono (co f i) 0))
    rw [← e2, ← pw_shf hf.mo.2 hn hf.va] at h1
    exact h1.trans hd.cg

theorem PolymodFrobenius : galoislaw09_PolymodFrobenius.Pure := by
  intro p a f m _ _ _ _ _ _ _ _
  refine Ev.rounds (g := fun k => galoislaw09_PolymodFrobenius.f k p a f m) ?_
  have hj : ∀ b : Bool, (b = false → Ok p f 7 ∧ Ok p m 11 ∧ p ≤ 1000 ∧ 2 ≤ m.length) → Ev (fun k => galoislaw09_PolymodFrobenius.j0 k f m p a b) true := by
    intro b hb
    refine Ev.succ ?_
    simp only [galoislaw09_PolymodFrobenius.j0]
    cases b
    case true => exact Ev.pos rfl (Ev.bind awake_is (Ev.con rfl))
    obtain ⟨hf, hm, hp1, hm2⟩ := hb rfl
    have hp := hf.mo
    have lf := hf.len; have lm := hm.len
    have hf' := hf.mono (m := 65) (by omega); have hm' := hm.mono (m := 65) (by omega)
    have hne : m ≠ [] := List.length_pos_iff.1 (by omega)
    obtain ⟨t, t1, tv, tl, _, tF⟩ := Mul_ok hf' hm' (n := 65) (by omega) ((mul_small hp).mono (by omega))
    obtain ⟨x, e, c1, c2⟩ := Compose_is (hf'.chk (Nat.le_refl _)) (hm'.chk (Nat.le_refl _))
    have hcl := comp_len hp hf.va hm.va
    have hmul : (f.length - 1) * (m.length - 1) ≤ 6 * 10 := Nat.mul_le_mul (by omega) (by omega)
    obtain ⟨rfl, rfl⟩ : x = cmp_ p f m f.length [] ∧ e = 0 := by
      rcases c2 with ⟨d1, _, _⟩ | ⟨_, d2, d3⟩
      · omega
      · exact ⟨d2, d3⟩
    have hx : Ok p (cmp_ p f m f.length []) 65 := hf.of (cmp_val hp.1 _ _ (val_nil hp.1.pos)) (by omega)
    have ry := hn_rng (a := a % p) hp.1.pos (f := m) m.length 0 ⟨Int.le_refl _, hp.1.pos⟩
    have rx := hn_rng (a := a % p) hp.1.pos (f := f) f.length 0 ⟨Int.le_refl _, hp.1.pos⟩
    have vm := val_mul (a := a % p) hp tF
    have vc := val_comp (a := a % p) hp (f := f) (m := m) hf.va
    have hz : hn p (hn p (a % p) m m.length 0 % p) f f.length 0 = hn p (hn p (a % p) m m.length 0) f f.length 0 := by rw [Int.emod_eq_of_lt ry.1 ry.2]
    have E1 := Eval_ok hf' a
    have E2 := Eval_ok hm' a
    have E3 := Eval_ok (hf.of tv tl) a
    have E4 := Eval_ok hx a
    have E5 := Eval_ok hf' (hn p (a % p) m m.length 0)
    have hxy : Int.tmod (wrap64 (hn p (a % p) f f.length 0 * hn p (a % p) m m.length 0)) p = hn p (a % p) t t.length 0 := by
      have b := mul_bd hp.1 rx ry
      rw [w64 (by omega) (by omega), tmod_pos (by omega), vm]
    have hj2 : Ev (fun k => galoislaw09_PolymodFrobenius.j1 k f m p false) true := by
      obtain ⟨e, e1, e2, e3, e4⟩ := FromInt_is (p := p) (by have := hp.1.pos; omega) hp1
      have hX : Ok p [0, 1] 65 := hf.of ⟨fun i => by
        have := hp.1.lo
        match i with
        | 0 => rw [co_zero]; omega
        | 1 => rw [co_succ, co_zero]; omega
        | i + 2 => rw [co_succ, co_succ, co_nil]; omega, rfl⟩ (by simp)
      obtain ⟨w, w1, wv, wl, wc⟩ := PowMod_ok hf' hm' hne e2 e3
      obtain ⟨s, s1, sv, sl, sc⟩ := PowMod_ok hX hm' hne e2 e3
      rw [toF_x] at sc
      refine Ev.succ ?_
      simp only [galoislaw09_PolymodFrobenius.j1]
      refine Ev.neg (by decide) (Ev.bind e1 (Ev.bind w1 (Ev.bind s1 (Ev.pos rfl (Ev.pos rfl ?_)))))
      rw [decide_eq_false (show ¬ ((s.length : Int) ≥ (m.length : Int)) by omega)]
      refine Ev.succ ?_
      simp only [galoislaw09_PolymodFrobenius.j2]
      refine Ev.neg (by decide) ?_
      rw [w64 (x := (f.length : Int) - 1) (by omega) (by omega)]
      refine law_loop e4 hf hm hne sv sl wv wl sc wc f.length [] (Nat.le_refl _) (val_nil hp.1.pos) (by simp; omega) ?_
      rw [Fx.shf_end f (Nat.le_refl _), toF_nil]
      have h0 : CR.pw (0 : Fx p) (numB e e.size) = 0 := by
        have hpos : 0 < numB e e.size := by have := hp.1.pos; omega
        obtain ⟨n, hn⟩ : ∃ n, numB e e.size = n + 1 := ⟨numB e e.size - 1, by omega⟩
        rw [hn]
        show CR.pw 0 n * 0 = 0
        exact CR.mul_0 _
      rw [h0]
      exact Fx.Cg.refl ⟨0, Fx.bd_zero 0⟩
    refine Ev.neg (by decide) (Ev.bind t1 (Ev.bind E1 (Ev.bind E2 (Ev.bind E3 (Ev.bind c1 (Ev.bind E4 (Ev.bind E5 (Ev.pos rfl (Ev.pos rfl (Ev.pos rfl (Ev.pos rfl (Ev.pos rfl (Ev.pos rfl (Ev.pos rfl (Ev.neg (by simp only; omega) (Ev.neg (by simp only; omega) (Ev.neg (by simp only; omega) (Ev.neg (by simp only; omega) (Ev.neg (by have := hp.1.pos; omega) (Ev.pos (by simp only; exact hxy.symm) ?_))))))))))))))))))))
    have hb2 : (hn p (a % p) (cmp_ p f m f.length []) (cmp_ p f m f.length []).length 0 != hn p (hn p (a % p) m m.length 0 % p) f f.length 0) = false := by
      rw [hz, vc]; simp
    simp only
    rw [hb2]
    exact hj2
  unfold galoislaw09_PolymodFrobenius.f
  refine Ev.bind awake_is (Ev.pos rfl (Ev.bind (few_is p f m 10 (by omega)) ?_))
  by_cases h1 : (chk p f = 0 ∧ f.length ≤ 10 + 1) ∧ (chk p m = 0 ∧ m.length ≤ 10 + 1)
  · refine Ev.pos (decide_eq_true h1) ?_
    by_cases h2 : p > 1000
    · exact Ev.pos h2 (hj true fun h => by cases h)
    by_cases h3 : (f.length : Int) > 7
    · exact Ev.neg h2 (Ev.pos h3 (hj true fun h => by cases h))
    refine Ev.neg h2 (Ev.neg h3 (hj _ fun h => ?_))
    have h4 : ¬ ((m.length : Int) < 2) := of_decide_eq_false h
    exact ⟨ok_of_chk h1.1.1 (by omega), ok_of_chk h1.2.1 h1.2.2, by omega, by omega⟩
  · exact Ev.neg (by simp [h1]) (hj true fun h => by cases h)
end Go.Proofs.Ytmknclgamadphaa.Pure
