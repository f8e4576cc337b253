/- galoisref02: integers as structs of a sign and a string. -/
import Derived.Test.YtohmfjmgeecfkaaGreatXUb
import Derived.Test.YtohmfjmgeecfkaaGreatXN
namespace Go.AM
open Go.Proofs
open Go.AM.Q
open Go.AM.U
set_option linter.unusedVariables false
set_option linter.unusedSimpArgs false
set_option maxRecDepth 100000
noncomputable section
variable {out : V × St}
/-- an integer -/
def iv (z : Int) : V := .ag [.b (decide (z < 0)), .s (strN z.natAbs)]
theorem iv_inj {a b : Int} (h : iv a = iv b) : a = b := by
  have h1 : V.ag [.b (decide (a < 0)), .s (strN a.natAbs)] = .ag [.b (decide (b < 0)), .s (strN b.natAbs)] := h
  injection h1 with h2
  injection h2 with h3 h4
  injection h4 with h5 _
  injection h3 with h6
  injection h5 with h7
  have h8 := strN_inj h7
  have h9 : (a < 0) ↔ (b < 0) := decide_eq_decide.1 h6
  omega
/-- the sign and the absolute value make an integer; zero has no sign -/
def mkI (s : Bool) (n : Nat) : V := .ag [.b (s && decide (n ≠ 0)), .s (strN n)]
theorem mkI_iv (s : Bool) (n : Nat) : mkI s n = iv (if s then -(n : Int) else n) := by
  unfold mkI iv
  cases s with
  | false => rw [if_neg (by simp), decide_eq_false (show ¬ ((n : Int) < 0) by omega), Int.natAbs_natCast]; rfl
  | true =>
    rw [if_pos rfl, Int.natAbs_neg, Int.natAbs_natCast]
    congr 2
    show V.b (true && decide (n ≠ 0)) = V.b (decide (-(n : Int) < 0))
    congr 1
    by_cases h : n = 0
    · subst h; rfl
    · rw [decide_eq_true h, decide_eq_true (show -(n : Int) < 0 by omega)]; rfl
theorem mk62 (s : Bool) (n : Nat) : ∃ S2, F62 (.b s) (.s (strN n)) (mkS []) (fun v S => some (v, S)) = some (mkI s n, S2) := by
  cases s with
  | false => exact ⟨_, rfl⟩
  | true =>
    by_cases h : n = 0
    · subst h; exact ⟨_, rfl⟩
    · have e : ∃ x l, strN n = x :: l := by
        cases hs : strN n with
        | nil => exact absurd ((strN_len0 n).1 (by rw [hs]; rfl)) h
        | cons x l => exact ⟨x, l, rfl⟩
      obtain ⟨x, l, e⟩ := e
      unfold mkI
      rw [e, decide_eq_true h]
      exact ⟨_, rfl⟩
open Classical in
def E62 : List V → Option V
  | [.b s, .s a] => if ∃ n, a = strN n then some (mkI s (U.val a)) else none
  | _ => none
def F62t : Gn 2 := cur 2 (pureF E62)
theorem K62t : FOK Tryz.prog 62 (un 2 F62t) := cur_ok 2 (pureS_ok K62 E62 fun vs v hv => by
  unfold E62 at hv
  split at hv
  · split at hv
    · rename_i s a hc
      obtain ⟨n, rfl⟩ := hc
      cases hv
      rw [val_strN]
      obtain ⟨S2, z⟩ := mk62 s n
      exact ⟨by rfl, by rfl, S2, by rw [un2p]; exact z⟩
    · cases hv
  · cases hv)
theorem make_eq (s : Bool) (n : Nat) (S : St) (k : Cont) : F62t (.b s) (.s (strN n)) S k = k (iv (if s then -(n : Int) else n)) S := by
  have e : E62 [.b s, .s (strN n)] = some (mkI s n) := by
    unfold E62
    simp only []
    rw [if_pos ⟨n, rfl⟩, val_strN]
  show pureF E62 [.b s, .s (strN n)] S k = _
  simp only [pureF, e, mkI_iv]
open Classical in
/-- a function of two integers -/
def DI2 (op : Int → Int → Int) (ok : Int → Int → Prop) : List V → Option V := fun vs => if h : ∃ ab : Int × Int, vs = [iv ab.1, iv ab.2] ∧ ok ab.1 ab.2 then some (iv (op h.choose.1 h.choose.2)) else none
theorem DI2_some {op : Int → Int → Int} {ok : Int → Int → Prop} {a b : Int} (h : ok a b) : DI2 op ok [iv a, iv b] = some (iv (op a b)) := by
  unfold DI2
  have hx : ∃ ab : Int × Int, [iv a, iv b] = [iv ab.1, iv ab.2] ∧ ok ab.1 ab.2 := ⟨(a, b), rfl, h⟩
  rw [dif_pos hx]
  have h1 := hx.choose_spec.1
  injection h1 with h2 h3
  injection h3 with h4 _
  rw [← iv_inj h2, ← iv_inj h4]
theorem pl_iv (z : Int) : plV (iv z) = true := rfl
theorem DI2_ok {P : Program} {f : FuncId} {F : Gn 2} (hF : FOK P f (un 2 F)) {op : Int → Int → Int} {ok : Int → Int → Prop} (h : ∀ a b, ok a b → ∃ S2, F (iv a) (iv b) (mkS []) (fun v S => some (v, S)) = some (iv (op a b), S2)) : FOK P f (un 2 (cur 2 (pureF (DI2 op ok)))) :=
  cur_ok 2 (pureS_ok hF _ fun vs v hv => by
    unfold DI2 at hv
    split at hv
    · rename_i hx
      cases hv
      obtain ⟨S2, z⟩ := h _ _ hx.choose_spec.2
      have e := hx.choose_spec.1
      exact ⟨(congrArg plL e).trans rfl, rfl, S2, (congrArg (fun l => un 2 F l (mkS []) (fun v S => some (v, S))) e).trans z⟩
    · cases hv)
theorem DI2_eq {op : Int → Int → Int} {ok : Int → Int → Prop} {a b : Int} (h : ok a b) (S : St) (k : Cont) : cur 2 (pureF (DI2 op ok)) (iv a) (iv b) S k = k (iv (op a b)) S := by
  show pureF (DI2 op ok) [iv a, iv b] S k = _
  simp only [pureF, DI2_some h]
/- Mul -/
theorem run54 (f17 f62 : Gn 2) (s t : Bool) (la lb lc : List Nat) (r : V) (u : Bool) (hr : r = .ag [.b u, .s lc]) (h17 : ∀ S k, f17 (.s la) (.s lb) S k = k (.s lc) S) (h62 : ∀ S k, f62 (.b (Bool.xor s t)) (.s lc) S k = k r S) :
    ∃ S2, G54 (C54 f17 f62) (.ag [.b s, .s la]) (.ag [.b t, .s lb]) (mkS []) (fun v S => some (v, S)) = some (r, S2) := by
  subst hr
  cases s <;> cases t <;> (first | (change ∀ S k, f62 (.b false) (.s lc) S k = k _ S at h62) | (change ∀ S k, f62 (.b true) (.s lc) S k = k _ S at h62)) <;> (refine ⟨?_, ?_⟩; rotate_left; (show f17 (.s la) (.s lb) _ _ = _); rw [h17]; (show f62 _ (.s lc) _ _ = _); rw [h62]; rfl)
def F54x : Gn 2 := G54 (C54 F17t F62t)
theorem K54x : FOK Tryz.prog 54 (un 2 F54x) := fokP (.cons K17t (.cons K62t .nil)) .nil hm Tryz.func54 (by kernel_rfl) (D54 F17t F62t) (H54 _)
/-- the lengths are below m -/
def Short (m : Nat) (a b : Int) : Prop := (strN a.natAbs).length ≤ m ∧ (strN b.natAbs).length ≤ m
theorem sgn_mul (a b : Int) : (if Bool.xor (decide (a < 0)) (decide (b < 0)) then -((a.natAbs * b.natAbs : Nat) : Int) else ((a.natAbs * b.natAbs : Nat) : Int)) = a * b := by
  have e : ((a.natAbs * b.natAbs : Nat) : Int) = a.natAbs * b.natAbs := Int.natCast_mul _ _
  by_cases ha : a < 0 <;> by_cases hb : b < 0
  · rw [decide_eq_true ha, decide_eq_true hb]
    show ((a.natAbs * b.natAbs : Nat) : Int) = a * b
    rw [e, show (a.natAbs : Int) = -a by omega, show (b.natAbs : Int) = -b by omega, Int.neg_mul_neg]
  · rw [decide_eq_true ha, decide_eq_false hb]
    show -((a.natAbs * b.natAbs : Nat) : Int) = a * b
    rw [e, show (a.natAbs : Int) = -a by omega, show (b.natAbs : Int) = b by omega, Int.neg_mul, Int.neg_neg]
  · rw [decide_eq_false ha, decide_eq_true hb]
    show -((a.natAbs * b.natAbs : Nat) : Int) = a * b
    rw [e, show (a.natAbs : Int) = a by omega, show (b.natAbs : Int) = -b by omega, Int.mul_neg, Int.neg_neg]
  · rw [decide_eq_false ha, decide_eq_false hb]
    show ((a.natAbs * b.natAbs : Nat) : Int) = a * b
    rw [e, show (a.natAbs : Int) = a by omega, show (b.natAbs : Int) = b by omega]
theorem natAbs_mk (a b : Int) : iv (a * b) = .ag [.b (decide (a * b < 0)), .s (strN (a.natAbs * b.natAbs))] := by
  unfold iv; rw [Int.natAbs_mul]
def F54t : Gn 2 := cur 2 (pureF (DI2 (· * ·) (Short 50000)))
theorem K54t : FOK Tryz.prog 54 (un 2 F54t) := DI2_ok K54x fun a b h =>
  run54 F17t F62t _ _ _ _ (strN (a.natAbs * b.natAbs)) (iv (a * b)) _ (natAbs_mk a b) (fun S k => mul_eq h.1 h.2 S k) (fun S k => by rw [make_eq, sgn_mul])
end
end Go.AM

/- galoisref02.Add, FromInt, Pow. -/
namespace Go.AM
open Go.Proofs
open Go.AM.Q
open Go.AM.U
set_option linter.unusedVariables false
set_option linter.unusedSimpArgs false
set_option maxRecDepth 100000
noncomputable section
variable {out : V × St}
section
variable (f16 f62 f103 f104 : Gn 2) (la lb lc : List Nat) (r g : V) (u w : Bool)
theorem run53e (s : Bool) (hr : r = .ag [.b u, .s lc]) (h16 : ∀ S k, f16 (.s la) (.s lb) S k = k (.s lc) S) (h62 : ∀ S k, f62 (.b s) (.s lc) S k = k r S) :
    ∃ S2, G53 (C53 f16 f62 f103 f104) (.ag [.b s, .s la]) (.ag [.b s, .s lb]) (mkS []) (fun v S => some (v, S)) = some (r, S2) := by
  subst hr
  cases s <;> (refine ⟨?_, ?_⟩; rotate_left; (show f16 (.s la) (.s lb) _ _ = _); rw [h16]; (show f62 _ (.s lc) _ _ = _); rw [h62]; rfl)
theorem run53g (s : Bool) (hr : r = .ag [.b u, .s lc]) (h103 : ∀ S k, f103 (.s la) (.s lb) S k = k g S) (hg : ∀ c, pGeq g (nn 0) c = c (.b true)) (h104 : ∀ S k, f104 (.s la) (.s lb) S k = k (.s lc) S) (h62 : ∀ S k, f62 (.b s) (.s lc) S k = k r S) :
    ∃ S2, G53 (C53 f16 f62 f103 f104) (.ag [.b s, .s la]) (.ag [.b (Bool.not s), .s lb]) (mkS []) (fun v S => some (v, S)) = some (r, S2) := by
  subst hr
  cases s <;> (refine ⟨?_, ?_⟩; rotate_left; (show f103 (.s la) (.s lb) _ _ = _); rw [h103]; (show pGeq g (nn 0) _ = _); rw [hg]; (show f104 (.s la) (.s lb) _ _ = _); rw [h104]; (show f62 _ (.s lc) _ _ = _); rw [h62]; rfl)
theorem run53l (s : Bool) (hr : r = .ag [.b u, .s lc]) (h103 : ∀ S k, f103 (.s la) (.s lb) S k = k g S) (hg : ∀ c, pGeq g (nn 0) c = c (.b false)) (h104 : ∀ S k, f104 (.s lb) (.s la) S k = k (.s lc) S) (h62 : ∀ S k, f62 (.b (Bool.not s)) (.s lc) S k = k r S) :
    ∃ S2, G53 (C53 f16 f62 f103 f104) (.ag [.b s, .s la]) (.ag [.b (Bool.not s), .s lb]) (mkS []) (fun v S => some (v, S)) = some (r, S2) := by
  subst hr
  cases s <;> (refine ⟨?_, ?_⟩; rotate_left; (show f103 (.s la) (.s lb) _ _ = _); rw [h103]; (show pGeq g (nn 0) _ = _); rw [hg]; (show f104 (.s lb) (.s la) _ _ = _); rw [h104]; (show f62 _ (.s lc) _ _ = _); rw [h62]; rfl)
end
def F53x : Gn 2 := G53 (C53 F16t F62t F103 F104t)
theorem K53x : FOK Tryz.prog 53 (un 2 F53x) := fokP (.cons K16t (.cons K62t (.cons K103 (.cons K104t .nil)))) .nil hm Tryz.func53 (by kernel_rfl) (D53 F16t F62t F103 F104t) (H53 _)
theorem iv_ag (z : Int) : iv z = .ag [.b (decide (z < 0)), .s (strN z.natAbs)] := rfl
def F53t : Gn 2 := cur 2 (pureF (DI2 (· + ·) (Short 50000)))
theorem geq_neg1 (c : V → R) : pGeq (nn 18446744073709551615) (nn 0) c = c (.b false) := geq_neg (d := 1) (by omega) (by omega) c
theorem K53t : FOK Tryz.prog 53 (un 2 F53t) := DI2_ok K53x fun a b h => by
  show ∃ S2, F53x (iv a) (iv b) (mkS []) (fun v S => some (v, S)) = some (iv (a + b), S2)
  have hl1 := h.1
  have hl2 := h.2
  by_cases hs : (a < 0) ↔ (b < 0)
  · have e : decide (b < 0) = decide (a < 0) := decide_eq_decide.2 hs.symm
    have hn : (a + b).natAbs = a.natAbs + b.natAbs := by omega
    rw [iv_ag a, iv_ag b, e]
    exact run53e F16t F62t F103 F104t _ _ (strN (a.natAbs + b.natAbs)) (iv (a + b)) (decide (a + b < 0)) _ (by rw [iv_ag, hn]) (fun S k => E2_eq (by omega) (by omega) S k) (fun S k => by
      rw [make_eq]
      congr 2
      by_cases ha : a < 0
      · rw [decide_eq_true ha, if_pos rfl]; omega
      · rw [decide_eq_false ha, if_neg (by simp)]; omega)
  · have e : decide (b < 0) = Bool.not (decide (a < 0)) := by
      by_cases ha : a < 0 <;> by_cases hb : b < 0
      · exact absurd ⟨fun _ => hb, fun _ => ha⟩ hs
      · rw [decide_eq_true ha, decide_eq_false hb]; rfl
      · rw [decide_eq_false ha, decide_eq_true hb]; rfl
      · exact absurd ⟨fun h => absurd h ha, fun h => absurd h hb⟩ hs
    have hcmp : ∀ S k, F103 (.s (strN a.natAbs)) (.s (strN b.natAbs)) S k = k (cmpV a.natAbs b.natAbs) S := fun S k => cmp_run (by omega) (by omega) S k
    rw [iv_ag a, iv_ag b, e]
    by_cases hlt : a.natAbs < b.natAbs
    · have hn : (a + b).natAbs = b.natAbs - a.natAbs := by omega
      refine run53l F16t F62t F103 F104t _ _ (strN (b.natAbs - a.natAbs)) (iv (a + b)) (cmpV a.natAbs b.natAbs) (decide (a + b < 0)) _ (by rw [iv_ag, hn]) hcmp (fun c => by unfold cmpV; rw [if_pos hlt]; exact geq_neg1 c) (fun S k => E2c_eq (by omega) (by omega) S k) (fun S k => ?_)
      rw [make_eq, ← e]
      congr 2
      by_cases hb : b < 0
      · rw [decide_eq_true hb, if_pos rfl]; omega
      · rw [decide_eq_false hb, if_neg (by simp)]; omega
    · have hn : (a + b).natAbs = a.natAbs - b.natAbs := by omega
      refine run53g F16t F62t F103 F104t _ _ (strN (a.natAbs - b.natAbs)) (iv (a + b)) (cmpV a.natAbs b.natAbs) (decide (a + b < 0)) _ (by rw [iv_ag, hn]) hcmp (fun c => ?_) (fun S k => E2c_eq (by omega) (by omega) S k) (fun S k => ?_)
      · unfold cmpV
        rw [if_neg hlt]
        split
        · rw [geq_n (by omega) (by omega)]; rfl
        · rw [geq_n (by omega) (by omega)]; rfl
      · rw [make_eq]
        congr 2
        by_cases ha : a < 0
        · rw [decide_eq_true ha, if_pos rfl]; omega
        · rw [decide_eq_false ha, if_neg (by simp)]; omega
theorem iadd_eq {a b : Int} (h : Short 50000 a b) (S : St) (k : Cont) : F53t (iv a) (iv b) S k = k (iv (a + b)) S := DI2_eq h S k
theorem imul_eq {a b : Int} (h : Short 50000 a b) (S : St) (k : Cont) : F54t (iv a) (iv b) S k = k (iv (a * b)) S := DI2_eq h S k
end
end Go.AM

/- galoisref02.FromInt, Pow, DivMod, Quo. -/
namespace Go.AM
open Go.Proofs
open Go.AM.Q
open Go.AM.U
set_option linter.unusedVariables false
set_option linter.unusedSimpArgs false
set_option maxRecDepth 100000
noncomputable section
variable {out : V × St}
/- FromInt -/
theorem run20 (f61 : Gn 1) (v x : V) (l : List Nat) (h1 : ∀ c, pLss v (nn 0) c = c (.b false)) (h2 : ∀ c, pConv .u64 v c = c x) (h61 : ∀ S k, f61 x S k = k (.s l) S) :
    ∃ S2, G20 (C20 f61) v (mkS []) (fun v S => some (v, S)) = some (.ag [.b false, .s l], S2) := by
  refine ⟨?_, ?_⟩
  rotate_left
  · simp only [G20, C20, cSeq, cReg, cCond, cSkip, cRet, h1, h2, h61, ifF]
    rfl
theorem run20n (f61 : Gn 1) (v a b d x : V) (l : List Nat) (h1 : ∀ c, pLss v (nn 0) c = c (.b true)) (h2 : ∀ c, pAdd v (nn 1) c = c a) (h3 : ∀ c, pNeg a c = c b) (h4 : ∀ c, pConv .u64 b c = c d) (h5 : ∀ c, pAdd d (uu 1) c = c x) (h61 : ∀ S k, f61 x S k = k (.s l) S) :
    ∃ S2, G20 (C20 f61) v (mkS []) (fun v S => some (v, S)) = some (.ag [.b true, .s l], S2) := by
  refine ⟨?_, ?_⟩
  rotate_left
  · simp only [G20, C20, cSeq, cReg, cCond, cSkip, cRet, h1, h2, h3, h4, h5, h61, ifT]
    rfl
theorem conv64 {n : Nat} (hn : n < 9223372036854775808) (c : V → R) : pConv .u64 (nn n) c = c (uu n) := by
  show retI c .u64 (cvI .i64 .u64 n) = _
  rw [retI_eq]
  have : cvI .i64 .u64 n = n := by
    unfold cvI
    rw [neg_n hn]
    show n % 18446744073709551616 = n
    omega
  rw [this]
/-- a machine integer as an integer -/
def mi (k : Nat) : Int := if k < 9223372036854775808 then (k : Int) else (k : Int) - 18446744073709551616
theorem neg_i (a : Nat) (c : V → R) : pNeg (nn a) c = c (nn ((18446744073709551616 - a) % 18446744073709551616)) := by
  have e : pNeg (nn a) c = retI c .i64 (Nat.mod (Nat.sub (M .i64) a) (M .i64)) := by rfl
  rw [e, retI_eq]; rfl
def F20x : Gn 1 := G20 (C20 F61t)
theorem K20x : FOK Tryz.prog 20 (un 1 F20x) := fokP (.cons K61t .nil) .nil hm Tryz.func20 (by kernel_rfl) (D20 F61t) (H20 _)
theorem from_run {k : Nat} (hk : k < 18446744073709551616) : ∃ S2, F20x (nn k) (mkS []) (fun v S => some (v, S)) = some (iv (mi k), S2) := by
  unfold F20x mi
  by_cases h : k < 9223372036854775808
  · rw [if_pos h, iv_ag, decide_eq_false (by omega), Int.natAbs_natCast]
    exact run20 F61t _ (uu k) _ (fun c => by rw [lss_n h (by omega)]; rfl) (fun c => conv64 h c) (fun S k => F61t_eq (by omega) S k)
  · obtain ⟨d, hd, rfl⟩ : ∃ d, d < 9223372036854775808 ∧ k = M64 - (d + 1) := ⟨M64 - k - 1, by have : M64 = 18446744073709551616 := rfl; omega, by have : M64 = 18446744073709551616 := rfl; omega⟩
    have eM : M64 = 18446744073709551616 := rfl
    have hn : (((M64 - (d + 1) : Nat) : Int) - 18446744073709551616).natAbs = d + 1 := by omega
    rw [if_neg h, iv_ag, decide_eq_true (by omega), hn]
    have hneg : ∀ c, pNeg (nn ((M64 - (d + 1) + 1) % 18446744073709551616)) c = c (nn d) := fun c => by
      rw [neg_i]
      congr 2
      show (18446744073709551616 - (18446744073709551616 - (d + 1) + 1) % 18446744073709551616) % 18446744073709551616 = d
      omega
    exact run20n F61t _ _ _ (uu d) (uu (d + 1)) _ (fun c => by
      have := sh_neg (d := d + 1) (by omega) (by omega)
      rw [pLss_i, this, sh_lt (by omega), blt_eq, decide_eq_true (by omega)]) (fun c => pAdd_i .i64 _ _ c) hneg (fun c => conv64 hd c) (fun c => uadd (by omega) c) (fun S k => F61t_eq (by omega) S k)
def E20 : List V → Option V
  | [.i .i64 k] => if k < 18446744073709551616 then some (iv (mi k)) else none
  | _ => none
def F20t : Gn 1 := cur 1 (pureF E20)
theorem K20t : FOK Tryz.prog 20 (un 1 F20t) := cur_ok 1 (pureS_ok K20x E20 fun vs v hv => by
  unfold E20 at hv
  split at hv
  · split at hv
    · rename_i k hk
      cases hv
      obtain ⟨S2, z⟩ := from_run hk
      exact ⟨by rfl, by rfl, S2, by rw [un1p]; exact z⟩
    · cases hv
  · cases hv)
theorem from_eq {k : Nat} (hk : k < 18446744073709551616) (S : St) (c : Cont) : F20t (nn k) S c = c (iv (mi k)) S := by
  have e : E20 [nn k] = some (iv (mi k)) := if_pos hk
  show pureF E20 [nn k] S c = _
  simp only [pureF, e]
/- Pow of a number that is not negative -/
theorem run19 (f62 f63 : Gn 2) (la lc : List Nat) (v r : V) (u : Bool) (hr : r = .ag [.b u, .s lc]) (h63 : ∀ S k, f63 (.s la) v S k = k (.s lc) S) (h62 : ∀ S k, f62 (.b false) (.s lc) S k = k r S) :
    ∃ S2, G19 (C19 f62 f63) (.ag [.b false, .s la]) v (mkS []) (fun v S => some (v, S)) = some (r, S2) := by
  subst hr
  refine ⟨?_, ?_⟩
  rotate_left
  · show f63 (.s la) v _ _ = _
    rw [h63]
    show f62 _ (.s lc) _ _ = _
    rw [h62]; rfl
def F19x : Gn 2 := G19 (C19 F62t F63x)
theorem K19x : FOK Tryz.prog 19 (un 2 F19x) := fokP (.cons K62t (.cons K63x .nil)) .nil hm Tryz.func19 (by kernel_rfl) (D19 F62t F63x) (H19 _)
open Classical in
def E19 : List V → Option V := fun vs => if h : ∃ ak : Nat × Nat, vs = [iv (ak.1 : Int), nn ak.2] ∧ ak.2 < 1000 ∧ (strN ak.1).length ≤ 16 then some (iv ((h.choose.1 ^ h.choose.2 : Nat) : Int)) else none
def F19t : Gn 2 := cur 2 (pureF E19)
theorem iv_nat (n : Nat) : iv (n : Int) = .ag [.b false, .s (strN n)] := by rw [iv_ag, decide_eq_false (by omega), Int.natAbs_natCast]
theorem K19t : FOK Tryz.prog 19 (un 2 F19t) := cur_ok 2 (pureS_ok K19x E19 fun vs v hv => by
  unfold E19 at hv
  split at hv
  · rename_i hx
    cases hv
    obtain ⟨e, h1, h2⟩ := hx.choose_spec
    have ha := strN_up hx.choose.1
    have hb : hx.choose.1 < 256 ^ 16 := Nat.lt_of_lt_of_le ha (Nat.pow_le_pow_right (by decide) h2)
    obtain ⟨S2, z⟩ := run19 F62t F63x (strN hx.choose.1) (strN (hx.choose.1 ^ hx.choose.2)) (nn hx.choose.2) (iv ((hx.choose.1 ^ hx.choose.2 : Nat) : Int)) false (iv_nat _) (fun S k => pow_eq (w := 16) hb (by omega) (by omega) S k) (fun S k => by rw [make_eq, if_neg (by simp)])
    refine ⟨(congrArg plL e).trans rfl, rfl, S2, (congrArg (fun l => un 2 F19x l (mkS []) (fun v S => some (v, S))) e).trans ?_⟩
    rw [un2p, iv_nat]; exact z
  · cases hv)
theorem ipow_eq {a k : Nat} (hk : k < 1000) (ha : (strN a).length ≤ 16) (S : St) (c : Cont) : F19t (iv (a : Int)) (nn k) S c = c (iv ((a ^ k : Nat) : Int)) S := by
  have hx : ∃ ak : Nat × Nat, [iv (a : Int), nn k] = [iv (ak.1 : Int), nn ak.2] ∧ ak.2 < 1000 ∧ (strN ak.1).length ≤ 16 := ⟨(a, k), rfl, hk, ha⟩
  have e : E19 [iv (a : Int), nn k] = some (iv ((a ^ k : Nat) : Int)) := by
    unfold E19
    rw [dif_pos hx]
    have h1 := hx.choose_spec.1
    injection h1 with h2 h3
    injection h3 with h4 _
    injection h4 with _ h5
    have h6 := iv_inj h2
    have h7 : a = hx.choose.1 := by omega
    rw [← h7, ← h5]
  show pureF E19 [iv (a : Int), nn k] S c = _
  simp only [pureF, e]
end
end Go.AM
