/- galoisref02.DivMod, Quo: pure texts on integers. -/
import Derived.Test.YtohmfjmgeecfkaaGreatXUc
import Derived.Test.YtohmfjmgeecfkaaGreatXYa
namespace Go.AM
open Go.Proofs
open Go.AM.Q
open Go.AM.U
set_option linter.unusedVariables false
set_option linter.unusedSimpArgs false
set_option maxRecDepth 100000
noncomputable section
variable {out : V × St}
section
variable (f16 : Gn 2) (f61 : Gn 1) (f62 f104 f143 : Gn 2) (la lb lq lr lo lq' lr' : List Nat) (rq : V) (u : Bool)
theorem run106p (hr : rq = .ag [.b u, .s lq]) (h143 : ∀ S k, f143 (.s la) (.s lb) S k = k (.tu [.s lq, .s lr]) S) (h62 : ∀ S k, f62 (.b false) (.s lq) S k = k rq S) :
    ∃ S2, G106 (C106 f16 f61 f62 f104 f143) (.ag [.b false, .s la]) (.ag [.b false, .s lb]) (mkS []) (fun v S => some (v, S)) = some (.tu [rq, .ag [.b false, .s lr]], S2) := by
  subst hr
  refine ⟨?_, ?_⟩
  rotate_left
  · show f143 (.s la) (.s lb) _ _ = _
    rw [h143]
    show f62 _ (.s lq) _ _ = _
    rw [h62]; rfl
theorem run106z (hr : rq = .ag [.b u, .s lq]) (h143 : ∀ S k, f143 (.s la) (.s lb) S k = k (.tu [.s lq, .s []]) S) (h62 : ∀ S k, f62 (.b true) (.s lq) S k = k rq S) :
    ∃ S2, G106 (C106 f16 f61 f62 f104 f143) (.ag [.b true, .s la]) (.ag [.b false, .s lb]) (mkS []) (fun v S => some (v, S)) = some (.tu [rq, .ag [.b false, .s []]], S2) := by
  subst hr
  refine ⟨?_, ?_⟩
  rotate_left
  · show f143 (.s la) (.s lb) _ _ = _
    rw [h143]
    show f62 _ (.s lq) _ _ = _
    rw [h62]; rfl
theorem run106n (hr : rq = .ag [.b u, .s lq']) (h143 : ∀ S k, f143 (.s la) (.s lb) S k = k (.tu [.s lq, .s lr]) S) (hne : ∀ c, pEqS false (.s lr) (.s []) c = c (.b true)) (h61 : ∀ S k, f61 (uu 1) S k = k (.s lo) S) (h16 : ∀ S k, f16 (.s lq) (.s lo) S k = k (.s lq') S)
    (h104 : ∀ S k, f104 (.s lb) (.s lr) S k = k (.s lr') S) (h62 : ∀ S k, f62 (.b true) (.s lq') S k = k rq S) :
    ∃ S2, G106 (C106 f16 f61 f62 f104 f143) (.ag [.b true, .s la]) (.ag [.b false, .s lb]) (mkS []) (fun v S => some (v, S)) = some (.tu [rq, .ag [.b false, .s lr']], S2) := by
  subst hr
  refine ⟨?_, ?_⟩
  rotate_left
  · show f143 (.s la) (.s lb) _ _ = _
    rw [h143]
    show pEqS false (.s lr) (.s []) _ = _
    rw [hne]
    show f61 (uu 1) _ _ = _
    rw [h61]
    show f16 (.s lq) (.s lo) _ _ = _
    rw [h16]
    show f104 (.s lb) (.s lr) _ _ = _
    rw [h104]
    show f62 _ (.s lq') _ _ = _
    rw [h62]; rfl
end
def F106x : Gn 2 := G106 (C106 F16t F61t F62t F104t F143t)
theorem K106x : FOK Tryz.prog 106 (un 2 F106x) := fokP (.cons K16t (.cons K61t (.cons K62t (.cons K104t (.cons K143t .nil))))) .nil hm Tryz.func106 (by kernel_rfl) (D106 F16t F61t F62t F104t F143t) (H106 _)
theorem strN_mono {a b : Nat} (h : b ≤ a) : (strN b).length ≤ (strN a).length := strN_len (Nat.lt_of_le_of_lt h (strN_up a))
theorem eqSf_eq (a b : List Nat) (c : V → R) : pEqS false (.s a) (.s b) c = c (.b (decide (a ≠ b))) := by
  have e : pEqS false (.s a) (.s b) c = retB c (@Bool.rec (fun _ => Bool) (Bool.not false) false (eqB a b)) := by rfl
  rw [e, retB_eq, eqB_eq]
  congr 2
  by_cases h : a = b
  · subst h; simp
  · rw [decide_eq_true h]
    cases hb : (a == b) with
    | true => exact absurd (eq_of_beq hb) h
    | false => rfl
theorem neg_ediv (n b : Nat) (hb : 0 < b) : (-(n : Int)) / (b : Int) = -((n / b + (if n % b = 0 then 0 else 1) : Nat) : Int) ∧ (-(n : Int)) % (b : Int) = ((if n % b = 0 then 0 else b - n % b : Nat) : Int) := by
  have hm := Nat.mod_lt n hb
  have hd := Nat.div_add_mod n b
  refine (Int.ediv_emod_unique (by omega)).2 ?_
  split
  · rename_i h
    rw [h] at hd
    refine ⟨?_, by omega, by omega⟩
    have : ((b * (n / b) : Nat) : Int) = (n : Int) := congrArg Nat.cast (by omega)
    rw [Int.natCast_mul] at this
    rw [Nat.add_zero, Int.mul_neg, this]; simp
  · rename_i h
    have : (b : Int) * ((n / b : Nat) : Int) + ((n % b : Nat) : Int) = n := by rw [← Int.natCast_mul, ← Int.natCast_add, hd]
    refine ⟨?_, by omega, by omega⟩
    rw [Int.natCast_add, Int.natCast_sub (by omega), Int.mul_neg, Int.mul_add]
    generalize ((n / b : Nat) : Int) = q at *
    generalize ((n % b : Nat) : Int) = r at *
    generalize (b : Int) * q = z at *
    simp only [Int.natCast_one, Int.mul_one]
    omega
open Classical in
def E106 (m : Nat) : List V → Option V := fun vs => if h : ∃ ab : Int × Int, vs = [iv ab.1, iv ab.2] ∧ 0 < ab.2 ∧ Short m ab.1 ab.2 then some (.tu [iv (h.choose.1 / h.choose.2), iv (h.choose.1 % h.choose.2)]) else none
def F106t : Gn 2 := cur 2 (pureF (E106 40000))
theorem iv_neg {n : Nat} (h : 0 < n) : iv (-(n : Int)) = .ag [.b true, .s (strN n)] := by rw [iv_ag, decide_eq_true (by omega), Int.natAbs_neg, Int.natAbs_natCast]
theorem idiv_run {a b : Int} (hb : 0 < b) (h : Short 40000 a b) : ∃ S2, F106x (iv a) (iv b) (mkS []) (fun v S => some (v, S)) = some (.tu [iv (a / b), iv (a % b)], S2) := by
  obtain ⟨h1, h2⟩ := h
  obtain ⟨d, rfl⟩ : ∃ d : Nat, b = (d : Int) := ⟨b.natAbs, by omega⟩
  have hd : 0 < d := by omega
  rw [Int.natAbs_natCast] at h2
  by_cases ha : a < 0
  · obtain ⟨n, hn, rfl⟩ : ∃ n : Nat, 0 < n ∧ a = -(n : Int) := ⟨a.natAbs, by omega, by omega⟩
    rw [Int.natAbs_neg, Int.natAbs_natCast] at h1
    obtain ⟨e1, e2⟩ := neg_ediv n d hd
    have hq := strN_mono (Nat.div_le_self n d)
    have hr := strN_mono (Nat.le_of_lt (Nat.mod_lt n hd))
    rw [e1, e2, iv_neg hn, iv_nat]
    by_cases h0 : n % d = 0
    · rw [if_pos h0, if_pos h0, Nat.add_zero]
      exact run106z F16t F61t F62t F104t F143t (strN n) (strN d) (strN (n / d)) _ (decide (-((n / d : Nat) : Int) < 0)) (by rw [iv_ag, Int.natAbs_neg, Int.natAbs_natCast]) (fun S k => by rw [div_eq hd (by omega) (by omega), h0]; rfl) (fun S k => by rw [make_eq, if_pos rfl])
    · rw [if_neg h0, if_neg h0, iv_nat]
      have hs0 : strN (n % d) ≠ [] := fun e => by
        have := (strN_len0 (n % d)).1 (by rw [e]; rfl)
        exact h0 this
      have h1' : (strN 1).length ≤ 50000 := by decide
      exact run106n F16t F61t F62t F104t F143t (strN n) (strN d) (strN (n / d)) (strN (n % d)) (strN 1) (strN (n / d + 1)) (strN (d - n % d)) _ (decide (-((n / d + 1 : Nat) : Int) < 0)) (by rw [iv_ag, Int.natAbs_neg, Int.natAbs_natCast]) (fun S k => by rw [div_eq hd (by omega) (by omega)])
        (fun c => by rw [eqSf_eq, decide_eq_true hs0]) (fun S k => F61t_eq (by decide) S k) (fun S k => E2_eq (op := (· + ·)) (by omega) (by omega) S k) (fun S k => E2c_eq (by omega) (by omega) S k) (fun S k => by rw [make_eq, if_pos rfl])
  · obtain ⟨n, rfl⟩ : ∃ n : Nat, a = (n : Int) := ⟨a.natAbs, by omega⟩
    rw [Int.natAbs_natCast] at h1
    rw [← Int.natCast_ediv, ← Int.natCast_emod, iv_nat, iv_nat, iv_nat (n % d)]
    exact run106p F16t F61t F62t F104t F143t (strN n) (strN d) (strN (n / d)) (strN (n % d)) _ false (iv_nat _) (fun S k => by rw [div_eq hd (by omega) (by omega)]) (fun S k => by rw [make_eq, if_neg (by simp)])
theorem K106t : FOK Tryz.prog 106 (un 2 F106t) := cur_ok 2 (pureS_ok K106x (E106 40000) fun vs v hv => by
  unfold E106 at hv
  split at hv
  · rename_i hx
    cases hv
    obtain ⟨e, h1, h2⟩ := hx.choose_spec
    obtain ⟨S2, z⟩ := idiv_run h1 h2
    exact ⟨(congrArg plL e).trans rfl, rfl, S2, (congrArg (fun l => un 2 F106x l (mkS []) (fun v S => some (v, S))) e).trans z⟩
  · cases hv)
theorem E106_some {m : Nat} {a b : Int} (hb : 0 < b) (h : Short m a b) : E106 m [iv a, iv b] = some (.tu [iv (a / b), iv (a % b)]) := by
  have hx : ∃ ab : Int × Int, [iv a, iv b] = [iv ab.1, iv ab.2] ∧ 0 < ab.2 ∧ Short m ab.1 ab.2 := ⟨(a, b), rfl, hb, h⟩
  unfold E106
  rw [dif_pos hx]
  have h1 := hx.choose_spec.1
  injection h1 with h2 h3
  injection h3 with h4 _
  rw [← iv_inj h2, ← iv_inj h4]
theorem idiv_eq {a b : Int} (hb : 0 < b) (h : Short 40000 a b) (S : St) (k : Cont) : F106t (iv a) (iv b) S k = k (.tu [iv (a / b), iv (a % b)]) S := by
  show pureF (E106 40000) [iv a, iv b] S k = _
  simp only [pureF, E106_some hb h]
/- Quo -/
theorem run56 (f106 : Gn 2) (s1 s2 s3 s4 : Bool) (l1 l2 l3 l4 : List Nat) (h106 : ∀ S k, f106 (.ag [.b s1, .s l1]) (.ag [.b s2, .s l2]) S k = k (.tu [.ag [.b s3, .s l3], .ag [.b s4, .s l4]]) S) :
    ∃ S2, G56 (C56 f106) (.ag [.b s1, .s l1]) (.ag [.b s2, .s l2]) (mkS []) (fun v S => some (v, S)) = some (.ag [.b s3, .s l3], S2) := by
  refine ⟨?_, ?_⟩
  rotate_left
  · show f106 (.ag [.b s1, .s l1]) (.ag [.b s2, .s l2]) _ _ = _
    rw [h106]; rfl
def F56x : Gn 2 := G56 (C56 F106t)
theorem K56x : FOK Tryz.prog 56 (un 2 F56x) := fokP (.cons K106t .nil) .nil hm Tryz.func56 (by kernel_rfl) (D56 F106t) (H56 _)
def F56t : Gn 2 := cur 2 (pureF (DI2 (· / ·) (fun a b => 0 < b ∧ Short 40000 a b)))
theorem K56t : FOK Tryz.prog 56 (un 2 F56t) := DI2_ok K56x fun a b h => run56 F106t _ _ _ _ _ _ _ _ (fun S k => idiv_eq h.1 h.2 S k)
theorem iquo_eq {a b : Int} (hb : 0 < b) (h : Short 40000 a b) (S : St) (k : Cont) : F56t (iv a) (iv b) S k = k (iv (a / b)) S := DI2_eq (op := (· / ·)) (ok := fun a b => 0 < b ∧ Short 40000 a b) ⟨hb, h⟩ S k
end
end Go.AM
