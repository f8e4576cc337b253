/- The operations that touch no memory, all of them. -/
import Derived.Test.YtpendgpnikmohaaGreatX6
import Derived.Laws.Small
import Derived.Laws.BytesString
import Derived.Laws.Tables
namespace Go.AM
set_option linter.unusedVariables false
set_option linter.unusedSimpArgs false
variable {out : V × St} {ρ : Ren} {P : Program} {w : World} {a : Act}
def isNilP : Operand → Bool
  | .const (.pointer none) => true
  | _ => false
def isNilL : Operand → Bool
  | .const (.slice none _ _) => true
  | _ => false
def isNilF : Operand → Bool
  | .const .nilFunc => true
  | _ => false
theorem isNilP_eq {x : Operand} (h : isNilP x = true) : x = .const (.pointer none) := by
  unfold isNilP at h; split at h; rfl; cases h
theorem isNilL_eq {x : Operand} (h : isNilL x = true) : ∃ n c, x = .const (.slice none n c) := by
  unfold isNilL at h; split at h; exact ⟨_, _, rfl⟩; cases h
theorem isNilF_eq {x : Operand} (h : isNilF x = true) : x = .const .nilFunc := by
  unfold isNilF at h; split at h; rfl; cases h
noncomputable def denB (P : Program) (op : BinOp) (t : TypeId) (y : Operand) (a b : V) : Option ((V → R) → R) :=
  match P.underlying t with
  | some (.int _) => match intOp op with | some f => some (f a b) | none => none
  | some .bool => match op with | .eql => some (pEqB true a b) | .neq => some (pEqB false a b) | _ => none
  | some .string => match op with | .eql => some (pEqS true a b) | .neq => some (pEqS false a b) | .lss => some (pLtS a b) | .add => some (pCat a b) | _ => none
  | some (.pointer _) => cond (isNilP y) (match op with | .eql => some (pNilP true a) | .neq => some (pNilP false a) | _ => none) none
  | some (.slice _) => cond (isNilL y) (match op with | .eql => some (pNilL true a) | .neq => some (pNilL false a) | _ => none) none
  | some (.func _ _ _) => cond (isNilF y) (match op with | .eql => some (pNilF true a) | .neq => some (pNilF false a) | _ => none) none
  | _ => none
def aggP (P : Program) (t : TypeId) : Option Bool := match P.underlying t with | some (.struct _) => some true | some (.array _ _) => some true | some _ => some false | none => none
theorem run_isAgg {t : TypeId} {b : Bool} (h : aggP P t = some b) : (isAgg t).run P w = .ok b w := by
  unfold aggP at h
  unfold isAgg
  cases hu : P.underlying t with
  | none => rw [hu] at h; cases h
  | some d => rw [hu] at h; cases d <;> simp at h <;> subst h <;> simp [run_underlying hu]
theorem run_size {t : TypeId} {i : TypeInfo} (h : P.info? t = some i) : (sizeOf t).run P w = .ok i.size w := by simp [sizeOf, typeInfo, h]
theorem eqGuard_ok (op : BinOp) (t : TypeId) (x y : Operand) (u v : Value) (h : u.oneCell' = true) (h2 : u ≠ .nilIface) : (eqGuard op t x y u v).run P w = .ok () w := by
  unfold eqGuard
  cases u <;> (try (simp [Value.oneCell'] at h h2; done)) <;> cases op <;> rfl
theorem map_beq : ∀ l m : List UInt8, (l.map UInt8.toNat == m.map UInt8.toNat) = (l == m)
  | [], [] => rfl
  | [], _ :: _ => rfl
  | _ :: _, [] => rfl
  | a :: l, b :: m => by
    have := map_beq l m
    by_cases hab : a = b
    · subst hab; simpa using this
    · have hne : a.toNat ≠ b.toNat := fun e => hab (UInt8.toNat_inj.1 e)
      simp only [List.map_cons, List.cons_beq_cons, beq_false_of_ne hne, beq_false_of_ne hab, Bool.false_and]
theorem toList_bytes (s : ByteArray) : s.toList = s.data.toList := by
  rw [ByteArray.toList]
  have loop : ∀ (n i : Nat) (acc : List UInt8), s.size - i = n → ByteArray.toList.loop s i acc = acc.reverse ++ s.data.toList.drop i := by
    intro n
    induction n with
    | zero =>
      intro i acc h
      rw [ByteArray.toList.loop]
      have : ¬ i < s.size := by omega
      simp [this]
      exact Nat.le_of_not_lt this
    | succ n ih =>
      intro i acc h
      rw [ByteArray.toList.loop]
      have hi : i < s.size := by omega
      simp only [hi, if_true]
      rw [ih (i + 1) _ (by omega)]
      have hl : i < s.data.toList.length := by simpa using hi
      rw [List.drop_eq_getElem_cons hl]
      have : i < s.data.size := by simpa using hi
      simp
      show s.get! i = _
      rw [ByteArray.get!]
      exact getElem!_pos s.data i this
  rw [loop s.size 0 [] (by simp)]
  simp
theorem bytes_eq {s t : ByteArray} : (s.data.toList.map UInt8.toNat == t.data.toList.map UInt8.toNat) = (s.toList == t.toList) := by
  rw [map_beq, toList_bytes, toList_bytes]
theorem ltB_ok : ∀ l m : List UInt8, ltB (l.map UInt8.toNat) (m.map UInt8.toNat) = Op.bytesLess l m
  | [], [] => rfl
  | [], _ :: _ => rfl
  | _ :: _, [] => rfl
  | a :: l, b :: m => by
    simp only [List.map_cons, ltB_cons, Op.bytesLess, ltB_ok l m]
    by_cases h : a = b
    · subst h; simp
    · have hne : a.toNat ≠ b.toNat := fun e => h (UInt8.toNat_inj.1 e)
      simp [h, hne, UInt8.lt_iff_toNat_lt]
theorem eqIn_p (d : Nat) (t e : TypeId) (p : Option Addr) (h : P.underlying t = some (.pointer e)) : (Op.equalIn (d + 1) t (.pointer p) (.pointer none)).run P w = .ok p.isNone w := by
  cases p <;> simp [Op.equalIn, run_underlying h]
theorem eqIn_l (d : Nat) (t e : TypeId) (p : Option Addr) (n c n' c' : Nat) (h : P.underlying t = some (.slice e)) : (Op.equalIn (d + 1) t (.slice p n c) (.slice none n' c')).run P w = .ok p.isNone w := by
  cases p <;> simp [Op.equalIn, run_underlying h]
theorem eqIn_f (d : Nat) (t : TypeId) (ps rs : Array TypeId) (b : Bool) (f : Go.Fn) (x y : Array Value) (h : P.underlying t = some (.func ps rs b)) : (Op.equalIn (d + 1) t (.func f x y) .nilFunc).run P w = .ok false w := by
  simp [Op.equalIn, run_underlying h]
theorem eqIn_g (d : Nat) (t : TypeId) (ps rs : Array TypeId) (b : Bool) (h : P.underlying t = some (.func ps rs b)) : (Op.equalIn (d + 1) t .nilFunc .nilFunc).run P w = .ok true w := by
  simp [Op.equalIn, run_underlying h]
theorem denB_ok {op : BinOp} {t : TypeId} {x y : Operand} {γ : Env} {f : (V → R) → R} (hf : denB P op t y (val γ x) (val γ y) = some f) {c : V → R} (h : f c = some out) :
    ∃ v, c v = some out ∧ ∀ (ρ : Ren) (a : Act) (w : World), EnvR ρ γ a → ∃ u, (do eqGuard op t x y (a.eval x) (a.eval y); binOp op t (a.eval x) (a.eval y) : Sem Value).run P w = .ok u w ∧ VR ρ v u := by
  have int : ∀ {u : Value} {k : IntKind} {n : Int}, u = .int k n → ∀ v w, (eqGuard op t x y u v).run P w = .ok () w := fun e v w => by subst e; exact eqGuard_ok _ _ _ _ _ _ rfl (by simp)
  unfold denB at hf
  cases hu : P.underlying t with
  | none => rw [hu] at hf; cases hf
  | some d =>
    rw [hu] at hf
    cases d <;> try (cases hf; done)
    case int k =>
      simp only at hf
      cases hi : intOp op with
      | none => rw [hi] at hf; cases hf
      | some g =>
        rw [hi] at hf; cases hf
        obtain ⟨v, hv, hr⟩ := intOp_ok hi h
        refine ⟨v, hv, fun ρ a w he => ?_⟩
        obtain ⟨u, h1, h2⟩ := hr ρ _ _ (he.val x) (he.val y) t w
        refine ⟨u, ?_, h2⟩
        have hone : (a.eval x).oneCell' = true ∧ a.eval x ≠ .nilIface := by
          have hx := he.val x
          have : ∃ k n, val γ x = .i k n := by
            cases op <;> simp only [intOp, Option.some.injEq, reduceCtorEq] at hi <;> subst hi <;> (obtain ⟨k, p, e1, _⟩ := vI_some h; exact ⟨_, _, e1⟩)
          obtain ⟨k, n, e⟩ := this
          rw [e] at hx
          rw [hx.i_inv.1]; exact ⟨rfl, by simp⟩
        simp only [Sem.run_bind, eqGuard_ok _ _ _ _ _ _ hone.1 hone.2, Result.andThen_ok]; exact h1
    case bool =>
      have key : ∀ wnt : Bool, pEqB wnt (val γ x) (val γ y) c = some out → ∃ v, c v = some out ∧ ∀ (ρ : Ren) (a : Act) (w : World), EnvR ρ γ a → ∃ p q, a.eval x = .bool p ∧ a.eval y = .bool q ∧ VR ρ v (.bool (if wnt then p == q else !(p == q))) := fun wnt h => by
        obtain ⟨p, hx, h1⟩ := vB_some h
        obtain ⟨q, hy, h2⟩ := vB_some h1
        refine ⟨_, of_b h2, fun ρ a w he => ⟨p, q, ?_, ?_, ?_⟩⟩
        · have := he.val x; rw [hx] at this; exact this.b_inv
        · have := he.val y; rw [hy] at this; exact this.b_inv
        · cases wnt <;> cases p <;> cases q <;> exact .b _
      cases op <;> simp only [Option.some.injEq, reduceCtorEq] at hf <;> subst hf
      · obtain ⟨v, hv, hr⟩ := key true h
        refine ⟨v, hv, fun ρ a w he => ?_⟩
        obtain ⟨p, q, e1, e2, e3⟩ := hr ρ a w he
        refine ⟨_, ?_, e3⟩
        rw [e1, e2]
        simp only [Sem.run_bind, eqGuard_ok _ _ _ _ _ _ (show (Value.bool p).oneCell' = true from rfl) (by simp), Result.andThen_ok, binOp, run_equal_bool w t p q hu, Sem.run_pure, if_true]
      · obtain ⟨v, hv, hr⟩ := key false h
        refine ⟨v, hv, fun ρ a w he => ?_⟩
        obtain ⟨p, q, e1, e2, e3⟩ := hr ρ a w he
        refine ⟨_, ?_, e3⟩
        rw [e1, e2]
        simp only [Sem.run_bind, eqGuard_ok _ _ _ _ _ _ (show (Value.bool p).oneCell' = true from rfl) (by simp), Result.andThen_ok, binOp, run_equal_bool w t p q hu, Sem.run_pure, Bool.false_eq_true, if_false]
    case string =>
      have str : ∀ {ρ : Ren} {v : V} {l : List Nat} {u : Value}, v = .s l → VR ρ v u → ∃ s : ByteArray, u = .string s ∧ s.data.toList.map UInt8.toNat = l := fun e h => by subst e; exact h.s_inv
      have go : ∀ (s r : ByteArray) (w : World) (u : Value), (Op.stringOp op s r).run P w = .ok u w → (do eqGuard op t x y (.string s) (.string r); binOp op t (.string s) (.string r) : Sem Value).run P w = .ok u w := fun s r w u h => by
        simp only [Sem.run_bind, eqGuard_ok _ _ _ _ _ _ (show (Value.string s).oneCell' = true from rfl) (by simp), Result.andThen_ok]
        have : binOp op t (.string s) (.string r) = Op.stringOp op s r := by cases op <;> rfl
        rw [this]; exact h
      have eqs : ∀ wnt : Bool, pEqS wnt (val γ x) (val γ y) c = some out → ∃ v, c v = some out ∧ ∀ (ρ : Ren) (a : Act) (w : World), EnvR ρ γ a → ∃ s r : ByteArray, a.eval x = .string s ∧ a.eval y = .string r ∧ VR ρ v (.bool (if wnt then s.toList == r.toList else !(s.toList == r.toList))) := fun wnt h => by
        obtain ⟨l, hx, h1⟩ := vS_some h
        obtain ⟨m, hy, h2⟩ := vS_some h1
        refine ⟨_, of_b h2, fun ρ a w he => ?_⟩
        obtain ⟨s, e1, f1⟩ := str hx (he.val x)
        obtain ⟨r, e2, f2⟩ := str hy (he.val y)
        refine ⟨s, r, e1, e2, ?_⟩
        rw [eqB_eq, ← f1, ← f2, bytes_eq]
        cases wnt <;> cases (s.toList == r.toList) <;> exact .b _
      cases op <;> simp only [Option.some.injEq, reduceCtorEq] at hf <;> subst hf
      · -- add
        obtain ⟨l, hx, h1⟩ := vS_some h
        obtain ⟨m, hy, h2⟩ := vS_some h1
        rw [lenL_zero, lenL_zero] at h2
        obtain ⟨h3, h4⟩ := gu_some h2
        rw [appK_eq] at h4
        refine ⟨_, h4, fun ρ a w he => ?_⟩
        obtain ⟨s, e1, f1⟩ := str hx (he.val x)
        obtain ⟨r, e2, f2⟩ := str hy (he.val y)
        rw [e1, e2]
        have hs : s.size = l.length := by rw [← f1]; simp
        have hr : r.size = m.length := by rw [← f2]; simp
        have hle := Nat.le_of_ble_eq_true h3
        have hle' : l.length + m.length ≤ 1073741824 := hle
        refine ⟨.string (s ++ r), go s r w _ ?_, .s _ _ ?_⟩
        · have hn : ¬ (((s.size + r.size : Nat) : Int) > IntKind.i64.max) := by
            rw [hs, hr]; have : IntKind.i64.max = 9223372036854775807 := by decide
            rw [this]; omega
          simp only [Op.stringOp, hn, if_false]; rfl
        · rw [← f1, ← f2]; simp
      · obtain ⟨v, hv, hr⟩ := eqs true h
        exact ⟨v, hv, fun ρ a w he => by obtain ⟨s, r, e1, e2, e3⟩ := hr ρ a w he; rw [e1, e2]; exact ⟨_, go s r w _ rfl, e3⟩⟩
      · obtain ⟨v, hv, hr⟩ := eqs false h
        exact ⟨v, hv, fun ρ a w he => by obtain ⟨s, r, e1, e2, e3⟩ := hr ρ a w he; rw [e1, e2]; exact ⟨_, go s r w _ rfl, e3⟩⟩
      · -- lss
        obtain ⟨l, hx, h1⟩ := vS_some h
        obtain ⟨m, hy, h2⟩ := vS_some h1
        refine ⟨_, of_b h2, fun ρ a w he => ?_⟩
        obtain ⟨s, e1, f1⟩ := str hx (he.val x)
        obtain ⟨r, e2, f2⟩ := str hy (he.val y)
        rw [e1, e2]
        refine ⟨_, go s r w _ rfl, ?_⟩
        rw [← f1, ← f2, ltB_ok, toList_bytes, toList_bytes]; exact .b _
    case pointer e =>
      simp only at hf
      cases hy : isNilP y <;> rw [hy] at hf <;> simp only [cond_false, cond_true, reduceCtorEq] at hf
      have := isNilP_eq hy; subst this
      cases op <;> simp only [Option.some.injEq, reduceCtorEq] at hf <;> subst hf
      all_goals
        rcases vPn_some h with ⟨i, o, hx, h1⟩ | ⟨hx, h1⟩
        · refine ⟨_, of_b h1, fun ρ a w he => ?_⟩
          have hv := he.val x; rw [hx] at hv
          obtain ⟨L, _, e1⟩ := hv.p_inv
          rw [e1]
          refine ⟨_, ?_, .b _⟩
          simp only [Sem.run_bind, eqGuard_ok _ _ _ _ _ _ (show (Value.pointer _).oneCell' = true from rfl) (by simp), Result.andThen_ok]
          simp only [binOp, Act.eval, Sem.run_bind, Op.equal, Op.maxDepth, eqIn_p 9999 t e _ hu, Result.andThen_ok, Sem.run_pure]; first | rfl | simp
        · refine ⟨_, of_b h1, fun ρ a w he => ?_⟩
          have hv := he.val x; rw [hx] at hv
          have e1 : a.eval x = .pointer none := hv.pn_inv
          rw [e1]
          refine ⟨_, ?_, .b _⟩
          simp only [Sem.run_bind, eqGuard_ok _ _ _ _ _ _ (show (Value.pointer _).oneCell' = true from rfl) (by simp), Result.andThen_ok]
          simp only [binOp, Act.eval, Sem.run_bind, Op.equal, Op.maxDepth, eqIn_p 9999 t e _ hu, Result.andThen_ok, Sem.run_pure]; first | rfl | simp
    case slice e =>
      simp only at hf
      cases hy : isNilL y <;> rw [hy] at hf <;> simp only [cond_false, cond_true, reduceCtorEq] at hf
      obtain ⟨n, q, rfl⟩ := isNilL_eq hy
      cases op <;> simp only [Option.some.injEq, reduceCtorEq] at hf <;> subst hf
      all_goals
        rcases vLn_some h with ⟨hx, h1⟩ | ⟨i, o, m, hs, h1⟩
        · refine ⟨_, of_b h1, fun ρ a w he => ?_⟩
          have hv := he.val x; rw [hx] at hv
          have e1 : a.eval x = .slice none 0 0 := hv.sn_inv
          rw [e1]
          refine ⟨_, ?_, .b _⟩
          simp only [Sem.run_bind, eqGuard_ok _ _ _ _ _ _ (show (Value.slice _ _ _).oneCell' = true from rfl) (by simp), Result.andThen_ok]
          simp only [binOp, Act.eval, Sem.run_bind, Op.equal, Op.maxDepth, eqIn_l 9999 t e _ _ _ _ _ hu, Result.andThen_ok, Sem.run_pure]; first | rfl | simp
        · refine ⟨_, of_b h1, fun ρ a w he => ?_⟩
          obtain ⟨L, o', c', _, e1, _⟩ := (he.val x).sl_any hs
          rw [e1]
          refine ⟨_, ?_, .b _⟩
          simp only [Sem.run_bind, eqGuard_ok _ _ _ _ _ _ (show (Value.slice _ _ _).oneCell' = true from rfl) (by simp), Result.andThen_ok]
          simp only [binOp, Act.eval, Sem.run_bind, Op.equal, Op.maxDepth, eqIn_l 9999 t e _ _ _ _ _ hu, Result.andThen_ok, Sem.run_pure]; first | rfl | simp
    case func p r v =>
      simp only at hf
      cases hy : isNilF y <;> rw [hy] at hf <;> simp only [cond_false, cond_true, reduceCtorEq] at hf
      have := isNilF_eq hy; subst this
      cases op <;> simp only [Option.some.injEq, reduceCtorEq] at hf <;> subst hf
      all_goals
        rcases vFn_some h with ⟨hx, h1⟩ | ⟨⟨i, o, hx⟩, h1⟩
        · refine ⟨_, of_b h1, fun ρ a w he => ?_⟩
          have hv := he.val x; rw [hx] at hv
          have e1 : a.eval x = .nilFunc := hv.fn0_inv
          rw [e1]
          refine ⟨_, ?_, .b _⟩
          simp only [Sem.run_bind, eqGuard_ok _ _ _ _ _ _ (show (Value.nilFunc).oneCell' = true from rfl) (by simp), Result.andThen_ok]
          simp only [binOp, Act.eval, Sem.run_bind, Op.equal, Op.maxDepth, eqIn_f 9999 t p r v _ _ _ hu, eqIn_g 9999 t p r v hu, Result.andThen_ok, Sem.run_pure]; try rfl
        · refine ⟨_, of_b h1, fun ρ a w he => ?_⟩
          have hv := he.val x; rw [hx] at hv
          obtain ⟨us, e1, _⟩ := hv.f_inv
          rw [e1]
          refine ⟨_, ?_, .b _⟩
          simp only [Sem.run_bind, eqGuard_ok _ _ _ _ _ _ (show (Value.func _ _ _).oneCell' = true from rfl) (by simp), Result.andThen_ok]
          simp only [binOp, Act.eval, Sem.run_bind, Op.equal, Op.maxDepth, eqIn_f 9999 t p r v _ _ _ hu, eqIn_g 9999 t p r v hu, Result.andThen_ok, Sem.run_pure]; try rfl
end Go.AM
