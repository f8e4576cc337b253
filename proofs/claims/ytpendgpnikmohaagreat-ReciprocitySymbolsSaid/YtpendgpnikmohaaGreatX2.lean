/- The machine's primitives, each as a plain equation or as what follows when it ends; the numbers of the machine against those of the model; the relation between the machine's values and memory and the model's. -/
import Derived.Test.YtpendgpnikmohaaGreatX1
import Derived.Laws.Sem
import Derived.Laws.World
import Derived.Laws.Cells
namespace Go.AM
set_option linter.unusedVariables false
set_option linter.unusedSimpArgs false
variable {out : V × St}
def Pos.num : Pos → Nat | .h => 1 | .o p => 2 * p.num | .i p => 2 * p.num + 1
theorem Pos.num_pos : ∀ p : Pos, 0 < p.num
  | .h => by decide
  | .o p => by have := num_pos p; simp only [num]; omega
  | .i p => by simp only [num]; omega
theorem Pos.num_inj : ∀ p q : Pos, p.num = q.num → p = q
  | .h, .h, _ => rfl
  | .h, .o q, e => by simp only [num] at e; omega
  | .h, .i q, e => by have := num_pos q; simp only [num] at e; omega
  | .o p, .h, e => by simp only [num] at e; omega
  | .o p, .o q, e => by rw [num_inj p q (by simp only [num] at e; omega)]
  | .o p, .i q, e => by simp only [num] at e; omega
  | .i p, .h, e => by have := num_pos p; simp only [num] at e; omega
  | .i p, .o q, e => by simp only [num] at e; omega
  | .i p, .i q, e => by rw [num_inj p q (by simp only [num] at e; omega)]
def Pos.succ : Pos → Pos | .h => .o .h | .o p => .i p | .i p => .o p.succ
theorem Pos.num_succ : ∀ p : Pos, p.succ.num = p.num + 1
  | .h => rfl
  | .o p => rfl
  | .i p => by simp only [succ, num, num_succ p]; omega
def Tr.get {α : Type} : Tr α → Pos → Option α
  | .n, _ => none
  | .d x _ _, .h => x
  | .d _ l _, .o p => l.get p
  | .d _ _ r, .i p => r.get p
def Tr.set {α : Type} : Pos → α → Tr α → Tr α
  | .h, v, .n => .d (some v) .n .n
  | .h, v, .d _ l r => .d (some v) l r
  | .o p, v, .n => .d none (Tr.set p v .n) .n
  | .o p, v, .d x l r => .d x (Tr.set p v l) r
  | .i p, v, .n => .d none .n (Tr.set p v .n)
  | .i p, v, .d x l r => .d x l (Tr.set p v r)
theorem Tr.get_set {α : Type} (v : α) : ∀ (p : Pos) (t : Tr α), (t.set p v).get p = some v
  | .h, .n => rfl
  | .h, .d _ _ _ => rfl
  | .o p, .n => get_set v p .n
  | .o p, .d _ l _ => get_set v p l
  | .i p, .n => get_set v p .n
  | .i p, .d _ _ r => get_set v p r
theorem Tr.get_n {α : Type} (p : Pos) : (Tr.n : Tr α).get p = none := by cases p <;> rfl
theorem Tr.get_set_ne {α : Type} (v : α) : ∀ (p q : Pos) (t : Tr α), p ≠ q → (t.set p v).get q = t.get q
  | .h, .h, _, e => absurd rfl e
  | .h, .o q, .n, _ => Tr.get_n q
  | .h, .o q, .d _ _ _, _ => rfl
  | .h, .i q, .n, _ => Tr.get_n q
  | .h, .i q, .d _ _ _, _ => rfl
  | .o p, .h, .n, _ => rfl
  | .o p, .h, .d _ _ _, _ => rfl
  | .o p, .o q, .n, e => (get_set_ne v p q .n (fun h => e (by rw [h]))).trans (Tr.get_n q)
  | .o p, .o q, .d _ l _, e => get_set_ne v p q l (fun h => e (by rw [h]))
  | .o p, .i q, .n, _ => Tr.get_n q
  | .o p, .i q, .d _ _ _, _ => rfl
  | .i p, .h, .n, _ => rfl
  | .i p, .h, .d _ _ _, _ => rfl
  | .i p, .o q, .n, _ => Tr.get_n q
  | .i p, .o q, .d _ _ _, _ => rfl
  | .i p, .i q, .n, e => (get_set_ne v p q .n (fun h => e (by rw [h]))).trans (Tr.get_n q)
  | .i p, .i q, .d _ _ r, e => get_set_ne v p q r (fun h => e (by rw [h]))
theorem no {p : Prop} (h : (none : R) = some out) : p := by cases h
theorem getBK_some : ∀ (p : Pos) (t : HT) (k : Blk → R), getBK p t k = some out → ∃ b, t.get p = some b ∧ k b = some out
  | p, .n, k, h => by cases p <;> exact no h
  | .h, .d none l r, k, h => no h
  | .h, .d (some b) l r, k, h => ⟨b, rfl, h⟩
  | .o p, .d x l r, k, h => getBK_some p l k h
  | .i p, .d x l r, k, h => getBK_some p r k h
theorem setBK_eq (v : Blk) : ∀ (p : Pos) (t : HT) (k : HT → R), setBK p v t k = k (t.set p v)
  | .h, .n, k => rfl
  | .h, .d _ _ _, k => rfl
  | .o p, .n, k => setBK_eq v p .n _
  | .o p, .d _ l _, k => setBK_eq v p l _
  | .i p, .n, k => setBK_eq v p .n _
  | .i p, .d _ _ r, k => setBK_eq v p r _
theorem succK_eq : ∀ (p : Pos) (k : Pos → R), succK p k = k p.succ
  | .h, k => rfl
  | .o p, k => rfl
  | .i p, k => succK_eq p _
theorem fN_eq (n : Nat) (k : Nat → R) : fN n k = k n := by cases n <;> rfl
theorem gu_some {b : Bool} {x : R} (h : gu b x = some out) : b = true ∧ x = some out := by
  cases b
  · exact no h
  · exact ⟨rfl, h⟩
theorem retI_eq (c : V → R) (k : IntKind) (n : Nat) : retI c k n = c (.i k n) := by cases n <;> rfl
theorem retB_eq (c : V → R) (b : Bool) : retB c b = c (.b b) := by cases b <;> rfl
theorem nthK_some {α : Type} : ∀ (l : List α) (n : Nat) (k : α → R), nthK l n k = some out → ∃ v, l[n]? = some v ∧ k v = some out
  | [], n, k, h => no h
  | x :: l, 0, k, h => ⟨x, rfl, h⟩
  | x :: l, n + 1, k, h => by obtain ⟨v, h1, h2⟩ := nthK_some l n k h; exact ⟨v, by simpa using h1, h2⟩
theorem takeK_some {α : Type} : ∀ (l : List α) (n : Nat) (k : List α → R), takeK l n k = some out → n ≤ l.length ∧ k (l.take n) = some out
  | [], n, k, h => by obtain ⟨h1, h2⟩ := gu_some h; have := Nat.eq_of_beq_eq_true h1; subst this; exact ⟨Nat.le_refl _, h2⟩
  | x :: l, 0, k, h => ⟨Nat.zero_le _, h⟩
  | x :: l, n + 1, k, h => by obtain ⟨h1, h2⟩ := takeK_some l n _ h; exact ⟨by simpa using h1, by simpa using h2⟩
theorem dropK_some {α : Type} : ∀ (l : List α) (n : Nat) (k : List α → R), dropK l n k = some out → n ≤ l.length ∧ k (l.drop n) = some out
  | [], n, k, h => by obtain ⟨h1, h2⟩ := gu_some h; have := Nat.eq_of_beq_eq_true h1; subst this; exact ⟨Nat.le_refl _, h2⟩
  | x :: l, 0, k, h => ⟨Nat.zero_le _, h⟩
  | x :: l, n + 1, k, h => by obtain ⟨h1, h2⟩ := dropK_some l n _ h; exact ⟨by simpa using h1, by simpa using h2⟩
theorem appK_eq {α : Type} : ∀ (l r : List α) (k : List α → R), appK l r k = k (l ++ r)
  | [], r, k => rfl
  | x :: l, r, k => appK_eq l r _
theorem overK_some : ∀ (v l : List V) (k : List V → R), overK v l k = some out → v.length ≤ l.length ∧ k (v ++ l.drop v.length) = some out
  | [], l, k, h => ⟨Nat.zero_le _, h⟩
  | x :: v, [], k, h => no h
  | x :: v, y :: l, k, h => by obtain ⟨h1, h2⟩ := overK_some v l _ h; exact ⟨by simpa using h1, by simpa using h2⟩
theorem putK_some : ∀ (l : List V) (n : Nat) (v : List V) (k : List V → R), putK l n v k = some out → n + v.length ≤ l.length ∧ k (l.take n ++ v ++ l.drop (n + v.length)) = some out
  | [], n, v, k, h => by
    obtain ⟨h1, h2⟩ := gu_some h; have := Nat.eq_of_beq_eq_true h1; subst this
    obtain ⟨h3, h4⟩ := overK_some v [] k h2; exact ⟨by simpa using h3, by simpa using h4⟩
  | x :: l, 0, v, k, h => by obtain ⟨h3, h4⟩ := overK_some v (x :: l) k h; exact ⟨by simpa using h3, by simpa using h4⟩
  | x :: l, n + 1, v, k, h => by
    obtain ⟨h1, h2⟩ := putK_some l n v _ h
    refine ⟨by simp; omega, ?_⟩
    rw [show n + 1 + v.length = (n + v.length) + 1 by omega]; simpa using h2
theorem repK_eq (z : List V) : ∀ (n : Nat) (k : List V → R), repK z n k = k (List.replicate n z).flatten
  | 0, k => rfl
  | n + 1, k => by
    show repK z n (fun t => appK z t k) = _
    rw [repK_eq z n]; simp only [appK_eq]; rw [List.replicate_succ, List.flatten_cons]
theorem lenL_eq {α : Type} : ∀ (l : List α) (n : Nat) (k : Nat → R), lenL l n k = k (n + l.length)
  | [], n, k => rfl
  | x :: l, n, k => by show lenL l (n + 1) k = _; rw [lenL_eq l]; congr 1; simp; omega
theorem lenL_zero {α : Type} (l : List α) (k : Nat → R) : lenL l 0 k = k l.length := by rw [lenL_eq]; simp
theorem eqB_cons (x y : Nat) (l m : List Nat) : eqB (x :: l) (y :: m) = (Nat.beq x y && eqB l m) := by
  show (@Bool.rec (fun _ => (List Nat → Bool) → List Nat → Bool) (fun _ _ => false) (fun ih t => ih t) (Nat.beq x y) (eqB l) m) = _
  cases Nat.beq x y <;> rfl
theorem eqB_eq : ∀ l m : List Nat, eqB l m = (l == m)
  | [], [] => rfl
  | [], _ :: _ => rfl
  | _ :: _, [] => rfl
  | x :: l, y :: m => by
    rw [eqB_cons, eqB_eq l m, show Nat.beq x y = (x == y) from by by_cases h : x = y <;> first | (subst h; simp) | (rw [show Nat.beq x y = false from by cases e : Nat.beq x y; rfl; exact absurd (Nat.eq_of_beq_eq_true e) h]; symm; simpa using h)]
    simp
theorem ltB_cons (x y : Nat) (l m : List Nat) : ltB (x :: l) (y :: m) = if x = y then ltB l m else decide (x < y) := by
  show (@Bool.rec (fun _ => (List Nat → Bool) → List Nat → Bool) (fun _ _ => Nat.blt x y) (fun ih t => ih t) (Nat.beq x y) (ltB l) m) = _
  by_cases h : x = y
  · subst h; rw [show Nat.beq x x = true from Nat.beq_refl x, if_pos rfl]
  · rw [show Nat.beq x y = false from by cases hb : Nat.beq x y; rfl; exact absurd (Nat.eq_of_beq_eq_true hb) h, if_neg h]
    show Nat.ble (x + 1) y = _
    by_cases h2 : x < y
    · rw [decide_eq_true h2]; exact Nat.ble_eq_true_of_le h2
    · rw [decide_eq_false h2]; cases hb : Nat.ble (x + 1) y; rfl; exact absurd (Nat.le_of_ble_eq_true hb) h2
theorem u8sK_eq : ∀ (l : List Nat) (k : List V → R), u8sK l k = k (l.map (V.i .u8))
  | [], k => rfl
  | x :: l, k => u8sK_eq l _
theorem kNo_inj {k k' : IntKind} (h : Nat.beq (kNo k) (kNo k') = true) : k = k' := by
  have := Nat.eq_of_beq_eq_true h; cases k <;> cases k' <;> first | rfl | (exact absurd this (by decide))
theorem bytesK_some : ∀ (l : List V) (k : List Nat → R), bytesK l k = some out → ∃ s : List Nat, l = s.map (V.i .u8) ∧ k s = some out
  | [], k, h => ⟨[], rfl, h⟩
  | x :: l, k, h => by
    cases x <;> first | exact no h | skip
    rename_i kd n
    obtain ⟨h1, h2⟩ := gu_some h
    have e : kd = .u8 := kNo_inj h1
    subst e
    obtain ⟨s, e, h3⟩ := bytesK_some l _ h2
    exact ⟨n :: s, by simp [e], h3⟩
section values
variable {x : V}
theorem vB_some {k : Bool → R} (h : vB x k = some out) : ∃ b, x = .b b ∧ k b = some out := by cases x <;> first | exact no h | exact ⟨_, rfl, h⟩
theorem vI_some {k : IntKind → Nat → R} (h : vI x k = some out) : ∃ d n, x = .i d n ∧ k d n = some out := by cases x <;> first | exact no h | exact ⟨_, _, rfl, h⟩
theorem vW_some {k : Nat → R} (h : vW x k = some out) : ∃ n, x = .i .u64 n ∧ k n = some out := by
  obtain ⟨d, n, rfl, h1⟩ := vI_some h
  obtain ⟨h2, h3⟩ := gu_some h1
  exact ⟨n, by rw [kNo_inj (k := d) (k' := .u64) h2], h3⟩
theorem vS_some {k : List Nat → R} (h : vS x k = some out) : ∃ l, x = .s l ∧ k l = some out := by cases x <;> first | exact no h | exact ⟨_, rfl, h⟩
theorem vP_some {k : Pos → Nat → R} (h : vP x k = some out) : ∃ i o, x = .p i o ∧ k i o = some out := by cases x <;> first | exact no h | exact ⟨_, _, rfl, h⟩
theorem vPn_some {k : Pos → Nat → R} {z : R} (h : vPn x k z = some out) : (∃ i o, x = .p i o ∧ k i o = some out) ∨ x = .pn ∧ z = some out := by
  cases x <;> first | exact no h | exact .inl ⟨_, _, rfl, h⟩ | exact .inr ⟨rfl, h⟩
theorem vPc_some {k : R} (h : vPc x k = some out) : ((∃ i o, x = .p i o) ∨ ∃ i c, x = .f i c) ∧ k = some out := by
  cases x <;> first | exact no h | exact ⟨.inl ⟨_, _, rfl⟩, h⟩ | exact ⟨.inr ⟨_, _, rfl⟩, h⟩
/-- what is a slice, not nil -/
inductive IsSl : V → Pos → Nat → Nat → Prop
  | sl (id : Pos) (off len cap : Nat) : IsSl (.sl id off len cap) id off len
  | so (id : Pos) (off len cap sz : Nat) : IsSl (.so id off len cap sz) id off len
theorem vLs_some {k : Pos → Nat → Nat → R} (h : vLs x k = some out) : ∃ i o n, IsSl x i o n ∧ k i o n = some out := by
  cases x <;> first | exact no h | exact ⟨_, _, _, .sl .., h⟩ | exact ⟨_, _, _, .so .., h⟩
theorem vLz_some {z : R} {k : Pos → Nat → Nat → R} (h : vLz x z k = some out) : (x = .sn ∧ z = some out) ∨ ∃ i o n, IsSl x i o n ∧ k i o n = some out := by
  cases x <;> first | exact no h | exact .inr ⟨_, _, _, .sl .., h⟩ | exact .inr ⟨_, _, _, .so .., h⟩ | exact .inl ⟨rfl, h⟩
theorem vLm_some {k : Nat → R} (h : vLm x k = some out) : (x = .sn ∧ k 0 = some out) ∨ ∃ i o n, IsSl x i o n ∧ k n = some out := by
  cases x <;> first | exact no h | exact .inr ⟨_, _, _, .sl .., h⟩ | exact .inr ⟨_, _, _, .so .., h⟩ | exact .inl ⟨rfl, h⟩
theorem vLn_some {y z : R} (h : vLn x y z = some out) : (x = .sn ∧ z = some out) ∨ ∃ i o n, IsSl x i o n ∧ y = some out := by
  cases x <;> first | exact no h | exact .inr ⟨_, _, _, .sl .., h⟩ | exact .inr ⟨_, _, _, .so .., h⟩ | exact .inl ⟨rfl, h⟩
theorem vS4_some {z : R} {k : Pos → Nat → Nat → Nat → R} {o : Pos → Nat → Nat → Nat → Nat → R} (h : vS4 x z k o = some out) :
    (x = .sn ∧ z = some out) ∨ (∃ a b c d, x = .sl a b c d ∧ k a b c d = some out) ∨ ∃ a b c d e, x = .so a b c d e ∧ o a b c d e = some out := by
  cases x <;> first | exact no h | exact .inr (.inl ⟨_, _, _, _, rfl, h⟩) | exact .inr (.inr ⟨_, _, _, _, _, rfl, h⟩) | exact .inl ⟨rfl, h⟩
theorem vFn_some {y z : R} (h : vFn x y z = some out) : (x = .fn0 ∧ z = some out) ∨ (∃ i c, x = .f i c) ∧ y = some out := by
  cases x <;> first | exact no h | exact .inr ⟨⟨_, _, rfl⟩, h⟩ | exact .inl ⟨rfl, h⟩
theorem vA_some {k : List V → R} (h : vA x k = some out) : ∃ l, x = .ag l ∧ k l = some out := by cases x <;> first | exact no h | exact ⟨_, rfl, h⟩
theorem vT_some {k : List V → R} (h : vT x k = some out) : ∃ l, x = .tu l ∧ k l = some out := by cases x <;> first | exact no h | exact ⟨_, rfl, h⟩
theorem vF_some {k : Nat → List V → R} (h : vF x k = some out) : ∃ i c, x = .f i c ∧ k i c = some out := by cases x <;> first | exact no h | exact ⟨_, _, rfl, h⟩
theorem wantV_some {w : Bool} {y n : R} (h : wantV x w y n = some out) : (x = .b w ∧ y = some out) ∨ ((x = .u ∨ x = .b (!w)) ∧ n = some out) := by
  cases x <;> first | exact no h | exact .inr ⟨.inl rfl, h⟩ | skip
  rename_i b
  cases b <;> cases w <;> first | exact .inl ⟨rfl, h⟩ | exact .inr ⟨.inr rfl, h⟩
/-- a value of one cell -/
def V.one : V → Bool | .ag _ | .tu _ | .u | .other => false | _ => true
theorem cellsK_some {k : List V → R} (h : cellsK x k = some out) : (∃ l, x = .ag l ∧ k l = some out) ∨ x.one = true ∧ k [x] = some out := by
  cases x <;> first | exact no h | exact .inl ⟨_, rfl, h⟩ | exact .inr ⟨rfl, h⟩
theorem two_some {y : V} {f : BI} {c : V → R} (h : two x y f c = some out) : ∃ k a b, x = .i k a ∧ y = .i k b ∧ f k a b c = some out := by
  obtain ⟨k, a, rfl, h1⟩ := vI_some h
  obtain ⟨k', b, rfl, h2⟩ := vI_some h1
  obtain ⟨h3, h4⟩ := gu_some h2
  rw [kNo_inj h3] at h4 ⊢
  exact ⟨_, a, b, rfl, rfl, h4⟩
end values
end Go.AM
