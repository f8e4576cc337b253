/- A literal run as a function's text: the look at the arguments. -/
import Derived.Test.YtpendgpnikmohaaGreatXM3
namespace Go.AM
set_option linter.unusedVariables false
set_option linter.constructorNameAsVariable false
noncomputable section
def eqN : List Nat → List Nat → Bool
  | [], [] => true
  | a :: l, b :: m => Nat.beq a b && eqN l m
  | _, _ => false
theorem eqN_eq : ∀ {l m : List Nat}, eqN l m = true → l = m
  | [], [], _ => rfl
  | a :: l, b :: m, h => by simp only [eqN, Bool.and_eq_true] at h; rw [Nat.eq_of_beq_eq_true h.1, eqN_eq h.2]
  | [], _ :: _, h => by cases h
  | _ :: _, [], h => by cases h
def eqP (a b : Pos) : Bool := Nat.beq a.num b.num
theorem eqP_eq {a b : Pos} (h : eqP a b = true) : a = b := Pos.num_inj _ _ (Nat.eq_of_beq_eq_true h)
def eqK (a b : IntKind) : Bool := Nat.beq (kNo a) (kNo b)
mutual
def eqV : V → V → Bool
  | .u, .u => true
  | .b x, .b y => x == y
  | .i k n, .i k' n' => eqK k k' && Nat.beq n n'
  | .s l, .s m => eqN l m
  | .p a x, .p b y => eqP a b && Nat.beq x y
  | .pn, .pn => true
  | .sl a x y z, .sl b x' y' z' => eqP a b && Nat.beq x x' && Nat.beq y y' && Nat.beq z z'
  | .so a x y z t, .so b x' y' z' t' => eqP a b && Nat.beq x x' && Nat.beq y y' && Nat.beq z z' && Nat.beq t t'
  | .sn, .sn => true
  | .ag l, .ag m => eqL l m
  | .tu l, .tu m => eqL l m
  | .f i l, .f j m => Nat.beq i j && eqL l m
  | .fn0, .fn0 => true
  | _, _ => false
def eqL : List V → List V → Bool
  | [], [] => true
  | a :: l, b :: m => eqV a b && eqL l m
  | _, _ => false
end
mutual
theorem eqV_eq : ∀ (v u : V), eqV v u = true → v = u
  | .u, u, h => by cases u <;> first | rfl | simp [eqV] at h
  | .b x, u, h => by cases u <;> simp [eqV] at h; rw [h]
  | .i k n, u, h => by
    cases u <;> try (simp [eqV] at h; done)
    simp only [eqV, eqK, Bool.and_eq_true] at h
    rw [kNo_inj h.1, Nat.eq_of_beq_eq_true h.2]
  | .s l, u, h => by cases u <;> simp [eqV] at h; rw [eqN_eq h]
  | .p a x, u, h => by cases u <;> simp [eqV] at h; rw [eqP_eq h.1, h.2]
  | .pn, u, h => by cases u <;> first | rfl | simp [eqV] at h
  | .sl a x y z, u, h => by cases u <;> simp [eqV] at h; rw [eqP_eq h.1.1.1, h.1.1.2, h.1.2, h.2]
  | .so a x y z w, u, h => by cases u <;> simp [eqV] at h; rw [eqP_eq h.1.1.1.1, h.1.1.1.2, h.1.1.2, h.1.2, h.2]
  | .sn, u, h => by cases u <;> first | rfl | simp [eqV] at h
  | .ag l, u, h => by cases u <;> simp [eqV] at h; rw [eqL_eq _ _ h]
  | .tu l, u, h => by cases u <;> simp [eqV] at h; rw [eqL_eq _ _ h]
  | .f i l, u, h => by cases u <;> simp [eqV] at h; rw [h.1, eqL_eq _ _ h.2]
  | .fn0, u, h => by cases u <;> first | rfl | simp [eqV] at h
  | .other, u, h => by cases u <;> simp [eqV] at h
theorem eqL_eq : ∀ (l m : List V), eqL l m = true → l = m
  | [], m, h => by cases m <;> first | rfl | simp [eqL] at h
  | v :: l, m, h => by
    cases m with
    | nil => simp [eqL] at h
    | cons u m => simp only [eqL, Bool.and_eq_true] at h; rw [eqV_eq v u h.1, eqL_eq l m h.2]
end
/-- places by number -/
def lk : List (Nat × Pos) → Nat → Option Pos
  | [], _ => none
  | (a, q) :: r, n => cond (Nat.beq a n) (some q) (lk r n)
def envF (l : List (Nat × Pos)) (id : Pos) : Pos := match lk l id.num with | some q => q | none => .h
abbrev PE := List (Nat × Pos)
def bindP (id id' : Pos) (e : PE) : PE := match lk e id.num with | some _ => e | none => (id.num, id') :: e
mutual
def mtV : V → V → PE → PE
  | .p a _, .p b _, e => bindP a b e
  | .sl a _ _ _, .sl b _ _ _, e => bindP a b e
  | .so a _ _ _ _, .so b _ _ _ _, e => bindP a b e
  | .ag l, .ag m, e => mtL l m e
  | .tu l, .tu m, e => mtL l m e
  | .f _ l, .f _ m, e => mtL l m e
  | _, _, e => e
def mtL : List V → List V → PE → PE
  | v :: l, u :: m, e => mtL l m (mtV v u e)
  | _, _, e => e
end
/-- the places of the literal memory's blocks, found from the arguments -/
def findE (S : St) : List (List V) → Nat → PE → PE
  | [], _, e => e
  | cs :: r, n, e => match lk e n with
    | some q => (match S.h.get q with | some b => findE S r (n + 1) (mtL cs b.cs e) | none => e)
    | none => e
def blkOk (S : St) (π : Pos → Pos) (q : Pos) (cs : List V) : Bool := match S.h.get q with
  | some b => !Nat.beq b.born 0 && eqL b.cs (renL π cs)
  | none => false
def blksOk (S : St) (e : PE) : List (List V) → Nat → Bool
  | [], _ => true
  | cs :: r, n => (match lk e n with | some q => blkOk S (envF e) q cs | none => false) && blksOk S e r (n + 1)
def notIn (e : PE) (q : Pos) : Nat → Nat → Bool
  | 0, _ => true
  | m + 1, n => (match lk e n with | some q' => !eqP q q' | none => false) && notIn e q m (n + 1)
def injOk (e : PE) : Nat → Nat → Bool
  | 0, _ => true
  | m + 1, n => (match lk e n with | some q => notIn e q m (n + 1) | none => false) && injOk e m (n + 1)
def argsOk (bl : List (List V)) (vs1 vs : List V) (S : St) (e : PE) : Bool := eqL vs (renL (envF e) vs1) && blksOk S e bl 1 && injOk e bl.length 1
theorem blksOk_get {S : St} {e : PE} : ∀ (bl : List (List V)) (n : Nat), blksOk S e bl n = true → ∀ (j : Nat) (cs : List V), bl[j]? = some cs → ∃ q b, lk e (n + j) = some q ∧ S.h.get q = some b ∧ b.born ≠ 0 ∧ b.cs = renL (envF e) cs
  | [], n, h, j, cs, hj => by simp at hj
  | c :: r, n, h, j, cs, hj => by
    simp only [blksOk, Bool.and_eq_true] at h
    cases j with
    | zero =>
      simp at hj; subst hj
      cases hq : lk e n with
      | none => rw [hq] at h; simp at h
      | some q =>
        rw [hq] at h
        simp only [blkOk] at h
        cases hb : S.h.get q with
        | none => rw [hb] at h; simp at h
        | some b =>
          rw [hb] at h
          simp only [Bool.and_eq_true] at h
          refine ⟨q, b, rfl, hb, fun e0 => ?_, eqL_eq _ _ h.1.2⟩
          rw [e0] at h; simp at h
    | succ j =>
      obtain ⟨q, b, h1⟩ := blksOk_get r (n + 1) h.2 j cs (by simpa using hj)
      exact ⟨q, b, by rw [show n + (j + 1) = n + 1 + j by omega]; exact h1.1, h1.2⟩
theorem notIn_get {e : PE} {q : Pos} : ∀ (m n : Nat), notIn e q m n = true → ∀ j, j < m → ∀ q', lk e (n + j) = some q' → q ≠ q'
  | 0, n, h, j, hj, _, _ => by omega
  | m + 1, n, h, j, hj, q', hq => by
    simp only [notIn, Bool.and_eq_true] at h
    cases j with
    | zero =>
      rw [show n + 0 = n from rfl] at hq
      rw [hq] at h
      intro e0; subst e0
      simp [eqP] at h
    | succ j => exact notIn_get m (n + 1) h.2 j (by omega) q' (by rw [← hq]; congr 1; omega)
theorem injOk_get {e : PE} : ∀ (m n : Nat), injOk e m n = true → ∀ i j, i < j → j < m → ∀ q q', lk e (n + i) = some q → lk e (n + j) = some q' → q ≠ q'
  | 0, n, h, i, j, _, hj, _, _, _, _ => by omega
  | m + 1, n, h, i, j, hij, hj, q, q', hq, hq' => by
    simp only [injOk, Bool.and_eq_true] at h
    cases i with
    | zero =>
      rw [show n + 0 = n from rfl] at hq
      rw [hq] at h
      exact notIn_get m (n + 1) h.1 (j - 1) (by omega) q' (by rw [← hq']; congr 1; omega)
    | succ i => exact injOk_get m (n + 1) h.2 i (j - 1) (by omega) (by omega) q q' (by rw [← hq]; congr 1; omega) (by rw [← hq']; congr 1; omega)
end
end Go.AM
