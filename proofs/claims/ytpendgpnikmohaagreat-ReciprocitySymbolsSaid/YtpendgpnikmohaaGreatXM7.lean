/- Literal runs over flat memory, looked up fast. -/
import Derived.Test.YtpendgpnikmohaaGreatXM6
namespace Go.AM
set_option linter.unusedVariables false
set_option linter.constructorNameAsVariable false
noncomputable section
variable {P : Program}
/-- a value that names no place -/
def flatV : V → Bool
  | .b _ | .i _ _ | .s _ | .u | .pn | .sn | .fn0 => true
  | _ => false
def flatL : List V → Bool
  | [] => true
  | v :: l => flatV v && flatL l
theorem flat_renV (π : Pos → Pos) {v : V} (h : flatV v = true) : renV π v = v := by cases v <;> first | rfl | cases h
theorem flat_renL (π : Pos → Pos) : ∀ {l : List V}, flatL l = true → renL π l = l
  | [], _ => rfl
  | v :: l, h => by
    simp only [flatL, Bool.and_eq_true] at h
    simp only [renL, flat_renV π h.1, flat_renL π h.2]
theorem flat_mt : ∀ {l : List V} (m : List V) (e : PE), flatL l = true → mtL l m e = e
  | [], m, e, _ => by cases m <;> rfl
  | v :: l, [], e, _ => rfl
  | v :: l, u :: m, e, h => by
    simp only [flatL, Bool.and_eq_true] at h
    have hv : mtV v u e = e := by cases v <;> first | cases u <;> rfl | cases h.1
    simp only [mtL, hv, flat_mt m e h.2]
theorem flat_find (S : St) : ∀ (bl : List (List V)) (n : Nat) (e : PE), bl.all flatL = true → findE S bl n e = e
  | [], n, e, _ => rfl
  | cs :: r, n, e, h => by
    simp only [List.all_cons, Bool.and_eq_true] at h
    simp only [findE]
    split
    · split
      · rw [flat_mt _ _ h.1]; exact flat_find S r (n + 1) e h.2
      · rfl
    · rfl
/-- equality of two values, fast where they are flat -/
def fV (a b : V) : Bool :=
  @V.rec (fun _ => Bool) (fun _ => Unit) (eqV a b)
    (fun y => @V.rec (fun _ => Bool) (fun _ => Unit) false (fun x => Bool.rec (Bool.not y) y x) (fun _ _ => false) (fun _ => false) (fun _ _ => false) false (fun _ _ _ _ => false) (fun _ _ _ _ _ => false) false (fun _ _ => false) (fun _ _ => false) (fun _ _ _ => false) false false () (fun _ _ _ _ => ()) a)
    (fun _ _ => eqV a b)
    (fun m => @V.rec (fun _ => Bool) (fun _ => Unit) false (fun _ => false) (fun _ _ => false) (fun l => eqB l m) (fun _ _ => false) false (fun _ _ _ _ => false) (fun _ _ _ _ _ => false) false (fun _ _ => false) (fun _ _ => false) (fun _ _ _ => false) false false () (fun _ _ _ _ => ()) a)
    (fun _ _ => eqV a b) (eqV a b) (fun _ _ _ _ => eqV a b) (fun _ _ _ _ _ => eqV a b) (eqV a b) (fun _ _ => eqV a b) (fun _ _ => eqV a b) (fun _ _ _ => eqV a b) (eqV a b) (eqV a b) () (fun _ _ _ _ => ()) b
def fL (l : List V) : List V → Bool :=
  List.rec (fun m => List.rec true (fun _ _ _ => false) m) (fun a _ ih m => List.rec false (fun b t _ => Bool.rec false (ih t) (fV a b)) m) l
theorem fV_eq (a b : V) (h : fV a b = true) : a = b := by
  cases b <;> first
    | exact eqV_eq _ _ h
    | (cases a <;> first
        | (cases h; done)
        | (rename_i y x; revert h; cases x <;> cases y <;> intro h <;> first | rfl | cases h)
        | (rename_i m l; rw [eq_of_beq ((eqB_eq l m).symm.trans h)]))
theorem fL_eq : ∀ (l m : List V), fL l m = true → l = m
  | [], [], _ => rfl
  | [], _ :: _, h => by cases h
  | _ :: _, [], h => by cases h
  | a :: l, b :: m, h => by
    have e : fL (a :: l) (b :: m) = Bool.rec false (fL l m) (fV a b) := by rfl
    rw [e] at h
    cases hb : fV a b
    · rw [hb] at h; cases h
    · rw [hb] at h; rw [fV_eq a b hb, fL_eq l m h]
mutual
theorem eqV_refl : ∀ v : V, v ≠ .other → flatV v = true → eqV v v = true
  | .b x, _, _ => by simp [eqV]
  | .i k n, _, _ => by simp [eqV, eqK]
  | .s l, _, _ => by simp only [eqV]; exact eqN_refl l
  | .u, _, _ => rfl
  | .pn, _, _ => rfl
  | .sn, _, _ => rfl
  | .fn0, _, _ => rfl
  | .p _ _, _, h => by cases h
  | .sl _ _ _ _, _, h => by cases h
  | .so _ _ _ _ _, _, h => by cases h
  | .ag _, _, h => by cases h
  | .tu _, _, h => by cases h
  | .f _ _, _, h => by cases h
  | .other, h, _ => absurd rfl h
theorem eqN_refl : ∀ l : List Nat, eqN l l = true
  | [] => rfl
  | a :: l => by simp only [eqN, Nat.beq_refl, eqN_refl l, Bool.and_self]
end
theorem eqL_refl : ∀ {l : List V}, flatL l = true → eqL l l = true
  | [], _ => rfl
  | v :: l, h => by
    simp only [flatL, Bool.and_eq_true] at h
    simp only [eqL, eqL_refl h.2, Bool.and_true]
    exact eqV_refl v (fun e => by subst e; cases h.1) h.1
/-- what tells two rows of arguments apart at once -/
def shV (a b : V) : Bool :=
  @V.rec (fun _ => Bool) (fun _ => Unit) true (fun _ => true)
    (fun _ n => @V.rec (fun _ => Bool) (fun _ => Unit) true (fun _ => true) (fun _ m => Nat.beq n m) (fun _ => true) (fun _ _ => true) true (fun _ _ _ _ => true) (fun _ _ _ _ _ => true) true (fun _ _ => true) (fun _ _ => true) (fun _ _ _ => true) true true () (fun _ _ _ _ => ()) b)
    (fun _ => true) (fun _ _ => true) true
    (fun _ _ n _ => @V.rec (fun _ => Bool) (fun _ => Unit) true (fun _ => true) (fun _ _ => true) (fun _ => true) (fun _ _ => true) true (fun _ _ m _ => Nat.beq n m) (fun _ _ _ _ _ => true) true (fun _ _ => true) (fun _ _ => true) (fun _ _ _ => true) true true () (fun _ _ _ _ => ()) b)
    (fun _ _ _ _ _ => true) true (fun _ _ => true) (fun _ _ => true) (fun _ _ _ => true) true true () (fun _ _ _ _ => ()) a
def shL (l : List V) : List V → Bool := List.rec (fun _ => true) (fun a _ ih m => List.rec true (fun b t _ => Bool.rec false (ih t) (shV a b)) m) l
def blkQ (S : St) (q : Pos) (cs : List V) : Bool := match S.h.get q with
  | some b => !Nat.beq b.born 0 && fL b.cs cs
  | none => false
def blksQ (S : St) (e : PE) : List (List V) → Nat → Bool
  | [], _ => true
  | cs :: r, n => (match lk e n with | some q => blkQ S q cs | none => false) && blksQ S e r (n + 1)
theorem blksQ_ok {S : St} {e : PE} : ∀ (bl : List (List V)) (n : Nat), bl.all flatL = true → blksQ S e bl n = true → blksOk S e bl n = true
  | [], n, _, _ => rfl
  | cs :: r, n, hf, h => by
    simp only [List.all_cons, Bool.and_eq_true] at hf
    simp only [blksQ, Bool.and_eq_true] at h
    simp only [blksOk, Bool.and_eq_true]
    refine ⟨?_, blksQ_ok r (n + 1) hf.2 h.2⟩
    cases hq : lk e n with
    | none => rw [hq] at h; simp at h
    | some q =>
      rw [hq] at h
      have h1 := h.1
      simp only [blkQ] at h1
      simp only [blkOk]
      cases hb : S.h.get q with
      | none => rw [hb] at h1; simp at h1
      | some b =>
        rw [hb] at h1
        simp only [Bool.and_eq_true] at h1 ⊢
        refine ⟨h1.1, ?_⟩
        rw [fL_eq _ _ h1.2, flat_renL _ hf.1]
        exact eqL_refl hf.1
def layQ : List (Pos × List V) → St → (St → R) → R
  | [], S, k => k S
  | x :: r, S, k => newK x.2 S fun _ S => layQ r S k
theorem layQ_eq (π : Pos → Pos) : ∀ (l : List (Pos × List V)) (S : St) (k : St → R), l.all (fun x => flatL x.2) = true → layQ l S k = layK π l S k
  | [], S, k, _ => rfl
  | x :: r, S, k, h => by
    simp only [List.all_cons, Bool.and_eq_true] at h
    simp only [layQ, layK, forceL_eq, flat_renL π h.1]
    congr 1; funext _ S; exact layQ_eq π r S k h.2
def argsQ (bl : List (List V)) (vs1 vs : List V) (S : St) (e : PE) : Bool := eqL vs (renL (envF e) vs1) && blksQ S e bl 1 && injOk e bl.length 1
def memoQ (bl : List (List V)) (vs1 : List V) (v1 : V) (outs : List (Pos × List V)) : Fun := fun vs S k =>
  iF (shL vs1 vs) ((fun e => cond (argsQ bl vs1 vs S e) (layQ outs S fun S' => forceT (renV (envF (outE outs S.nx ++ e)) v1) fun v => k v S') none) (mtL vs1 vs [])) none
theorem memoQ_ok {f : FuncId} {bl : List (List V)} {vs1 : List V} {v1 : V} {outs : List (Pos × List V)} (h : FOK P f (memoF bl vs1 v1 outs)) (hb : bl.all flatL = true) (ho : outs.all (fun x => flatL x.2) = true) : FOK P f (memoQ bl vs1 v1 outs) := by
  intro vs S k out ok h'
  refine h vs S k out ok ?_
  simp only [memoQ] at h'
  cases hs : shL vs1 vs
  · rw [hs] at h'; cases h'
  · rw [hs] at h'
    have h' : cond (argsQ bl vs1 vs S (mtL vs1 vs [])) (layQ outs S fun S' => forceT (renV (envF (outE outs S.nx ++ mtL vs1 vs [])) v1) fun v => k v S') none = some out := h'
    cases ha : argsQ bl vs1 vs S (mtL vs1 vs [])
    · rw [ha] at h'; cases h'
    · rw [ha, cond_true] at h'
      simp only [memoF, flat_find S bl 1 _ hb]
      have : argsOk bl vs1 vs S (mtL vs1 vs []) = true := by
        simp only [argsQ, Bool.and_eq_true] at ha
        simp only [argsOk, Bool.and_eq_true]
        exact ⟨⟨ha.1.1, blksQ_ok bl 1 hb ha.1.2⟩, ha.2⟩
      rw [this, cond_true, ← layQ_eq _ _ _ _ ho]
      exact h'
/-- a row of such literal runs before another text: the first whose arguments these are -/
def memoO (bl : List (List V)) (vs1 : List V) (v1 : V) (outs : List (Pos × List V)) (B : Fun) : Fun := fun vs S k =>
  iF (shL vs1 vs) ((fun e => iF (argsQ bl vs1 vs S e) (layQ outs S fun S' => forceT (renV (envF (outE outs S.nx ++ e)) v1) fun v => k v S') (B vs S k)) (mtL vs1 vs [])) (B vs S k)
theorem memoO_ok {f : FuncId} {bl : List (List V)} {vs1 : List V} {v1 : V} {outs : List (Pos × List V)} {B : Fun} (h : FOK P f (memoF bl vs1 v1 outs)) (hb : bl.all flatL = true) (ho : outs.all (fun x => flatL x.2) = true) (hB : FOK P f B) : FOK P f (memoO bl vs1 v1 outs B) := by
  intro vs S k out ok h'
  simp only [memoO] at h'
  cases hs : shL vs1 vs
  · rw [hs] at h'; exact hB vs S k out ok h'
  · rw [hs] at h'
    have h' : iF (argsQ bl vs1 vs S (mtL vs1 vs [])) (layQ outs S fun S' => forceT (renV (envF (outE outs S.nx ++ mtL vs1 vs [])) v1) fun v => k v S') (B vs S k) = some out := h'
    cases ha : argsQ bl vs1 vs S (mtL vs1 vs [])
    · rw [ha] at h'; exact hB vs S k out ok h'
    · refine memoQ_ok h hb ho vs S k out ok ?_
      rw [ha] at h'
      simp only [memoQ, hs]
      show cond (argsQ bl vs1 vs S (mtL vs1 vs [])) _ none = some out
      rw [ha]; exact h'
end
end Go.AM
