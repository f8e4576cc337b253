/- Sums and products of small whole fractions of the reference, as tables. -/
import Derived.Test.YtndgeimkifdifaaGreatXM
import Derived.Test.YtndgeimkifdifaaGreatR47
set_option linter.unusedVariables false
set_option linter.unusedSimpArgs false
set_option maxRecDepth 100000
namespace Go.AM
open Go.Proofs
noncomputable section
variable {out : V × St} {P : Program}
/-- a run at values that name no place, told by its result -/
theorem pure_at {f : FuncId} {F : Fun} (hF : FOK P f F) {vs : List V} {v : V} (h1 : ∀ p, okL p vs = true) (h2 : ∀ π, renL π vs = vs) (h3 : eqL vs vs = true) (h4 : ∀ p, okV p v = true) (h5 : ∀ π, renV π v = v) (h6 : eqV v v = true) (h7 : ∀ e : PE, mtL vs vs e = e)
    (hr : ∃ S2, F vs (mkS []) (fun v S => some (v, S)) = some (v, S2)) {S : St} {k : Cont} (ok : SOK S) (h : k v S = some out) : ∃ v' S', k v' S' = some out ∧ CallOK P f vs S v' S' := by
  obtain ⟨S2, hr⟩ := hr
  have hs : stat [] vs v [] = true := by simp only [stat, h1, h4, List.all_nil, nd, Bool.and_self]
  have hq : runOk (F vs (mkS []) fun v S => some (v, S)) v [] = true := by rw [hr]; simp only [runOk, h6, List.all_nil, Bool.and_self]
  refine memo_ok hF hs hq vs S k out ok ?_
  have ha : ∀ e, argsOk [] vs vs S e = true := fun e => by simp only [argsOk, h2, h3, blksOk, List.length_nil, injOk, Bool.and_self]
  simp only [memoF, ha, cond_true, layK_eq, forceT_eq, h5, List.map_nil, layS]
  exact h
/-- a small whole fraction: a sign, and a number -/
def rv (s : Bool) : Nat → V
  | 0 => .ag [.b false, .s [], .s [1]]
  | n + 1 => .ag [.b s, .s [n + 1], .s [1]]
theorem rv_ok (p : Pos → Bool) (s : Bool) : ∀ n, okV p (rv s n) = true
  | 0 => rfl
  | n + 1 => rfl
theorem rv_ren (π : Pos → Pos) (s : Bool) : ∀ n, renV π (rv s n) = rv s n
  | 0 => rfl
  | n + 1 => rfl
theorem rv_eq (s : Bool) : ∀ n, eqV (rv s n) (rv s n) = true
  | 0 => by cases s <;> rfl
  | n + 1 => by
    show (s == s && (eqN [n + 1] [n + 1] && (eqN [1] [1] && true))) = true
    have : eqN [n + 1] [n + 1] = true := by show (Nat.beq (n + 1) (n + 1) && true) = true; rw [Nat.beq_refl]; rfl
    rw [this]; cases s <;> rfl
def encK (s : Bool) (n : Nat) (k : V → R) : R := Nat.rec (k (.ag [.b false, .s [], .s [1]])) (fun m _ => Bool.rec (k (.ag [.b false, .s [Nat.succ m], .s [1]])) (k (.ag [.b true, .s [Nat.succ m], .s [1]])) s) n
theorem encK_eq (s : Bool) (k : V → R) : ∀ n, encK s n k = k (rv s n)
  | 0 => rfl
  | n + 1 => by cases s <;> rfl
def decK (v : V) (z : R) (k : Bool → Nat → R) : R := vA v (fun l => lenL l 0 (fun c => gu (Nat.beq c 3) (nthK l 0 (fun b => nthK l 1 (fun a => nthK l 2 (fun d => vB b (fun s => vS a (fun la => vS d (fun ld => Bool.rec z
  (List.rec (Bool.rec (k false 0) z s) (fun x t _ => List.rec (Nat.rec z (fun m _ => k s (Nat.succ m)) x) (fun _ _ _ => z) t) la) (eqB ld [1]))))))))))
theorem decK_some {v : V} {z : R} {k : Bool → Nat → R} (h : decK v z k = some out) : z = some out ∨ ∃ s n, v = rv s n ∧ k s n = some out := by
  obtain ⟨l, rfl, h1⟩ := vA_some h
  rw [lenL_zero] at h1
  obtain ⟨h2, h3⟩ := gu_some h1
  have hl := Nat.eq_of_beq_eq_true h2
  match l, hl with
  | [b, a, d], _ =>
    have h4 : vB b (fun s => vS a (fun la => vS d (fun ld => @Bool.rec (fun _ => R) z (@List.rec Nat (fun _ => R) (@Bool.rec (fun _ => R) (k false 0) z s) (fun x t _ => @List.rec Nat (fun _ => R) (@Nat.rec (fun _ => R) z (fun m _ => k s (Nat.succ m)) x) (fun _ _ _ => z) t) la) (eqB ld [1])))) = some out := h3
    obtain ⟨s, rfl, h5⟩ := vB_some h4
    obtain ⟨la, rfl, h6⟩ := vS_some h5
    obtain ⟨ld, rfl, h7⟩ := vS_some h6
    cases he : eqB ld [1] with
    | false => rw [he] at h7; exact .inl h7
    | true =>
      rw [he] at h7
      have hd : ld = [1] := eq_of_beq ((eqB_eq ld [1]).symm.trans he)
      subst hd
      match la, h7 with
      | [], h7 =>
        cases s with
        | true => exact .inl h7
        | false => exact .inr ⟨false, 0, rfl, h7⟩
      | [0], h7 => exact .inl h7
      | [n + 1], h7 => exact .inr ⟨s, n + 1, rfl, h7⟩
      | _ :: _ :: _, h7 => exact .inl h7
def sumK (s : Bool) (x : Nat) (t : Bool) (y : Nat) (k : Bool → Nat → R) : R := Bool.rec (Bool.rec (fN (Nat.sub y x) (k t)) (fN (Nat.sub x y) (k s)) (Nat.ble y x)) (fN (Nat.add x y) (k s)) (Bool.rec (Bool.rec true false t) t s)
def sumP (s : Bool) (x : Nat) (t : Bool) (y : Nat) : Bool × Nat := bif (s == t) then (s, x + y) else bif Nat.ble y x then (s, x - y) else (t, y - x)
theorem sumK_eq (s : Bool) (x : Nat) (t : Bool) (y : Nat) (k : Bool → Nat → R) : sumK s x t y k = k (sumP s x t y).1 (sumP s x t y).2 := by
  unfold sumK sumP
  cases s <;> cases t <;> simp only [fN_eq] <;> first | rfl | (cases Nat.ble y x <;> simp only [fN_eq] <;> rfl)
def mulP (s : Bool) (x : Nat) (t : Bool) (y : Nat) : Bool × Nat := (Bool.rec (Bool.rec false true t) (Bool.rec true false t) s, x * y)
def tab (F : Gn 2) (bx byy : Nat) (op : Bool → Nat → Bool → Nat → (Bool → Nat → R) → R) : Gn 2 := fun a b S k => decK a (F a b S k) (fun s x => decK b (F a b S k) (fun t y => Bool.rec (F a b S k) (op s x t y (fun r n => encK r n (fun v => k v S))) (Bool.and (Nat.blt x bx) (Nat.blt y byy))))
def upto0 (f : Nat → Bool) : Nat → Bool := Nat.rec true (fun n ih => Bool.rec (motive := fun _ => Bool) false ih (f n))
theorem upto0_ok {f : Nat → Bool} : ∀ {n : Nat}, upto0 f n = true → ∀ a, a < n → f a = true
  | 0, _, a, h => by omega
  | n + 1, h, a, h1 => by
    have h : Bool.rec (motive := fun _ => Bool) false (upto0 f n) (f n) = true := h
    cases hb : f n with
    | false => rw [hb] at h; cases h
    | true =>
      rw [hb] at h
      rcases Nat.lt_or_ge a n with h3 | h3
      · exact upto0_ok h a h3
      · have : a = n := by omega
        subst this; exact hb
def okR (r : R) (x : V) : Bool := match r with
  | some r => eqV r.1 x
  | none => false
theorem okR_some {r : R} {x : V} (h : okR r x = true) : ∃ S, r = some (x, S) := by
  cases r with
  | none => cases h
  | some r => obtain ⟨v, S⟩ := r; exact ⟨S, by rw [eqV_eq _ _ (show eqV v x = true from h)]⟩
/-- the run at two fractions is what the table says -/
def at2 (F : Gn 2) (T : Bool → Nat → Bool → Nat → Bool × Nat) (x y : Nat) (s t : Bool) : Bool := okR (F (rv s x) (rv t y) (mkS []) fun v S => some (v, S)) (rv (T s x t y).1 (T s x t y).2)
def chk (F : Gn 2) (T : Bool → Nat → Bool → Nat → Bool × Nat) (bx byy : Nat) : Bool := upto0 (fun x => upto0 (fun y => at2 F T x y false false && (at2 F T x y false true && (at2 F T x y true false && at2 F T x y true true))) byy) bx
theorem tab_ok {f : FuncId} {F : Gn 2} (hF : FOK P f (un 2 F)) {bx byy : Nat} {op : Bool → Nat → Bool → Nat → (Bool → Nat → R) → R} {T : Bool → Nat → Bool → Nat → Bool × Nat} (hop : ∀ s x t y k, op s x t y k = k (T s x t y).1 (T s x t y).2) (hc : chk F T bx byy = true) : FOK P f (un 2 (tab F bx byy op)) := by
  intro vs S k out ok h
  match vs, h with
  | [], h => exact no h
  | [_], h => exact no h
  | _ :: _ :: _ :: _, h => exact no h
  | [a, b], h =>
    have slow : F a b S k = some out → _ := fun h => hF [a, b] S k out ok h
    have h : decK a (F a b S k) (fun s x => decK b (F a b S k) (fun t y => @Bool.rec (fun _ => R) (F a b S k) (op s x t y (fun r n => encK r n (fun v => k v S))) (Bool.and (Nat.blt x bx) (Nat.blt y byy)))) = some out := h
    rcases decK_some h with h | ⟨s, x, rfl, h⟩
    · exact slow h
    rcases decK_some h with h | ⟨t, y, rfl, h⟩
    · exact slow h
    cases hb : Bool.and (Nat.blt x bx) (Nat.blt y byy) with
    | false => rw [hb] at h; exact slow h
    | true =>
      rw [hb] at h
      simp only [Bool.and_eq_true] at hb
      have hx : x < bx := by have := hb.1; rw [blt_eq] at this; exact of_decide_eq_true this
      have hy : y < byy := by have := hb.2; rw [blt_eq] at this; exact of_decide_eq_true this
      have h : op s x t y (fun r n => encK r n (fun v => k v S)) = some out := h
      rw [hop, encK_eq] at h
      have h1 := upto0_ok (upto0_ok hc x hx) y hy
      simp only [Bool.and_eq_true] at h1
      have h2 : at2 F T x y s t = true := by cases s <;> cases t <;> first | exact h1.1 | exact h1.2.1 | exact h1.2.2.1 | exact h1.2.2.2
      refine pure_at (vs := [rv s x, rv t y]) hF (fun p => ?_) (fun π => ?_) ?_ (fun p => rv_ok p _ _) (fun π => rv_ren π _ _) (rv_eq _ _) (fun e => ?_) (okR_some h2) ok h
      · simp only [okL, rv_ok, Bool.and_self]
      · simp only [renL, rv_ren]
      · simp only [eqL, rv_eq, Bool.and_self]
      · cases x <;> cases y <;> rfl
theorem chkA : chk F84 sumP 64 8 = true := by kernel_rfl
theorem chkM : chk F85 mulP 64 2 = true := by kernel_rfl
def F84q : Gn 2 := tab F84 64 8 sumK
theorem K84q : FOK Tryz.prog 84 (un 2 F84q) := tab_ok K84 sumK_eq chkA
def mulK (s : Bool) (x : Nat) (t : Bool) (y : Nat) (k : Bool → Nat → R) : R := fN (Nat.mul x y) (fun n => Bool.rec (Bool.rec (k false n) (k true n) t) (Bool.rec (k true n) (k false n) t) s)
theorem mulK_eq (s : Bool) (x : Nat) (t : Bool) (y : Nat) (k : Bool → Nat → R) : mulK s x t y k = k (mulP s x t y).1 (mulP s x t y).2 := by
  unfold mulK; rw [fN_eq]; cases s <;> cases t <;> rfl
def F85q : Gn 2 := tab F85 64 2 mulK
theorem K85q : FOK Tryz.prog 85 (un 2 F85q) := tab_ok K85 mulK_eq chkM
end
end Go.AM
