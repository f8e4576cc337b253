/- Commutative rings, plain: a class of our own, and a small solver for identities between expressions in a ring. No program in sight. -/
import Derived.Test.YtmknclgamadphaaM1PolymodPrimes
namespace Go.Proofs.Ytmknclgamadphaa.MPolymodPrimes
set_option linter.unusedVariables false
set_option linter.unusedSimpArgs false

class CR (R : Type) extends Add R, Mul R, Neg R where
  zero : R
  one : R
  add_assoc : ∀ a b c : R, a + b + c = a + (b + c)
  add_comm : ∀ a b : R, a + b = b + a
  add_zero : ∀ a : R, a + zero = a
  add_neg : ∀ a : R, a + -a = zero
  mul_assoc : ∀ a b c : R, a * b * c = a * (b * c)
  mul_comm : ∀ a b : R, a * b = b * a
  mul_one : ∀ a : R, a * one = a
  mul_add : ∀ a b c : R, a * (b + c) = a * b + a * c
instance {R : Type} [CR R] : OfNat R 0 := ⟨CR.zero⟩
instance {R : Type} [CR R] : OfNat R 1 := ⟨CR.one⟩
instance {R : Type} [CR R] : Sub R := ⟨fun a b => a + -b⟩
namespace CR
variable {R : Type} [CR R]
theorem sub_def (a b : R) : a - b = a + -b := rfl
theorem add_0 (a : R) : a + 0 = a := CR.add_zero a
theorem zero_add (a : R) : 0 + a = a := by rw [add_comm]; exact CR.add_zero a
theorem add_neg' (a : R) : a + -a = 0 := CR.add_neg a
theorem neg_add' (a : R) : -a + a = 0 := by rw [add_comm]; exact CR.add_neg a
theorem mul_1 (a : R) : a * 1 = a := CR.mul_one a
theorem one_mul (a : R) : 1 * a = a := by rw [mul_comm]; exact CR.mul_one a
theorem add_left_comm (a b c : R) : a + (b + c) = b + (a + c) := by rw [← add_assoc, add_comm a, add_assoc]
theorem mul_left_comm (a b c : R) : a * (b * c) = b * (a * c) := by rw [← mul_assoc, mul_comm a, mul_assoc]
theorem add_mul (a b c : R) : (a + b) * c = a * c + b * c := by rw [mul_comm, mul_add, mul_comm c, mul_comm c]
theorem add_cancel {a b c : R} (h : a + c = b + c) : a = b := by
  have := congrArg (· + -c) h
  simpa only [add_assoc, add_neg', add_0] using this
theorem mul_0 (a : R) : a * 0 = 0 := by
  apply add_cancel (c := a * 0)
  rw [← mul_add, add_0, zero_add]
theorem zero_mul (a : R) : 0 * a = 0 := by rw [mul_comm, mul_0]
theorem neg_eq {a b : R} (h : a + b = 0) : b = -a := by
  apply add_cancel (c := a)
  rw [add_comm b, h, neg_add']
theorem neg_mul (a b : R) : -a * b = -(a * b) := neg_eq (by rw [← add_mul, add_neg', zero_mul])
theorem neg_neg (a : R) : - -a = a := (neg_eq (neg_add' a)).symm
theorem neg_zero : -(0 : R) = 0 := (neg_eq (add_0 0)).symm
theorem neg_add (a b : R) : -(a + b) = -a + -b := (neg_eq (by rw [add_assoc, add_left_comm b, add_neg', add_0, add_neg'])).symm
theorem sub_self (a : R) : a - a = 0 := add_neg' a
theorem sub_eq_zero {a b : R} (h : a - b = 0) : a = b := by
  rw [sub_def, add_comm] at h
  have := neg_eq h
  rw [this, neg_neg]
/-! multiples by whole numbers -/
def nsm : Nat → R → R
  | 0, _ => 0
  | n + 1, a => nsm n a + a
theorem nsm_add (m n : Nat) (a : R) : nsm (m + n) a = nsm m a + nsm n a := by
  induction n with
  | zero => exact (add_0 _).symm
  | succ n ih => show nsm (m + n) a + a = nsm m a + (nsm n a + a); rw [ih, add_assoc]
theorem nsm_plus (n : Nat) (a b : R) : nsm n (a + b) = nsm n a + nsm n b := by
  induction n with
  | zero => exact (add_0 0).symm
  | succ n ih => show nsm n (a + b) + (a + b) = (nsm n a + a) + (nsm n b + b); rw [ih, add_assoc, add_assoc, add_left_comm (nsm n b)]
theorem nsm_mul (n : Nat) (a b : R) : nsm n a * b = nsm n (a * b) := by
  induction n with
  | zero => exact zero_mul b
  | succ n ih => show (nsm n a + a) * b = nsm n (a * b) + a * b; rw [add_mul, ih]
theorem nsm_nsm (m n : Nat) (a : R) : nsm (m * n) a = nsm m (nsm n a) := by
  induction m with
  | zero => rw [Nat.zero_mul]; rfl
  | succ m ih => rw [Nat.succ_mul, nsm_add, ih]; rfl
theorem nsm_zero (n : Nat) : nsm n (0 : R) = 0 := by
  induction n with
  | zero => rfl
  | succ n ih => show nsm n 0 + 0 = 0; rw [ih, add_0]
/-! ### a solver: sums of signed products -/
/-- An expression over variables. -/
inductive X where
  | v (i : Nat)
  | z
  | o
  | add (a b : X)
  | mul (a b : X)
  | neg (a : X)
instance : Add X := ⟨.add⟩
instance : Mul X := ⟨.mul⟩
instance : Neg X := ⟨.neg⟩
instance : Sub X := ⟨fun a b => .add a (.neg b)⟩
def X.ev (env : Nat → R) : X → R
  | .v i => env i
  | .z => 0
  | .o => 1
  | .add a b => a.ev env + b.ev env
  | .mul a b => a.ev env * b.ev env
  | .neg a => -(a.ev env)
/-- A product of variables. -/
def mev (env : Nat → R) : List Nat → R
  | [] => 1
  | i :: l => env i * mev env l
def minsert (i : Nat) : List Nat → List Nat
  | [] => [i]
  | j :: l => if i ≤ j then i :: j :: l else j :: minsert i l
theorem mev_insert (env : Nat → R) (i : Nat) (l : List Nat) : mev env (minsert i l) = env i * mev env l := by
  induction l with
  | nil => rfl
  | cons j l ih =>
    unfold minsert
    split
    · rfl
    · show env j * mev env (minsert i l) = _
      rw [ih, mul_left_comm]; rfl
def mmul : List Nat → List Nat → List Nat
  | [], m => m
  | i :: l, m => minsert i (mmul l m)
theorem mev_mul (env : Nat → R) (l m : List Nat) : mev env (mmul l m) = mev env l * mev env m := by
  induction l with
  | nil => exact (one_mul _).symm
  | cons i l ih => show mev env (minsert i (mmul l m)) = _; rw [mev_insert, ih, ← mul_assoc]; rfl
/-- A sum: monomials with how often they stand with + and with -. -/
def pev (env : Nat → R) : List (List Nat × Nat × Nat) → R
  | [] => 0
  | (m, a, b) :: l => (nsm a (mev env m) + -(nsm b (mev env m))) + pev env l
/-- Taken together: what stands on both sides falls away. -/
def canc (a b : Nat) : Nat × Nat := (a - min a b, b - min a b)
theorem canc_ev (a b : Nat) (x : R) : nsm (canc a b).1 x + -(nsm (canc a b).2 x) = nsm a x + -(nsm b x) := by
  have h1 : a = (canc a b).1 + min a b := by simp only [canc]; omega
  have h2 : b = (canc a b).2 + min a b := by simp only [canc]; omega
  generalize (canc a b).1 = c at *
  generalize (canc a b).2 = d at *
  generalize min a b = e at *
  rw [h1, h2, nsm_add, nsm_add, neg_add, add_assoc, add_left_comm (nsm e x), add_neg', add_0]
def lle : List Nat → List Nat → Bool
  | [], _ => true
  | _ :: _, [] => false
  | i :: l, j :: m => if i < j then true else if j < i then false else lle l m
def pins (m : List Nat) (a b : Nat) : List (List Nat × Nat × Nat) → List (List Nat × Nat × Nat)
  | [] => [(m, a, b)]
  | (n, c, d) :: l => if m = n then (let e := canc (a + c) (b + d); if e = (0, 0) then l else (n, e.1, e.2) :: l) else if lle m n then (m, a, b) :: (n, c, d) :: l else (n, c, d) :: pins m a b l
theorem pev_ins (env : Nat → R) (m : List Nat) (a b : Nat) (l : List (List Nat × Nat × Nat)) : pev env (pins m a b l) = (nsm a (mev env m) + -(nsm b (mev env m))) + pev env l := by
  induction l with
  | nil => rfl
  | cons x l ih =>
    obtain ⟨n, c, d⟩ := x
    unfold pins
    split
    · rename_i h
      subst h
      have he : nsm (canc (a + c) (b + d)).1 (mev env m) + -(nsm (canc (a + c) (b + d)).2 (mev env m)) = (nsm a (mev env m) + -(nsm b (mev env m))) + (nsm c (mev env m) + -(nsm d (mev env m))) := by
        rw [canc_ev, nsm_add, nsm_add, neg_add, add_assoc, add_assoc, add_left_comm (nsm c (mev env m))]
      simp only []
      split
      · rename_i h0
        rw [h0] at he
        have : (0 : R) = (nsm a (mev env m) + -(nsm b (mev env m))) + (nsm c (mev env m) + -(nsm d (mev env m))) := by
          rw [← he]; show (0 : R) = 0 + -0; rw [neg_zero, add_0]
        show pev env l = _ + ((nsm c (mev env m) + -(nsm d (mev env m))) + pev env l)
        rw [← add_assoc, ← this, zero_add]
      · show (nsm _ (mev env m) + -(nsm _ (mev env m))) + pev env l = _ + ((nsm c (mev env m) + -(nsm d (mev env m))) + pev env l)
        rw [he, add_assoc]
    · split
      · rfl
      · show (nsm c (mev env n) + -(nsm d (mev env n))) + pev env (pins m a b l) = _
        rw [ih, add_left_comm]; rfl
def padd_ : List (List Nat × Nat × Nat) → List (List Nat × Nat × Nat) → List (List Nat × Nat × Nat)
  | [], q => q
  | (m, a, b) :: p, q => pins m a b (padd_ p q)
theorem pev_add (env : Nat → R) (p q : List (List Nat × Nat × Nat)) : pev env (padd_ p q) = pev env p + pev env q := by
  induction p with
  | nil => exact (zero_add _).symm
  | cons x p ih =>
    obtain ⟨m, a, b⟩ := x
    show pev env (pins m a b (padd_ p q)) = _
    rw [pev_ins, ih, ← add_assoc]; rfl
def pneg_ (p : List (List Nat × Nat × Nat)) : List (List Nat × Nat × Nat) := p.map fun x => (x.1, x.2.2, x.2.1)
theorem pev_neg (env : Nat → R) (p : List (List Nat × Nat × Nat)) : pev env (pneg_ p) = -(pev env p) := by
  induction p with
  | nil => exact neg_zero.symm
  | cons x p ih =>
    obtain ⟨m, a, b⟩ := x
    show (nsm b (mev env m) + -(nsm a (mev env m))) + pev env (pneg_ p) = -((nsm a (mev env m) + -(nsm b (mev env m))) + pev env p)
    rw [ih, neg_add, neg_add, neg_neg, add_comm (nsm b (mev env m))]
def pmon_ (m : List Nat) (a b : Nat) : List (List Nat × Nat × Nat) → List (List Nat × Nat × Nat)
  | [] => []
  | (n, c, d) :: p => pins (mmul m n) (a * c + b * d) (a * d + b * c) (pmon_ m a b p)
theorem nsm_sign (a b c d : Nat) (x y : R) : (nsm a x + -(nsm b x)) * (nsm c y + -(nsm d y)) = nsm (a * c + b * d) (x * y) + -(nsm (a * d + b * c) (x * y)) := by
  have hm : ∀ e f : Nat, nsm e x * nsm f y = nsm (e * f) (x * y) := fun e f => by
    rw [nsm_mul, mul_comm x, nsm_mul, ← nsm_nsm, mul_comm y]
  rw [add_mul, mul_add, mul_add, neg_mul, neg_mul, mul_comm (nsm a x) (-(nsm d y)), mul_comm (nsm b x) (-(nsm d y)), neg_mul, neg_mul, mul_comm (nsm d y), mul_comm (nsm d y), hm, hm, hm, hm, neg_neg, nsm_add, nsm_add, neg_add]
  generalize nsm (a * c) (x * y) = A
  generalize -(nsm (a * d) (x * y)) = B
  generalize -(nsm (b * c) (x * y)) = C
  generalize nsm (b * d) (x * y) = D
  rw [add_assoc, add_assoc, add_comm C, ← add_assoc B, add_comm B, add_assoc D]
theorem pev_mon (env : Nat → R) (m : List Nat) (a b : Nat) (p : List (List Nat × Nat × Nat)) : pev env (pmon_ m a b p) = (nsm a (mev env m) + -(nsm b (mev env m))) * pev env p := by
  induction p with
  | nil => exact (mul_0 _).symm
  | cons x p ih =>
    obtain ⟨n, c, d⟩ := x
    show pev env (pins _ _ _ (pmon_ m a b p)) = _ * ((nsm c (mev env n) + -(nsm d (mev env n))) + pev env p)
    rw [pev_ins, ih, mev_mul, mul_add, nsm_sign]
def pmul_ : List (List Nat × Nat × Nat) → List (List Nat × Nat × Nat) → List (List Nat × Nat × Nat)
  | [], _ => []
  | (m, a, b) :: p, q => padd_ (pmon_ m a b q) (pmul_ p q)
theorem pev_mul (env : Nat → R) (p q : List (List Nat × Nat × Nat)) : pev env (pmul_ p q) = pev env p * pev env q := by
  induction p with
  | nil => exact (zero_mul _).symm
  | cons x p ih =>
    obtain ⟨m, a, b⟩ := x
    show pev env (padd_ (pmon_ m a b q) (pmul_ p q)) = _
    rw [pev_add, pev_mon, ih, ← add_mul]; rfl
def X.nf : X → List (List Nat × Nat × Nat)
  | .v i => [([i], 1, 0)]
  | .z => []
  | .o => [([], 1, 0)]
  | .add a b => padd_ a.nf b.nf
  | .mul a b => pmul_ a.nf b.nf
  | .neg a => pneg_ a.nf
theorem nsm_one (x : R) : nsm 1 x + -(nsm 0 x) = x := by
  show (0 + x) + -0 = x
  rw [neg_zero, add_0, zero_add]
theorem X.nf_ev (env : Nat → R) : ∀ e : X, pev env e.nf = e.ev env
  | .v i => by show (nsm 1 (env i * 1) + -(nsm 0 (env i * 1))) + 0 = env i; rw [add_0, nsm_one, mul_1]
  | .z => rfl
  | .o => by show (nsm 1 (1 : R) + -(nsm 0 1)) + 0 = 1; rw [add_0, nsm_one]
  | .add a b => by show pev env (padd_ a.nf b.nf) = _; rw [pev_add, nf_ev env a, nf_ev env b]; rfl
  | .mul a b => by show pev env (pmul_ a.nf b.nf) = _; rw [pev_mul, nf_ev env a, nf_ev env b]; rfl
  | .neg a => by show pev env (pneg_ a.nf) = _; rw [pev_neg, nf_ev env a]; rfl
def envL (l : List R) (i : Nat) : R := l.getD i 0
/-- THE SOLVER: two expressions with the same normal form. -/
theorem solve (l : List R) (a b : X) (h : a.nf = b.nf) : a.ev (envL l) = b.ev (envL l) := by rw [← X.nf_ev, ← X.nf_ev, h]
/-- The same behind a hypothesis: a + (h.1 - h.2) * c = b. -/
theorem solve1 {l : List R} {x y : R} (h : x = y) (a b : X) (c d e : X) (hx : c.ev (envL l) = x) (hy : d.ev (envL l) = y) (hn : (X.add a (X.mul (X.add c (X.neg d)) e)).nf = b.nf) : a.ev (envL l) = b.ev (envL l) := by
  have h2 := solve l _ _ hn
  rw [← h2]
  show _ = a.ev (envL l) + (c.ev (envL l) + -(d.ev (envL l))) * e.ev (envL l)
  rw [hx, hy, h, add_neg', zero_mul, add_0]
end CR
end Go.Proofs.Ytmknclgamadphaa.MPolymodPrimes
