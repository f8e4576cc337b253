/- A machine over a part of the Go model's operations, in continuation style, made for the kernel to run: values, memory, operations. It states nothing. -/
import Derived.Calls
import Derived.Orders
namespace Go.AM
set_option linter.unusedVariables false
noncomputable section
inductive Pos | h | o (p : Pos) | i (p : Pos)
inductive Tr (α : Type) | n | d (x : Option α) (l r : Tr α)
inductive V
  | u | b (x : Bool) | i (k : IntKind) (n : Nat) | s (l : List Nat) | p (id : Pos) (off : Nat) | pn
  | sl (id : Pos) (off len cap : Nat) | so (id : Pos) (off len cap sz : Nat) | sn | ag (l : List V) | tu (l : List V) | f (id : Nat) (cs : List V) | fn0 | other
structure Blk where
  born : Nat
  cs : List V
abbrev HT := Tr Blk
structure St where
  h : HT
  nx : Pos
  cnt : Nat
  fl : Nat
abbrev R := Option (V × St)
def getBK (p : Pos) : HT → (Blk → R) → R :=
  Pos.rec (Tr.rec (fun k => none) (fun x _ _ _ _ k => Option.rec (fun _ => none) (fun x k => k x) x k)) (fun _ ih t k => Tr.rec (fun _ k => none) (fun _ l _ _ _ ih k => ih l k) t ih k) (fun _ ih t k => Tr.rec (fun _ k => none) (fun _ _ r _ _ ih k => ih r k) t ih k) p
def setBK (p : Pos) (v : Blk) : HT → (HT → R) → R :=
  Pos.rec (fun v t k => Tr.rec (fun v k => k (.d (some v) .n .n)) (fun _ l r _ _ v k => k (.d (some v) l r)) t v k)
    (fun _ ih v t k => Tr.rec (fun ih v k => ih v .n (fun l' => k (.d none l' .n))) (fun x l r _ _ ih v k => ih v l (fun l' => k (.d x l' r))) t ih v k)
    (fun _ ih v t k => Tr.rec (fun ih v k => ih v .n (fun r' => k (.d none .n r'))) (fun x l r _ _ ih v k => ih v r (fun r' => k (.d x l r'))) t ih v k) p v
def succK (p : Pos) : (Pos → R) → R :=
  Pos.rec (fun k => k (.o .h)) (fun p _ k => k (.i p)) (fun _ ih k => ih (fun q => k (.o q))) p
def fN (n : Nat) (k : Nat → R) : R := Nat.rec (fun k => k 0) (fun m _ k => k (Nat.succ m)) n k
def iF (b : Bool) (x y : R) : R := Bool.rec (fun _ y => y) (fun x _ => x) b x y
def gu (b : Bool) (x : R) : R := Bool.rec (fun _ => none) (fun x => x) b x
def nthK {α : Type} (l : List α) : Nat → (α → R) → R :=
  List.rec (fun _ _ => none) (fun x _ ih n k => Nat.rec (fun x _ k => k x) (fun m _ _ ih k => ih m k) n x ih k) l
def takeK {α : Type} (l : List α) : Nat → (List α → R) → R :=
  List.rec (fun n k => gu (Nat.beq n 0) (k [])) (fun x _ ih n k => Nat.rec (fun _ _ k => k []) (fun m _ x ih k => ih m (fun t => k (x :: t))) n x ih k) l
def dropK {α : Type} (l : List α) : Nat → (List α → R) → R :=
  List.rec (fun n k => gu (Nat.beq n 0) (k [])) (fun x t ih n k => Nat.rec (fun x t _ k => k (x :: t)) (fun m _ _ _ ih k => ih m k) n x t ih k) l
def appK {α : Type} (l r : List α) : (List α → R) → R :=
  List.rec (fun r k => k r) (fun x _ ih r k => ih r (fun t => k (x :: t))) l r
def overK (v : List V) : List V → (List V → R) → R :=
  List.rec (fun l k => k l) (fun x _ ih l k => List.rec (fun _ _ _ => none) (fun _ t _ x ih k => ih t (fun t' => k (x :: t'))) l x ih k) v
def putK (l : List V) : Nat → List V → (List V → R) → R :=
  List.rec (fun n v k => gu (Nat.beq n 0) (overK v [] k)) (fun x t ih n v k => Nat.rec (fun x t _ v k => overK v (x :: t) k) (fun m _ x _ ih v k => ih m v (fun t' => k (x :: t'))) n x t ih v k) l
def repK (z : List V) (n : Nat) : (List V → R) → R :=
  Nat.rec (fun _ k => k []) (fun _ ih z k => ih z (fun t => appK z t k)) n z
def eqB (l : List Nat) : List Nat → Bool := List.rec (List.rec true (fun _ _ _ => false)) (fun x _ ih m => List.rec (fun _ _ => false) (fun y t _ x ih => Bool.rec (fun _ _ => false) (fun ih t => ih t) (Nat.beq x y) ih t) m x ih) l
def ltB (l : List Nat) : List Nat → Bool := List.rec (List.rec false (fun _ _ _ => true)) (fun x _ ih m => List.rec (fun _ _ => false) (fun y t _ x ih => Bool.rec (fun _ _ => Nat.blt x y) (fun ih t => ih t) (Nat.beq x y) ih t) m x ih) l
def lenL {α : Type} (l : List α) : Nat → (Nat → R) → R := List.rec (fun n k => k n) (fun _ _ ih n k => ih (Nat.succ n) k) l
def M (k : IntKind) : Nat := IntKind.rec 256 65536 4294967296 18446744073709551616 256 65536 4294967296 18446744073709551616 k
def H (k : IntKind) : Nat := IntKind.rec 128 32768 2147483648 9223372036854775808 0 0 0 0 k
def bits (k : IntKind) : Nat := IntKind.rec 8 16 32 64 8 16 32 64 k
def sgn (k : IntKind) : Bool := IntKind.rec true true true true false false false false k
def sh (k : IntKind) (a : Nat) : Nat := Nat.mod (Nat.add a (H k)) (M k)
def retI (c : V → R) (k : IntKind) (n : Nat) : R := Nat.rec (fun k c => c (.i k 0)) (fun m _ k c => c (.i k (Nat.succ m))) n k c
def retB (c : V → R) (b : Bool) : R := Bool.rec (fun c => c (.b false)) (fun c => c (.b true)) b c
def neg (k : IntKind) (a : Nat) : Bool := Bool.rec false (Nat.ble (H k) a) (sgn k)
def quoI (k : IntKind) (a b : Nat) : Nat :=
  Bool.rec (Bool.rec (Nat.div a b) (Nat.mod (Nat.sub (M k) (Nat.div a (Nat.sub (M k) b))) (M k)) (neg k b))
    (Bool.rec (Nat.mod (Nat.sub (M k) (Nat.div (Nat.sub (M k) a) b)) (M k)) (Nat.mod (Nat.div (Nat.sub (M k) a) (Nat.sub (M k) b)) (M k)) (neg k b)) (neg k a)
def remI (k : IntKind) (a b : Nat) : Nat :=
  Bool.rec (Bool.rec (Nat.mod a b) (Nat.mod a (Nat.sub (M k) b)) (neg k b))
    (Bool.rec (Nat.mod (Nat.sub (M k) (Nat.mod (Nat.sub (M k) a) b)) (M k)) (Nat.mod (Nat.sub (M k) (Nat.mod (Nat.sub (M k) a) (Nat.sub (M k) b))) (M k)) (neg k b)) (neg k a)
def shrI (k : IntKind) (a n : Nat) : Nat :=
  Bool.rec (Nat.div a (Nat.pow 2 n)) (Nat.sub (M k) (Nat.succ (Nat.div (Nat.sub (Nat.sub (M k) 1) a) (Nat.pow 2 n)))) (neg k a)
def minN (a b : Nat) : Nat := Bool.rec b a (Nat.ble a b)
def vB (x : V) (k : Bool → R) : R := @V.rec (fun _ => (Bool → R) → R) (fun _ => Unit) (fun  k => none) (fun a0 k => k a0) (fun a0 a1 k => none) (fun a0 k => none) (fun a0 a1 k => none) (fun  k => none) (fun a0 a1 a2 a3 k => none) (fun a0 a1 a2 a3 a4 k => none) (fun  k => none) (fun a0 _ k => none) (fun a0 _ k => none) (fun a0 a1 _ k => none) (fun  k => none) (fun  k => none) () (fun _ _ _ _ => ()) x k
def vI (x : V) (k : IntKind → Nat → R) : R := @V.rec (fun _ => (IntKind → Nat → R) → R) (fun _ => Unit) (fun  k => none) (fun a0 k => none) (fun a0 a1 k => k a0 a1) (fun a0 k => none) (fun a0 a1 k => none) (fun  k => none) (fun a0 a1 a2 a3 k => none) (fun a0 a1 a2 a3 a4 k => none) (fun  k => none) (fun a0 _ k => none) (fun a0 _ k => none) (fun a0 a1 _ k => none) (fun  k => none) (fun  k => none) () (fun _ _ _ _ => ()) x k
def vW (x : V) (k : Nat → R) : R := vI x (fun kd n => gu (Nat.beq (IntKind.rec 0 1 2 3 4 5 6 7 kd) 7) (k n))
def vS (x : V) (k : List Nat → R) : R := @V.rec (fun _ => (List Nat → R) → R) (fun _ => Unit) (fun  k => none) (fun a0 k => none) (fun a0 a1 k => none) (fun a0 k => k a0) (fun a0 a1 k => none) (fun  k => none) (fun a0 a1 a2 a3 k => none) (fun a0 a1 a2 a3 a4 k => none) (fun  k => none) (fun a0 _ k => none) (fun a0 _ k => none) (fun a0 a1 _ k => none) (fun  k => none) (fun  k => none) () (fun _ _ _ _ => ()) x k
def vP (x : V) (k : Pos → Nat → R) : R := @V.rec (fun _ => (Pos → Nat → R) → R) (fun _ => Unit) (fun  k => none) (fun a0 k => none) (fun a0 a1 k => none) (fun a0 k => none) (fun a0 a1 k => k a0 a1) (fun  k => none) (fun a0 a1 a2 a3 k => none) (fun a0 a1 a2 a3 a4 k => none) (fun  k => none) (fun a0 _ k => none) (fun a0 _ k => none) (fun a0 a1 _ k => none) (fun  k => none) (fun  k => none) () (fun _ _ _ _ => ()) x k
def vPn (x : V) (k : Pos → Nat → R) (z : R) : R := @V.rec (fun _ => (Pos → Nat → R) → (R) → R) (fun _ => Unit) (fun  k z => none) (fun a0 k z => none) (fun a0 a1 k z => none) (fun a0 k z => none) (fun a0 a1 k z => k a0 a1) (fun  k z => z) (fun a0 a1 a2 a3 k z => none) (fun a0 a1 a2 a3 a4 k z => none) (fun  k z => none) (fun a0 _ k z => none) (fun a0 _ k z => none) (fun a0 a1 _ k z => none) (fun  k z => none) (fun  k z => none) () (fun _ _ _ _ => ()) x k z
def vPc (x : V) (k : R) : R := @V.rec (fun _ => (R) → R) (fun _ => Unit) (fun  k => none) (fun a0 k => none) (fun a0 a1 k => none) (fun a0 k => none) (fun a0 a1 k => k) (fun  k => none) (fun a0 a1 a2 a3 k => none) (fun a0 a1 a2 a3 a4 k => none) (fun  k => none) (fun a0 _ k => none) (fun a0 _ k => none) (fun a0 a1 _ k => k) (fun  k => none) (fun  k => none) () (fun _ _ _ _ => ()) x k
def vLm (x : V) (k : Nat → R) : R := @V.rec (fun _ => (Nat → R) → R) (fun _ => Unit) (fun  k => none) (fun a0 k => none) (fun a0 a1 k => none) (fun a0 k => none) (fun a0 a1 k => none) (fun  k => none) (fun a0 a1 a2 a3 k => k a2) (fun a0 a1 a2 a3 a4 k => k a2) (fun  k => k 0) (fun a0 _ k => none) (fun a0 _ k => none) (fun a0 a1 _ k => none) (fun  k => none) (fun  k => none) () (fun _ _ _ _ => ()) x k
def vLs (x : V) (k : Pos → Nat → Nat → R) : R := @V.rec (fun _ => (Pos → Nat → Nat → R) → R) (fun _ => Unit) (fun  k => none) (fun a0 k => none) (fun a0 a1 k => none) (fun a0 k => none) (fun a0 a1 k => none) (fun  k => none) (fun a0 a1 a2 a3 k => k a0 a1 a2) (fun a0 a1 a2 a3 a4 k => k a0 a1 a2) (fun  k => none) (fun a0 _ k => none) (fun a0 _ k => none) (fun a0 a1 _ k => none) (fun  k => none) (fun  k => none) () (fun _ _ _ _ => ()) x k
def vLz (x : V) (z : R) (k : Pos → Nat → Nat → R) : R := @V.rec (fun _ => (R) → (Pos → Nat → Nat → R) → R) (fun _ => Unit) (fun  z k => none) (fun a0 z k => none) (fun a0 a1 z k => none) (fun a0 z k => none) (fun a0 a1 z k => none) (fun  z k => none) (fun a0 a1 a2 a3 z k => k a0 a1 a2) (fun a0 a1 a2 a3 a4 z k => k a0 a1 a2) (fun  z k => z) (fun a0 _ z k => none) (fun a0 _ z k => none) (fun a0 a1 _ z k => none) (fun  z k => none) (fun  z k => none) () (fun _ _ _ _ => ()) x z k
def vLn (x : V) (y : R) (z : R) : R := @V.rec (fun _ => (R) → (R) → R) (fun _ => Unit) (fun  y z => none) (fun a0 y z => none) (fun a0 a1 y z => none) (fun a0 y z => none) (fun a0 a1 y z => none) (fun  y z => none) (fun a0 a1 a2 a3 y z => y) (fun a0 a1 a2 a3 a4 y z => y) (fun  y z => z) (fun a0 _ y z => none) (fun a0 _ y z => none) (fun a0 a1 _ y z => none) (fun  y z => none) (fun  y z => none) () (fun _ _ _ _ => ()) x y z
def vS4 (x : V) (z : R) (k : Pos → Nat → Nat → Nat → R) (o : Pos → Nat → Nat → Nat → Nat → R) : R := @V.rec (fun _ => (R) → (Pos → Nat → Nat → Nat → R) → (Pos → Nat → Nat → Nat → Nat → R) → R) (fun _ => Unit) (fun  z k o => none) (fun a0 z k o => none) (fun a0 a1 z k o => none) (fun a0 z k o => none) (fun a0 a1 z k o => none) (fun  z k o => none) (fun a0 a1 a2 a3 z k o => k a0 a1 a2 a3) (fun a0 a1 a2 a3 a4 z k o => o a0 a1 a2 a3 a4) (fun  z k o => z) (fun a0 _ z k o => none) (fun a0 _ z k o => none) (fun a0 a1 _ z k o => none) (fun  z k o => none) (fun  z k o => none) () (fun _ _ _ _ => ()) x z k o
def vFn (x : V) (y : R) (z : R) : R := @V.rec (fun _ => (R) → (R) → R) (fun _ => Unit) (fun  y z => none) (fun a0 y z => none) (fun a0 a1 y z => none) (fun a0 y z => none) (fun a0 a1 y z => none) (fun  y z => none) (fun a0 a1 a2 a3 y z => none) (fun a0 a1 a2 a3 a4 y z => none) (fun  y z => none) (fun a0 _ y z => none) (fun a0 _ y z => none) (fun a0 a1 _ y z => y) (fun  y z => z) (fun  y z => none) () (fun _ _ _ _ => ()) x y z
def vA (x : V) (k : List V → R) : R := @V.rec (fun _ => (List V → R) → R) (fun _ => Unit) (fun  k => none) (fun a0 k => none) (fun a0 a1 k => none) (fun a0 k => none) (fun a0 a1 k => none) (fun  k => none) (fun a0 a1 a2 a3 k => none) (fun a0 a1 a2 a3 a4 k => none) (fun  k => none) (fun a0 _ k => k a0) (fun a0 _ k => none) (fun a0 a1 _ k => none) (fun  k => none) (fun  k => none) () (fun _ _ _ _ => ()) x k
def vT (x : V) (k : List V → R) : R := @V.rec (fun _ => (List V → R) → R) (fun _ => Unit) (fun  k => none) (fun a0 k => none) (fun a0 a1 k => none) (fun a0 k => none) (fun a0 a1 k => none) (fun  k => none) (fun a0 a1 a2 a3 k => none) (fun a0 a1 a2 a3 a4 k => none) (fun  k => none) (fun a0 _ k => none) (fun a0 _ k => k a0) (fun a0 a1 _ k => none) (fun  k => none) (fun  k => none) () (fun _ _ _ _ => ()) x k
def vF (x : V) (k : Nat → List V → R) : R := @V.rec (fun _ => (Nat → List V → R) → R) (fun _ => Unit) (fun  k => none) (fun a0 k => none) (fun a0 a1 k => none) (fun a0 k => none) (fun a0 a1 k => none) (fun  k => none) (fun a0 a1 a2 a3 k => none) (fun a0 a1 a2 a3 a4 k => none) (fun  k => none) (fun a0 _ k => none) (fun a0 _ k => none) (fun a0 a1 _ k => k a0 a1) (fun  k => none) (fun  k => none) () (fun _ _ _ _ => ()) x k
def wantV (x : V) (w : Bool) (y : R) (n : R) : R := @V.rec (fun _ => (Bool) → (R) → (R) → R) (fun _ => Unit) (fun  w y n => n) (fun a0 w y n => Bool.rec (fun w y n => Bool.rec (fun y _ => y) (fun _ n => n) w y n) (fun w y n => Bool.rec (fun _ n => n) (fun y _ => y) w y n) a0 w y n) (fun a0 a1 w y n => none) (fun a0 w y n => none) (fun a0 a1 w y n => none) (fun  w y n => none) (fun a0 a1 a2 a3 w y n => none) (fun a0 a1 a2 a3 a4 w y n => none) (fun  w y n => none) (fun a0 _ w y n => none) (fun a0 _ w y n => none) (fun a0 a1 _ w y n => none) (fun  w y n => none) (fun  w y n => none) () (fun _ _ _ _ => ()) x w y n
def cellsK (x : V) (k : List V → R) : R := @V.rec (fun _ => (List V → R) → R) (fun _ => Unit) (fun  k => none) (fun a0 k => k [V.b a0]) (fun a0 a1 k => k [V.i a0 a1]) (fun a0 k => k [V.s a0]) (fun a0 a1 k => k [V.p a0 a1]) (fun  k => k [.pn]) (fun a0 a1 a2 a3 k => k [V.sl a0 a1 a2 a3]) (fun a0 a1 a2 a3 a4 k => k [V.so a0 a1 a2 a3 a4]) (fun  k => k [.sn]) (fun a0 _ k => k a0) (fun a0 _ k => none) (fun a0 a1 _ k => k [V.f a0 a1]) (fun  k => k [.fn0]) (fun  k => none) () (fun _ _ _ _ => ()) x k

abbrev BI := IntKind → Nat → Nat → (V → R) → R
def iAdd : BI := fun k a b c => retI c k (Nat.mod (Nat.add a b) (M k))
def iSub : BI := fun k a b c => retI c k (Nat.mod (Nat.add a (Nat.sub (M k) b)) (M k))
def iMul : BI := fun k a b c => retI c k (Nat.mod (Nat.mul a b) (M k))
def iQuo : BI := fun k a b c => gu (Nat.blt 0 b) (retI c k (quoI k a b))
def iRem : BI := fun k a b c => gu (Nat.blt 0 b) (retI c k (remI k a b))
def iAnd : BI := fun k a b c => retI c k (Nat.land a b)
def iOr : BI := fun k a b c => retI c k (Nat.lor a b)
def iXor : BI := fun k a b c => retI c k (Nat.xor a b)
def iEql : BI := fun k a b c => retB c (Nat.beq a b)
def iNeq : BI := fun k a b c => retB c (Bool.not (Nat.beq a b))
def iLss : BI := fun k a b c => retB c (Nat.blt (sh k a) (sh k b))
def iLeq : BI := fun k a b c => retB c (Nat.ble (sh k a) (sh k b))
def iGtr : BI := fun k a b c => retB c (Nat.blt (sh k b) (sh k a))
def iGeq : BI := fun k a b c => retB c (Nat.ble (sh k b) (sh k a))
/-- two integers of one kind -/
def kNo (k : IntKind) : Nat := IntKind.rec 0 1 2 3 4 5 6 7 k
def two (x y : V) (f : BI) (c : V → R) : R := vI x (fun k a => vI y (fun k' b => gu (Nat.beq (kNo k) (kNo k')) (f k a b c)))
def pAdd (x y : V) (c : V → R) : R := two x y iAdd c
def pSub (x y : V) (c : V → R) : R := two x y iSub c
def pMul (x y : V) (c : V → R) : R := two x y iMul c
def pQuo (x y : V) (c : V → R) : R := two x y iQuo c
def pRem (x y : V) (c : V → R) : R := two x y iRem c
def pAnd (x y : V) (c : V → R) : R := two x y iAnd c
def pOr (x y : V) (c : V → R) : R := two x y iOr c
def pXor (x y : V) (c : V → R) : R := two x y iXor c
def pShl (x y : V) (c : V → R) : R := vI x (fun k a => vI y (fun k' b => gu (Bool.not (neg k' b)) (retI c k (Nat.mod (Nat.mul a (Nat.pow 2 (minN b (bits k)))) (M k)))))
def pShr (x y : V) (c : V → R) : R := vI x (fun k a => vI y (fun k' b => gu (Bool.not (neg k' b)) (retI c k (shrI k a (minN b (bits k))))))
def pEql (x y : V) (c : V → R) : R := two x y iEql c
def pNeq (x y : V) (c : V → R) : R := two x y iNeq c
def pLss (x y : V) (c : V → R) : R := two x y iLss c
def pLeq (x y : V) (c : V → R) : R := two x y iLeq c
def pGtr (x y : V) (c : V → R) : R := two x y iGtr c
def pGeq (x y : V) (c : V → R) : R := two x y iGeq c
/-- equality of two values that are no integers: w is what an equality hands back -/
def yes (w : Bool) (c : V → R) : R := retB c w
def pEqB (w : Bool) (x y : V) (c : V → R) : R := vB x (fun a => vB y (fun b => retB c (Bool.rec (Bool.rec w (Bool.not w) b) (Bool.rec (Bool.not w) w b) a)))
def pEqS (w : Bool) (x y : V) (c : V → R) : R := vS x (fun a => vS y (fun b => retB c (Bool.rec (Bool.not w) w (eqB a b))))
def pCat (x y : V) (c : V → R) : R := vS x (fun a => vS y (fun b => lenL a 0 (fun n => lenL b 0 (fun m => gu (Nat.ble (Nat.add n m) 1073741824) (appK a b (fun l => c (.s l)))))))
def pLtS (x y : V) (c : V → R) : R := vS x (fun a => vS y (fun b => retB c (ltB a b)))
def pNilP (w : Bool) (x : V) (c : V → R) : R := vPn x (fun _ _ => yes (Bool.not w) c) (yes w c)
def pNilL (w : Bool) (x : V) (c : V → R) : R := vLn x (yes (Bool.not w) c) (yes w c)
def pNilF (w : Bool) (x : V) (c : V → R) : R := vFn x (yes (Bool.not w) c) (yes w c)
/-- equality of two structs, by the cells that are compared: where, and of which kind (0 a bool, 1 an integer, 2 a string) -/
def eqC (q : Nat) (x y : V) (k : Bool → R) : R := Nat.rec (fun x y k => vB x (fun a => vB y (fun b => k (Bool.rec (Bool.not b) b a)))) (fun q _ x y k => Nat.rec (fun x y k => vI x (fun d a => vI y (fun d' b => gu (Nat.beq (kNo d) (kNo d')) (k (Nat.beq a b))))) (fun _ _ x y k => vS x (fun a => vS y (fun b => k (eqB a b)))) q x y k) q x y k
def eqIx (l m : List V) (idx : List (Nat × Nat)) (k : Bool → R) : R := List.rec (fun l m k => k true) (fun i _ ih l m k => Prod.rec (fun i q ih l m k => nthK l i (fun a => nthK m i (fun b => eqC q a b (fun e => Bool.rec (fun _ _ _ k => k false) (fun ih l m k => ih l m k) e ih l m k)))) i ih l m k) idx l m k
def pEqA (w : Bool) (n : Nat) (idx : List (Nat × Nat)) (x y : V) (c : V → R) : R := vA x (fun l => vA y (fun m => lenL l 0 (fun a => lenL m 0 (fun b => gu (Bool.and (Nat.beq a n) (Nat.beq b n)) (eqIx l m idx (fun b => retB c (Bool.rec (Bool.not w) w b)))))))
def pPick (q a b : V) (k : V → R) : R := vB q (fun q => Bool.rec (fun _ b k => k b) (fun a _ k => k a) q a b k)
def pNot (v : V) (k : V → R) : R := vB v (fun b => retB k (Bool.not b))
def pNeg (v : V) (c : V → R) : R := vI v (fun k n => retI c k (Nat.mod (Nat.sub (M k) n) (M k)))
def pLenS (v : V) (c : V → R) : R := vS v (fun l => lenL l 0 (fun n => gu (Nat.ble n 1073741824) (c (.i .i64 n))))
def pLen (v : V) (c : V → R) : R := vLm v (fun n => gu (Nat.ble n 1073741824) (retI c .i64 n))
def pIdx (sz : Nat) (v i : V) (c : V → R) : R := vI i (fun k i => gu (Bool.not (neg k i)) (vLs v (fun id off len => gu (Nat.blt i len) (fN (Nat.add off (Nat.mul i sz)) (fun o => c (.p id o))))))
def pIdxa (len sz : Nat) (v i : V) (c : V → R) : R := vI i (fun k i => gu (Bool.not (neg k i)) (vP v (fun id off => gu (Nat.blt i len) (fN (Nat.add off (Nat.mul i sz)) (fun o => c (.p id o))))))
def pFa (off : Nat) (v : V) (c : V → R) : R := vP v (fun id o => fN (Nat.add o off) (fun o => c (.p id o)))
def pFld (off : Nat) (v : V) (c : V → R) : R := vA v (fun l => nthK l off c)
def pFldn (off n : Nat) (v : V) (c : V → R) : R := vA v (fun l => dropK l off (fun l => takeK l n (fun l => c (.ag l))))
def pSidx (v i : V) (c : V → R) : R := vI i (fun k i => gu (Bool.not (neg k i)) (vS v (fun l => nthK l i (fun n => c (.i .u8 n)))))
def pAidx (len : Nat) (v i : V) (c : V → R) : R := vI i (fun k i => gu (Bool.not (neg k i)) (vA v (fun l => gu (Nat.blt i len) (nthK l i c))))
def pAidxn (len sz : Nat) (v i : V) (c : V → R) : R := vI i (fun k i => gu (Bool.not (neg k i)) (vA v (fun l => gu (Nat.blt i len) (dropK l (Nat.mul i sz) (fun l => takeK l sz (fun l => c (.ag l)))))))
def cellsAt (id : Pos) (S : St) (k : List V → R) : R := St.rec (fun h _ _ _ id k => getBK id h (fun b => Blk.rec (fun _ cs k => k cs) b k)) S id k
def pLd (v : V) (S : St) (c : V → R) : R := vP v (fun id o => cellsAt id S (fun cs => nthK cs o c))
def pLdn (n : Nat) (v : V) (S : St) (c : V → R) : R := vP v (fun id o => cellsAt id S (fun cs => dropK cs o (fun l => takeK l n (fun l => c (.ag l)))))
def newK (cs : List V) (S : St) (k : Pos → St → R) : R := St.rec (fun h nx cnt fl cs k => setBK nx (.mk cnt cs) h (fun h' => succK nx (fun nx' => k nx (.mk h' nx' (Nat.succ cnt) fl)))) S cs k
def updK (id : Pos) (S : St) (off : Nat) (vs : List V) (k : St → R) : R := St.rec (fun h nx cnt fl id off vs k => getBK id h (fun b => Blk.rec (fun born cs => gu (Nat.ble fl born) (putK cs off vs (fun cs' => setBK id (.mk born cs') h (fun h' => k (.mk h' nx cnt fl))))) b)) S id off vs k
/-- no longer to be used -/
def killK (id : Pos) (S : St) (k : St → R) : R := St.rec (fun h nx cnt fl id k => getBK id h (fun b => Blk.rec (fun born cs => gu (Nat.ble fl born) (setBK id (.mk 0 []) h (fun h' => k (.mk h' nx cnt fl)))) b)) S id k
abbrev Cont := V → St → R
abbrev Sem3 := St → Cont → R
def pSt (n : Nat) (v y : V) (S : St) (c : St → R) : R := vP v (fun id o => cellsK y (fun ys => lenL ys 0 (fun m => gu (Nat.beq m n) (updK id S o ys c))))
def pExt (v : V) (i : Nat) (c : V → R) : R := vT v (fun l => nthK l i c)
def pBox (v : V) (S : St) (c : Cont) : R := cellsK v (fun cs => newK cs S (fun nx S' => c (.p nx 0) S'))
def pAlloc (z : List V) (S : St) (c : Cont) : R := newK z S (fun nx S' => c (.p nx 0) S')
def pMks (z : List V) (l q : V) (S : St) (c : Cont) : R := vI l (fun k1 l => vI q (fun k2 q => gu (Bool.and (Bool.and (Bool.not (neg k1 l)) (Bool.not (neg k2 q))) (Bool.and (Nat.ble l q) (Nat.ble q 16777216))) (repK z q (fun cs => newK cs S (fun nx S' => c (.sl nx 0 l q) S')))))
/-- parts (offset, size, value) put into a row -/
def putParts (ps : List (Nat × Nat × V)) : List V → (List V → R) → R := List.rec (fun cs k => k cs) (fun x _ ih cs k => Prod.rec (fun off y ih cs k => Prod.rec (fun sz v ih cs k => cellsK v (fun vs => lenL vs 0 (fun m => gu (Nat.beq m sz) (putK cs off vs (fun cs' => ih cs' k))))) y ih cs k) x ih cs k) ps
def pBsl (cells : List V) (len : Nat) (ps : List (Nat × Nat × V)) (S : St) (c : Cont) : R := putParts ps cells (fun cs => newK cs S (fun nx S' => c (.sl nx 0 len len) S'))
def pBuild (z : List V) (ps : List (Nat × Nat × V)) (c : V → R) : R := putParts ps z (fun cs => c (.ag cs))
/-- the first n elements behind a slice -/
def elems (sz : Nat) (id : Pos) (off n : Nat) (S : St) (k : List V → R) : R := cellsAt id S (fun cs => dropK cs off (fun l => takeK l (Nat.mul n sz) k))
def app1 (sz n2 : Nat) (new : List V) (x : V) (S : St) (c : Cont) : R :=
  vS4 x (newK new S (fun nx S' => c (.so nx 0 n2 n2 sz) S'))
    (fun id off len cap => Bool.rec
      (fun _ => elems sz id off len S (fun old => appK old new (fun cs => newK cs S (fun nx S' => fN (Nat.add len n2) (fun l => gu (Nat.ble l 1073741824) (c (.so nx 0 l l sz) S'))))))
      (fun _ => updK id S (Nat.add off (Nat.mul len sz)) new (fun S' => fN (Nat.add len n2) (fun l => c (.sl id off l cap) S'))) (Nat.ble (Nat.add len n2) cap) ())
    (fun id off len cap sz' => gu (Nat.beq sz' sz) (Bool.rec
      (fun _ => elems sz id off len S (fun old => appK old new (fun cs => killK id S (fun S => newK cs S (fun nx S' => fN (Nat.add len n2) (fun l => gu (Nat.ble l 1073741824) (c (.so nx 0 l l sz) S')))))))
      (fun _ => updK id S (Nat.add off (Nat.mul len sz)) new (fun S' => fN (Nat.add len n2) (fun l => c (.so id off l cap sz) S'))) (Nat.ble (Nat.add len n2) cap) ()))
def pApp (sz : Nat) (x y : V) (S : St) (c : Cont) : R := vLz y (vS4 x (c x S) (fun _ _ _ _ => c x S) (fun _ _ _ _ _ => c x S))
  (fun id2 o2 n2 => gu (Nat.ble n2 1073741824) (Nat.rec (fun _ => vS4 x (c x S) (fun _ _ _ _ => c x S) (fun _ _ _ _ _ => c x S)) (fun _ _ _ => elems sz id2 o2 n2 S (fun new => app1 sz n2 new x S c)) n2 ()))
def oN (x : Option V) (d : Nat) (k : Nat → R) : R := Option.rec (fun d k => k d) (fun v _ k => vI v (fun kd n => gu (Bool.not (neg kd n)) (k n))) x d k
def cut (sz off l m : Nat) : Nat := Bool.rec (Nat.add off (Nat.mul l sz)) off (Nat.beq m l)
def pSlc (sz : Nat) (x : V) (lo hi mx : Option V) (c : V → R) : R := vS4 x
  (oN mx 0 (fun m => gu (Nat.beq m 0) (oN hi 0 (fun h => gu (Nat.beq h 0) (oN lo 0 (fun l => gu (Nat.beq l 0) (c .sn)))))))
  (fun id off len cap => oN mx cap (fun m => gu (Nat.ble m cap) (oN hi len (fun h => gu (Nat.ble h m) (oN lo 0 (fun l => gu (Nat.ble l h) (fN (cut sz off l m) (fun o => fN (Nat.sub h l) (fun n => fN (Nat.sub m l) (fun q => c (.sl id o n q)))))))))))
  (fun id off len cap sz' => gu (Nat.beq sz' sz) (Option.rec
     (fun _ => oN hi len (fun h => gu (Nat.ble h cap) (oN lo 0 (fun l => gu (Nat.ble l h) (fN (Nat.add off (Nat.mul l sz)) (fun o => fN (Nat.sub h l) (fun n => fN (Nat.sub cap l) (fun q => c (.so id o n q sz)))))))))
     (fun m _ => oN (some m) cap (fun m => gu (Nat.ble m cap) (oN hi len (fun h => gu (Nat.ble h m) (oN lo 0 (fun l => gu (Nat.ble l h) (fN (cut sz off l m) (fun o => fN (Nat.sub h l) (fun n => fN (Nat.sub m l) (fun q => c (.sl id o n q))))))))))) mx ()))
def pSslc (x : V) (lo hi : Option V) (c : V → R) : R := vS x (fun s => lenL s 0 (fun n => oN hi n (fun h => gu (Nat.ble h n) (oN lo 0 (fun l => gu (Nat.ble l h) (dropK s l (fun s => takeK s (Nat.sub h l) (fun s => c (.s s)))))))))
def cvI (k0 k : IntKind) (n : Nat) : Nat := Bool.rec (Nat.mod n (M k)) (Nat.mod (Nat.sub (Nat.add n (Nat.mul (M k) 18446744073709551616)) (M k0)) (M k)) (neg k0 n)
def pConv (k : IntKind) (v : V) (c : V → R) : R := vI v (fun k0 n => retI c k (cvI k0 k n))
def bytesK (l : List V) : (List Nat → R) → R := List.rec (fun k => k []) (fun x _ ih k => vI x (fun kd n => gu (Nat.beq (kNo kd) 4) (ih (fun t => k (n :: t))))) l
def u8sK (l : List Nat) : (List V → R) → R := List.rec (fun k => k []) (fun n _ ih k => ih (fun t => k (.i .u8 n :: t))) l
def pB2s (v : V) (S : St) (c : V → R) : R := vLz v (c (.s [])) (fun id o n => elems 1 id o n S (fun l => bytesK l (fun s => c (.s s))))
def pS2b (v : V) (S : St) (c : Cont) : R := vS v (fun s => u8sK s (fun l => lenL l 0 (fun n => gu (Nat.ble n 1073741824) (newK l S (fun nx S' => c (.so nx 0 n n 1) S')))))
def pickI (k : IntKind) (less : Bool) (a b : Nat) : Nat := Bool.rec a b (Bool.rec (Nat.blt (sh k a) (sh k b)) (Nat.blt (sh k b) (sh k a)) less)
def mxK (less : Bool) (l : List V) : V → (V → R) → R := List.rec (fun m k => k m) (fun v _ ih m k => two m v (fun kd a b c => retI c kd (pickI kd less a b)) (fun m => ih m k)) l
def pMx (l : List V) (c : V → R) : R := List.rec none (fun m r _ => vI m (fun _ _ => mxK false r m c)) l
def pMn (l : List V) (c : V → R) : R := List.rec none (fun m r _ => vI m (fun _ _ => mxK true r m c)) l
def pAdd64 (x y z : V) (c : V → R) : R := vW x (fun x => vW y (fun y => vW z (fun z => gu (Nat.ble z 1) (fN (Nat.mod (Nat.add (Nat.add x y) z) 18446744073709551616) (fun l => fN (Nat.div (Nat.add (Nat.add x y) z) 18446744073709551616) (fun h => c (.tu [.i .u64 l, .i .u64 h])))))))
def pSub64 (x y z : V) (c : V → R) : R := vW x (fun x => vW y (fun y => vW z (fun z => gu (Nat.ble z 1) (fN (Nat.mod (Nat.sub (Nat.add x 18446744073709551616) (Nat.add y z)) 18446744073709551616) (fun l => Bool.rec (c (.tu [.i .u64 l, .i .u64 0])) (c (.tu [.i .u64 l, .i .u64 1])) (Nat.blt x (Nat.add y z)))))))
def pIf (v : V) (x y : R) : R := vB v (fun q => Bool.rec (fun _ y => y) (fun x _ => x) q x y)
def pNc (v : V) (c : V → R) : R := vPc v (c v)
/-- an operation under a guard -/
def pGd (v : V) (w : Bool) (o : Cont → R) (S : St) (k : Cont) : R := wantV v w (o k) (k .u S)
abbrev Fun := List V → Sem3
def tblK (t : List (Nat × Fun)) : Nat → Fun := List.rec (fun _ _ _ _ => none) (fun x _ ih n vs S k => Prod.rec (fun m f n ih vs S k => iF (Nat.beq m n) (f vs S k) (ih n vs S k)) x n ih vs S k) t
def pCallv (t : List (Nat × Fun)) (f : V) (vs : List V) : Sem3 := fun S k => vF f (fun id cs => appK vs cs (fun vs => tblK t id vs S k))
def pDraw (f : Sem3) : Sem3 := fun S k => St.rec (fun h nx cnt fl f k => f (.mk h nx cnt cnt) (fun v S' => St.rec (fun h nx cnt _ fl v k => k v (.mk h nx cnt fl)) S' fl v k)) S f k
abbrev Fn : Nat → Type
  | 0 => St → R
  | n + 1 => V → Fn n
abbrev CS (n : Nat) := Fn n → (Nat → Fn n) → Fn n → Fn n
def cSkip {n : Nat} : CS n := fun kn _ _ => kn
def cReg {n : Nat} (f : Fn n → Fn n) : CS n := fun kn _ _ => f kn
def cSeq {n : Nat} (a b : CS n) : CS n := fun kn kx kr => a (b kn kx kr) kx kr
def cCond {n : Nat} (f : Fn n → Fn n → Fn n) (a b : CS n) : CS n := fun kn kx kr => f (a kn kx kr) (b kn kx kr)
def cBlock {n : Nat} (id : Nat) (c : CS n) : CS n := fun kn kx kr => c kn (fun id' => Bool.rec (fun kx kn => kx) (fun kx kn => kn) (Nat.beq id' id) (kx id') kn) kr
def cExit {n : Nat} (id : Nat) : CS n := fun _ kx _ => kx id
def cRet {n : Nat} : CS n := fun _ _ kr => kr
def bot : (n : Nat) → Fn n
  | 0 => fun _ => none
  | n + 1 => fun _ => bot n
def loopN {n : Nat} (c : CS n) (kx : Nat → Fn n) (kr : Fn n) (m : Nat) : Fn n := Nat.rec (bot n) (fun _ ih => c ih kx kr) m
def cLoop {n : Nat} (c : CS n) : CS n := fun _ kx kr => loopN c kx kr 1000000
def cBad {n : Nat} : CS n := fun _ _ _ => bot n
end
end Go.AM
