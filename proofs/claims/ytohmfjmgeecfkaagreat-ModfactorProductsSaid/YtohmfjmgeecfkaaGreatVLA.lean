/- A machine over a part of the Go model's operations, in continuation style, made for the kernel to run: values, memory, operations. It states nothing. -/
import Derived.Calls
import Derived.Orders
import Derived.Laws.Sem
import Derived.Laws.World
import Derived.Laws.Cells
import Derived.Laws.Tables
import Derived.Laws.StructEq
import Derived.Laws.Entries
import Derived.Laws.Unary
import Derived.Laws.Small
import Derived.Laws.BytesString
namespace Go.AM
set_option linter.unusedVariables false
noncomputable section
inductive Pos | h | o (p : Pos) | i (p : Pos)
inductive Tr (α : Type) | n | d (x : Option α) (l r : Tr α)
inductive V
  | u | b (x : Bool) | i (k : IntKind) (n : Nat) | s (l : List Nat) | p (id : Pos) (off : Nat) | pn
  | sl (id : Pos) (off len cap : Nat) | so (id : Pos) (off len cap sz : Nat) | sn | ag (l : List V) | tu (l : List V) | f (id : Nat) (cs : List V) | fn0 | other | m (id : Pos) | mn
structure Blk where
  born : Nat
  cs : List V
abbrev HT := Tr Blk
structure St where
  h : HT
  nx : Pos
  cnt : Nat
  fl : Nat
abbrev R := Option (V × St)
def getBK (p : Pos) : HT → (Blk → R) → R :=
  Pos.rec (Tr.rec (fun k => none) (fun x _ _ _ _ k => Option.rec (fun _ => none) (fun x k => k x) x k)) (fun _ ih t k => Tr.rec (fun _ k => none) (fun _ l _ _ _ ih k => ih l k) t ih k) (fun _ ih t k => Tr.rec (fun _ k => none) (fun _ _ r _ _ ih k => ih r k) t ih k) p
def setBK (p : Pos) (v : Blk) : HT → (HT → R) → R :=
  Pos.rec (fun v t k => Tr.rec (fun v k => k (.d (some v) .n .n)) (fun _ l r _ _ v k => k (.d (some v) l r)) t v k)
    (fun _ ih v t k => Tr.rec (fun ih v k => ih v .n (fun l' => k (.d none l' .n))) (fun x l r _ _ ih v k => ih v l (fun l' => k (.d x l' r))) t ih v k)
    (fun _ ih v t k => Tr.rec (fun ih v k => ih v .n (fun r' => k (.d none .n r'))) (fun x l r _ _ ih v k => ih v r (fun r' => k (.d x l r'))) t ih v k) p v
def succK (p : Pos) : (Pos → R) → R :=
  Pos.rec (fun k => k (.o .h)) (fun p _ k => k (.i p)) (fun _ ih k => ih (fun q => k (.o q))) p
def fN (n : Nat) (k : Nat → R) : R := Nat.rec (fun k => k 0) (fun m _ k => k (Nat.succ m)) n k
def iF (b : Bool) (x y : R) : R := Bool.rec (fun _ y => y) (fun x _ => x) b x y
def gu (b : Bool) (x : R) : R := Bool.rec (fun _ => none) (fun x => x) b x
def nthK {α : Type} (l : List α) : Nat → (α → R) → R :=
  List.rec (fun _ _ => none) (fun x _ ih n k => Nat.rec (fun x _ k => k x) (fun m _ _ ih k => ih m k) n x ih k) l
def takeK {α : Type} (l : List α) : Nat → (List α → R) → R :=
  List.rec (fun n k => gu (Nat.beq n 0) (k [])) (fun x _ ih n k => Nat.rec (fun _ _ k => k []) (fun m _ x ih k => ih m (fun t => k (x :: t))) n x ih k) l
def dropK {α : Type} (l : List α) : Nat → (List α → R) → R :=
  List.rec (fun n k => gu (Nat.beq n 0) (k [])) (fun x t ih n k => Nat.rec (fun x t _ k => k (x :: t)) (fun m _ _ _ ih k => ih m k) n x t ih k) l
def appK {α : Type} (l r : List α) : (List α → R) → R :=
  List.rec (fun r k => k r) (fun x _ ih r k => ih r (fun t => k (x :: t))) l r
def overK (v : List V) : List V → (List V → R) → R :=
  List.rec (fun l k => k l) (fun x _ ih l k => List.rec (fun _ _ _ => none) (fun _ t _ x ih k => ih t (fun t' => k (x :: t'))) l x ih k) v
def putK (l : List V) : Nat → List V → (List V → R) → R :=
  List.rec (fun n v k => gu (Nat.beq n 0) (overK v [] k)) (fun x t ih n v k => Nat.rec (fun x t _ v k => overK v (x :: t) k) (fun m _ x _ ih v k => ih m v (fun t' => k (x :: t'))) n x t ih v k) l
def repK (z : List V) (n : Nat) : (List V → R) → R :=
  Nat.rec (fun _ k => k []) (fun _ ih z k => ih z (fun t => appK z t k)) n z
def eqB (l : List Nat) : List Nat → Bool := List.rec (List.rec true (fun _ _ _ => false)) (fun x _ ih m => List.rec (fun _ _ => false) (fun y t _ x ih => Bool.rec (fun _ _ => false) (fun ih t => ih t) (Nat.beq x y) ih t) m x ih) l
def ltB (l : List Nat) : List Nat → Bool := List.rec (List.rec false (fun _ _ _ => true)) (fun x _ ih m => List.rec (fun _ _ => false) (fun y t _ x ih => Bool.rec (fun _ _ => Nat.blt x y) (fun ih t => ih t) (Nat.beq x y) ih t) m x ih) l
def lenL {α : Type} (l : List α) : Nat → (Nat → R) → R := List.rec (fun n k => k n) (fun _ _ ih n k => ih (Nat.succ n) k) l
def M (k : IntKind) : Nat := IntKind.rec 256 65536 4294967296 18446744073709551616 256 65536 4294967296 18446744073709551616 k
def H (k : IntKind) : Nat := IntKind.rec 128 32768 2147483648 9223372036854775808 0 0 0 0 k
def bits (k : IntKind) : Nat := IntKind.rec 8 16 32 64 8 16 32 64 k
def sgn (k : IntKind) : Bool := IntKind.rec true true true true false false false false k
def sh (k : IntKind) (a : Nat) : Nat := Nat.mod (Nat.add a (H k)) (M k)
def retI (c : V → R) (k : IntKind) (n : Nat) : R := Nat.rec (fun k c => c (.i k 0)) (fun m _ k c => c (.i k (Nat.succ m))) n k c
def retB (c : V → R) (b : Bool) : R := Bool.rec (fun c => c (.b false)) (fun c => c (.b true)) b c
def neg (k : IntKind) (a : Nat) : Bool := Bool.rec false (Nat.ble (H k) a) (sgn k)
def quoI (k : IntKind) (a b : Nat) : Nat :=
  Bool.rec (Bool.rec (Nat.div a b) (Nat.mod (Nat.sub (M k) (Nat.div a (Nat.sub (M k) b))) (M k)) (neg k b))
    (Bool.rec (Nat.mod (Nat.sub (M k) (Nat.div (Nat.sub (M k) a) b)) (M k)) (Nat.mod (Nat.div (Nat.sub (M k) a) (Nat.sub (M k) b)) (M k)) (neg k b)) (neg k a)
def remI (k : IntKind) (a b : Nat) : Nat :=
  Bool.rec (Bool.rec (Nat.mod a b) (Nat.mod a (Nat.sub (M k) b)) (neg k b))
    (Bool.rec (Nat.mod (Nat.sub (M k) (Nat.mod (Nat.sub (M k) a) b)) (M k)) (Nat.mod (Nat.sub (M k) (Nat.mod (Nat.sub (M k) a) (Nat.sub (M k) b))) (M k)) (neg k b)) (neg k a)
def shrI (k : IntKind) (a n : Nat) : Nat :=
  Bool.rec (Nat.div a (Nat.pow 2 n)) (Nat.sub (M k) (Nat.succ (Nat.div (Nat.sub (Nat.sub (M k) 1) a) (Nat.pow 2 n)))) (neg k a)
def minN (a b : Nat) : Nat := Bool.rec b a (Nat.ble a b)
def vB (x : V) (k : Bool → R) : R := @V.rec (fun _ => (Bool → R) → R) (fun _ => Unit) (fun  k => none) (fun a0 k => k a0) (fun a0 a1 k => none) (fun a0 k => none) (fun a0 a1 k => none) (fun  k => none) (fun a0 a1 a2 a3 k => none) (fun a0 a1 a2 a3 a4 k => none) (fun  k => none) (fun a0 _ k => none) (fun a0 _ k => none) (fun a0 a1 _ k => none) (fun  k => none) (fun  k => none) (fun a0 k => none) (fun  k => none) () (fun _ _ _ _ => ()) x k
def vI (x : V) (k : IntKind → Nat → R) : R := @V.rec (fun _ => (IntKind → Nat → R) → R) (fun _ => Unit) (fun  k => none) (fun a0 k => none) (fun a0 a1 k => k a0 a1) (fun a0 k => none) (fun a0 a1 k => none) (fun  k => none) (fun a0 a1 a2 a3 k => none) (fun a0 a1 a2 a3 a4 k => none) (fun  k => none) (fun a0 _ k => none) (fun a0 _ k => none) (fun a0 a1 _ k => none) (fun  k => none) (fun  k => none) (fun a0 k => none) (fun  k => none) () (fun _ _ _ _ => ()) x k
def vW (x : V) (k : Nat → R) : R := vI x (fun kd n => gu (Nat.beq (IntKind.rec 0 1 2 3 4 5 6 7 kd) 7) (k n))
def vS (x : V) (k : List Nat → R) : R := @V.rec (fun _ => (List Nat → R) → R) (fun _ => Unit) (fun  k => none) (fun a0 k => none) (fun a0 a1 k => none) (fun a0 k => k a0) (fun a0 a1 k => none) (fun  k => none) (fun a0 a1 a2 a3 k => none) (fun a0 a1 a2 a3 a4 k => none) (fun  k => none) (fun a0 _ k => none) (fun a0 _ k => none) (fun a0 a1 _ k => none) (fun  k => none) (fun  k => none) (fun a0 k => none) (fun  k => none) () (fun _ _ _ _ => ()) x k
def vP (x : V) (k : Pos → Nat → R) : R := @V.rec (fun _ => (Pos → Nat → R) → R) (fun _ => Unit) (fun  k => none) (fun a0 k => none) (fun a0 a1 k => none) (fun a0 k => none) (fun a0 a1 k => k a0 a1) (fun  k => none) (fun a0 a1 a2 a3 k => none) (fun a0 a1 a2 a3 a4 k => none) (fun  k => none) (fun a0 _ k => none) (fun a0 _ k => none) (fun a0 a1 _ k => none) (fun  k => none) (fun  k => none) (fun a0 k => none) (fun  k => none) () (fun _ _ _ _ => ()) x k
def vPn (x : V) (k : Pos → Nat → R) (z : R) : R := @V.rec (fun _ => (Pos → Nat → R) → (R) → R) (fun _ => Unit) (fun  k z => none) (fun a0 k z => none) (fun a0 a1 k z => none) (fun a0 k z => none) (fun a0 a1 k z => k a0 a1) (fun  k z => z) (fun a0 a1 a2 a3 k z => none) (fun a0 a1 a2 a3 a4 k z => none) (fun  k z => none) (fun a0 _ k z => none) (fun a0 _ k z => none) (fun a0 a1 _ k z => none) (fun  k z => none) (fun  k z => none) (fun a0 k z => none) (fun  k z => none) () (fun _ _ _ _ => ()) x k z
def vPc (x : V) (k : R) : R := @V.rec (fun _ => (R) → R) (fun _ => Unit) (fun  k => none) (fun a0 k => none) (fun a0 a1 k => none) (fun a0 k => none) (fun a0 a1 k => k) (fun  k => none) (fun a0 a1 a2 a3 k => none) (fun a0 a1 a2 a3 a4 k => none) (fun  k => none) (fun a0 _ k => none) (fun a0 _ k => none) (fun a0 a1 _ k => k) (fun  k => none) (fun  k => none) (fun a0 k => none) (fun  k => none) () (fun _ _ _ _ => ()) x k
def vLm (x : V) (k : Nat → R) : R := @V.rec (fun _ => (Nat → R) → R) (fun _ => Unit) (fun  k => none) (fun a0 k => none) (fun a0 a1 k => none) (fun a0 k => none) (fun a0 a1 k => none) (fun  k => none) (fun a0 a1 a2 a3 k => k a2) (fun a0 a1 a2 a3 a4 k => k a2) (fun  k => k 0) (fun a0 _ k => none) (fun a0 _ k => none) (fun a0 a1 _ k => none) (fun  k => none) (fun  k => none) (fun a0 k => none) (fun  k => none) () (fun _ _ _ _ => ()) x k
def vLs (x : V) (k : Pos → Nat → Nat → R) : R := @V.rec (fun _ => (Pos → Nat → Nat → R) → R) (fun _ => Unit) (fun  k => none) (fun a0 k => none) (fun a0 a1 k => none) (fun a0 k => none) (fun a0 a1 k => none) (fun  k => none) (fun a0 a1 a2 a3 k => k a0 a1 a2) (fun a0 a1 a2 a3 a4 k => k a0 a1 a2) (fun  k => none) (fun a0 _ k => none) (fun a0 _ k => none) (fun a0 a1 _ k => none) (fun  k => none) (fun  k => none) (fun a0 k => none) (fun  k => none) () (fun _ _ _ _ => ()) x k
def vLz (x : V) (z : R) (k : Pos → Nat → Nat → R) : R := @V.rec (fun _ => (R) → (Pos → Nat → Nat → R) → R) (fun _ => Unit) (fun  z k => none) (fun a0 z k => none) (fun a0 a1 z k => none) (fun a0 z k => none) (fun a0 a1 z k => none) (fun  z k => none) (fun a0 a1 a2 a3 z k => k a0 a1 a2) (fun a0 a1 a2 a3 a4 z k => k a0 a1 a2) (fun  z k => z) (fun a0 _ z k => none) (fun a0 _ z k => none) (fun a0 a1 _ z k => none) (fun  z k => none) (fun  z k => none) (fun a0 z k => none) (fun  z k => none) () (fun _ _ _ _ => ()) x z k
def vLn (x : V) (y : R) (z : R) : R := @V.rec (fun _ => (R) → (R) → R) (fun _ => Unit) (fun  y z => none) (fun a0 y z => none) (fun a0 a1 y z => none) (fun a0 y z => none) (fun a0 a1 y z => none) (fun  y z => none) (fun a0 a1 a2 a3 y z => y) (fun a0 a1 a2 a3 a4 y z => y) (fun  y z => z) (fun a0 _ y z => none) (fun a0 _ y z => none) (fun a0 a1 _ y z => none) (fun  y z => none) (fun  y z => none) (fun a0 y z => none) (fun  y z => none) () (fun _ _ _ _ => ()) x y z
def vS4 (x : V) (z : R) (k : Pos → Nat → Nat → Nat → R) (o : Pos → Nat → Nat → Nat → Nat → R) : R := @V.rec (fun _ => (R) → (Pos → Nat → Nat → Nat → R) → (Pos → Nat → Nat → Nat → Nat → R) → R) (fun _ => Unit) (fun  z k o => none) (fun a0 z k o => none) (fun a0 a1 z k o => none) (fun a0 z k o => none) (fun a0 a1 z k o => none) (fun  z k o => none) (fun a0 a1 a2 a3 z k o => k a0 a1 a2 a3) (fun a0 a1 a2 a3 a4 z k o => o a0 a1 a2 a3 a4) (fun  z k o => z) (fun a0 _ z k o => none) (fun a0 _ z k o => none) (fun a0 a1 _ z k o => none) (fun  z k o => none) (fun  z k o => none) (fun a0 z k o => none) (fun  z k o => none) () (fun _ _ _ _ => ()) x z k o
def vFn (x : V) (y : R) (z : R) : R := @V.rec (fun _ => (R) → (R) → R) (fun _ => Unit) (fun  y z => none) (fun a0 y z => none) (fun a0 a1 y z => none) (fun a0 y z => none) (fun a0 a1 y z => none) (fun  y z => none) (fun a0 a1 a2 a3 y z => none) (fun a0 a1 a2 a3 a4 y z => none) (fun  y z => none) (fun a0 _ y z => none) (fun a0 _ y z => none) (fun a0 a1 _ y z => y) (fun  y z => z) (fun  y z => none) (fun a0 y z => none) (fun  y z => none) () (fun _ _ _ _ => ()) x y z
def vA (x : V) (k : List V → R) : R := @V.rec (fun _ => (List V → R) → R) (fun _ => Unit) (fun  k => none) (fun a0 k => none) (fun a0 a1 k => none) (fun a0 k => none) (fun a0 a1 k => none) (fun  k => none) (fun a0 a1 a2 a3 k => none) (fun a0 a1 a2 a3 a4 k => none) (fun  k => none) (fun a0 _ k => k a0) (fun a0 _ k => none) (fun a0 a1 _ k => none) (fun  k => none) (fun  k => none) (fun a0 k => none) (fun  k => none) () (fun _ _ _ _ => ()) x k
def vT (x : V) (k : List V → R) : R := @V.rec (fun _ => (List V → R) → R) (fun _ => Unit) (fun  k => none) (fun a0 k => none) (fun a0 a1 k => none) (fun a0 k => none) (fun a0 a1 k => none) (fun  k => none) (fun a0 a1 a2 a3 k => none) (fun a0 a1 a2 a3 a4 k => none) (fun  k => none) (fun a0 _ k => none) (fun a0 _ k => k a0) (fun a0 a1 _ k => none) (fun  k => none) (fun  k => none) (fun a0 k => none) (fun  k => none) () (fun _ _ _ _ => ()) x k
def vF (x : V) (k : Nat → List V → R) : R := @V.rec (fun _ => (Nat → List V → R) → R) (fun _ => Unit) (fun  k => none) (fun a0 k => none) (fun a0 a1 k => none) (fun a0 k => none) (fun a0 a1 k => none) (fun  k => none) (fun a0 a1 a2 a3 k => none) (fun a0 a1 a2 a3 a4 k => none) (fun  k => none) (fun a0 _ k => none) (fun a0 _ k => none) (fun a0 a1 _ k => k a0 a1) (fun  k => none) (fun  k => none) (fun a0 k => none) (fun  k => none) () (fun _ _ _ _ => ()) x k
def vM (x : V) (k : Pos → R) : R := @V.rec (fun _ => (Pos → R) → R) (fun _ => Unit) (fun  k => none) (fun a0 k => none) (fun a0 a1 k => none) (fun a0 k => none) (fun a0 a1 k => none) (fun  k => none) (fun a0 a1 a2 a3 k => none) (fun a0 a1 a2 a3 a4 k => none) (fun  k => none) (fun a0 _ k => none) (fun a0 _ k => none) (fun a0 a1 _ k => none) (fun  k => none) (fun  k => none) (fun a0 k => k a0) (fun  k => none) () (fun _ _ _ _ => ()) x k
def wantV (x : V) (w : Bool) (y : R) (n : R) : R := @V.rec (fun _ => (Bool) → (R) → (R) → R) (fun _ => Unit) (fun  w y n => n) (fun a0 w y n => Bool.rec (fun w y n => Bool.rec (fun y _ => y) (fun _ n => n) w y n) (fun w y n => Bool.rec (fun _ n => n) (fun y _ => y) w y n) a0 w y n) (fun a0 a1 w y n => none) (fun a0 w y n => none) (fun a0 a1 w y n => none) (fun  w y n => none) (fun a0 a1 a2 a3 w y n => none) (fun a0 a1 a2 a3 a4 w y n => none) (fun  w y n => none) (fun a0 _ w y n => none) (fun a0 _ w y n => none) (fun a0 a1 _ w y n => none) (fun  w y n => none) (fun  w y n => none) (fun a0 w y n => none) (fun  w y n => none) () (fun _ _ _ _ => ()) x w y n
def cellsK (x : V) (k : List V → R) : R := @V.rec (fun _ => (List V → R) → R) (fun _ => Unit) (fun  k => none) (fun a0 k => k [V.b a0]) (fun a0 a1 k => k [V.i a0 a1]) (fun a0 k => k [V.s a0]) (fun a0 a1 k => k [V.p a0 a1]) (fun  k => k [.pn]) (fun a0 a1 a2 a3 k => k [V.sl a0 a1 a2 a3]) (fun a0 a1 a2 a3 a4 k => k [V.so a0 a1 a2 a3 a4]) (fun  k => k [.sn]) (fun a0 _ k => k a0) (fun a0 _ k => none) (fun a0 a1 _ k => k [V.f a0 a1]) (fun  k => k [.fn0]) (fun  k => none) (fun a0 k => k [V.m a0]) (fun  k => k [.mn]) () (fun _ _ _ _ => ()) x k

abbrev BI := IntKind → Nat → Nat → (V → R) → R
def iAdd : BI := fun k a b c => retI c k (Nat.mod (Nat.add a b) (M k))
def iSub : BI := fun k a b c => retI c k (Nat.mod (Nat.add a (Nat.sub (M k) b)) (M k))
def iMul : BI := fun k a b c => retI c k (Nat.mod (Nat.mul a b) (M k))
def iQuo : BI := fun k a b c => gu (Nat.blt 0 b) (retI c k (quoI k a b))
def iRem : BI := fun k a b c => gu (Nat.blt 0 b) (retI c k (remI k a b))
def iAnd : BI := fun k a b c => retI c k (Nat.land a b)
def iOr : BI := fun k a b c => retI c k (Nat.lor a b)
def iXor : BI := fun k a b c => retI c k (Nat.xor a b)
def iEql : BI := fun k a b c => retB c (Nat.beq a b)
def iNeq : BI := fun k a b c => retB c (Bool.not (Nat.beq a b))
def iLss : BI := fun k a b c => retB c (Nat.blt (sh k a) (sh k b))
def iLeq : BI := fun k a b c => retB c (Nat.ble (sh k a) (sh k b))
def iGtr : BI := fun k a b c => retB c (Nat.blt (sh k b) (sh k a))
def iGeq : BI := fun k a b c => retB c (Nat.ble (sh k b) (sh k a))
/-- two integers of one kind -/
def kNo (k : IntKind) : Nat := IntKind.rec 0 1 2 3 4 5 6 7 k
def two (x y : V) (f : BI) (c : V → R) : R := vI x (fun k a => vI y (fun k' b => gu (Nat.beq (kNo k) (kNo k')) (f k a b c)))
def pAdd (x y : V) (c : V → R) : R := two x y iAdd c
def pSub (x y : V) (c : V → R) : R := two x y iSub c
def pMul (x y : V) (c : V → R) : R := two x y iMul c
def pQuo (x y : V) (c : V → R) : R := two x y iQuo c
def pRem (x y : V) (c : V → R) : R := two x y iRem c
def pAnd (x y : V) (c : V → R) : R := two x y iAnd c
def pOr (x y : V) (c : V → R) : R := two x y iOr c
def pXor (x y : V) (c : V → R) : R := two x y iXor c
def pShl (x y : V) (c : V → R) : R := vI x (fun k a => vI y (fun k' b => gu (Bool.not (neg k' b)) (retI c k (Nat.mod (Nat.mul a (Nat.pow 2 (minN b (bits k)))) (M k)))))
def pShr (x y : V) (c : V → R) : R := vI x (fun k a => vI y (fun k' b => gu (Bool.not (neg k' b)) (retI c k (shrI k a (minN b (bits k))))))
def pEql (x y : V) (c : V → R) : R := two x y iEql c
def pNeq (x y : V) (c : V → R) : R := two x y iNeq c
def pLss (x y : V) (c : V → R) : R := two x y iLss c
def pLeq (x y : V) (c : V → R) : R := two x y iLeq c
def pGtr (x y : V) (c : V → R) : R := two x y iGtr c
def pGeq (x y : V) (c : V → R) : R := two x y iGeq c
/-- equality of two values that are no integers: w is what an equality hands back -/
def yes (w : Bool) (c : V → R) : R := retB c w
def pEqB (w : Bool) (x y : V) (c : V → R) : R := vB x (fun a => vB y (fun b => retB c (Bool.rec (Bool.rec w (Bool.not w) b) (Bool.rec (Bool.not w) w b) a)))
def pEqS (w : Bool) (x y : V) (c : V → R) : R := vS x (fun a => vS y (fun b => retB c (Bool.rec (Bool.not w) w (eqB a b))))
def pCat (x y : V) (c : V → R) : R := vS x (fun a => vS y (fun b => lenL a 0 (fun n => lenL b 0 (fun m => gu (Nat.ble (Nat.add n m) 1073741824) (appK a b (fun l => c (.s l)))))))
def pLtS (x y : V) (c : V → R) : R := vS x (fun a => vS y (fun b => retB c (ltB a b)))
def pNilP (w : Bool) (x : V) (c : V → R) : R := vPn x (fun _ _ => yes (Bool.not w) c) (yes w c)
def pNilL (w : Bool) (x : V) (c : V → R) : R := vLn x (yes (Bool.not w) c) (yes w c)
def pNilF (w : Bool) (x : V) (c : V → R) : R := vFn x (yes (Bool.not w) c) (yes w c)
/-- equality of two structs, by the cells that are compared: where, and of which kind (0 a bool, 1 an integer, 2 a string) -/
def eqC (q : Nat) (x y : V) (k : Bool → R) : R := Nat.rec (fun x y k => vB x (fun a => vB y (fun b => k (Bool.rec (Bool.not b) b a)))) (fun q _ x y k => Nat.rec (fun x y k => vI x (fun d a => vI y (fun d' b => gu (Nat.beq (kNo d) (kNo d')) (k (Nat.beq a b))))) (fun _ _ x y k => vS x (fun a => vS y (fun b => k (eqB a b)))) q x y k) q x y k
def eqIx (l m : List V) (idx : List (Nat × Nat)) (k : Bool → R) : R := List.rec (fun l m k => k true) (fun i _ ih l m k => Prod.rec (fun i q ih l m k => nthK l i (fun a => nthK m i (fun b => eqC q a b (fun e => Bool.rec (fun _ _ _ k => k false) (fun ih l m k => ih l m k) e ih l m k)))) i ih l m k) idx l m k
def pEqA (w : Bool) (n : Nat) (idx : List (Nat × Nat)) (x y : V) (c : V → R) : R := vA x (fun l => vA y (fun m => lenL l 0 (fun a => lenL m 0 (fun b => gu (Bool.and (Nat.beq a n) (Nat.beq b n)) (eqIx l m idx (fun b => retB c (Bool.rec (Bool.not w) w b)))))))
def pPick (q a b : V) (k : V → R) : R := vB q (fun q => Bool.rec (fun _ b k => k b) (fun a _ k => k a) q a b k)
def pNot (v : V) (k : V → R) : R := vB v (fun b => retB k (Bool.not b))
def pNeg (v : V) (c : V → R) : R := vI v (fun k n => retI c k (Nat.mod (Nat.sub (M k) n) (M k)))
def pLenS (v : V) (c : V → R) : R := vS v (fun l => lenL l 0 (fun n => gu (Nat.ble n 1073741824) (c (.i .i64 n))))
def pLen (v : V) (c : V → R) : R := vLm v (fun n => gu (Nat.ble n 9223372036854775807) (retI c .i64 n))
def pIdx (sz : Nat) (v i : V) (c : V → R) : R := vI i (fun k i => gu (Bool.not (neg k i)) (vLs v (fun id off len => gu (Nat.blt i len) (fN (Nat.add off (Nat.mul i sz)) (fun o => c (.p id o))))))
def pIdxa (len sz : Nat) (v i : V) (c : V → R) : R := vI i (fun k i => gu (Bool.not (neg k i)) (vP v (fun id off => gu (Nat.blt i len) (fN (Nat.add off (Nat.mul i sz)) (fun o => c (.p id o))))))
def pFa (off : Nat) (v : V) (c : V → R) : R := vP v (fun id o => fN (Nat.add o off) (fun o => c (.p id o)))
def pFld (off : Nat) (v : V) (c : V → R) : R := vA v (fun l => nthK l off c)
def pFldn (off n : Nat) (v : V) (c : V → R) : R := vA v (fun l => dropK l off (fun l => takeK l n (fun l => c (.ag l))))
def pSidx (v i : V) (c : V → R) : R := vI i (fun k i => gu (Bool.not (neg k i)) (vS v (fun l => nthK l i (fun n => c (.i .u8 n)))))
def pAidx (len : Nat) (v i : V) (c : V → R) : R := vI i (fun k i => gu (Bool.not (neg k i)) (vA v (fun l => gu (Nat.blt i len) (nthK l i c))))
def pAidxn (len sz : Nat) (v i : V) (c : V → R) : R := vI i (fun k i => gu (Bool.not (neg k i)) (vA v (fun l => gu (Nat.blt i len) (dropK l (Nat.mul i sz) (fun l => takeK l sz (fun l => c (.ag l)))))))
def cellsAt (id : Pos) (S : St) (k : List V → R) : R := St.rec (fun h _ _ _ id k => getBK id h (fun b => Blk.rec (fun _ cs k => k cs) b k)) S id k
def pLd (v : V) (S : St) (c : V → R) : R := vP v (fun id o => cellsAt id S (fun cs => nthK cs o c))
def pLdn (n : Nat) (v : V) (S : St) (c : V → R) : R := vP v (fun id o => cellsAt id S (fun cs => dropK cs o (fun l => takeK l n (fun l => c (.ag l)))))
def newK (cs : List V) (S : St) (k : Pos → St → R) : R := St.rec (fun h nx cnt fl cs k => setBK nx (.mk cnt cs) h (fun h' => succK nx (fun nx' => k nx (.mk h' nx' (Nat.succ cnt) fl)))) S cs k
def updK (id : Pos) (S : St) (off : Nat) (vs : List V) (k : St → R) : R := St.rec (fun h nx cnt fl id off vs k => getBK id h (fun b => Blk.rec (fun born cs => gu (Nat.ble fl born) (putK cs off vs (fun cs' => setBK id (.mk born cs') h (fun h' => k (.mk h' nx cnt fl))))) b)) S id off vs k
/-- no longer to be used -/
def killK (id : Pos) (S : St) (k : St → R) : R := St.rec (fun h nx cnt fl id k => getBK id h (fun b => Blk.rec (fun born cs => gu (Nat.ble fl born) (setBK id (.mk 0 []) h (fun h' => k (.mk h' nx cnt fl)))) b)) S id k
abbrev Cont := V → St → R
abbrev Sem3 := St → Cont → R
def pSt (n : Nat) (v y : V) (S : St) (c : St → R) : R := vP v (fun id o => cellsK y (fun ys => lenL ys 0 (fun m => gu (Nat.beq m n) (updK id S o ys c))))
def pExt (v : V) (i : Nat) (c : V → R) : R := vT v (fun l => nthK l i c)
def pBox (v : V) (S : St) (c : Cont) : R := cellsK v (fun cs => newK cs S (fun nx S' => c (.p nx 0) S'))
def pAlloc (z : List V) (S : St) (c : Cont) : R := newK z S (fun nx S' => c (.p nx 0) S')
def pMks (z : List V) (l q : V) (S : St) (c : Cont) : R := vI l (fun k1 l => vI q (fun k2 q => gu (Bool.and (Bool.and (Bool.not (neg k1 l)) (Bool.not (neg k2 q))) (Bool.and (Nat.ble l q) (Nat.ble q 16777216))) (repK z q (fun cs => newK cs S (fun nx S' => c (.sl nx 0 l q) S')))))
/-- parts (offset, size, value) put into a row -/
def putParts (ps : List (Nat × Nat × V)) : List V → (List V → R) → R := List.rec (fun cs k => k cs) (fun x _ ih cs k => Prod.rec (fun off y ih cs k => Prod.rec (fun sz v ih cs k => cellsK v (fun vs => lenL vs 0 (fun m => gu (Nat.beq m sz) (putK cs off vs (fun cs' => ih cs' k))))) y ih cs k) x ih cs k) ps
def pBsl (cells : List V) (len : Nat) (ps : List (Nat × Nat × V)) (S : St) (c : Cont) : R := putParts ps cells (fun cs => newK cs S (fun nx S' => c (.sl nx 0 len len) S'))
def pBuild (z : List V) (ps : List (Nat × Nat × V)) (c : V → R) : R := putParts ps z (fun cs => c (.ag cs))
/-- the first n elements behind a slice -/
def elems (sz : Nat) (id : Pos) (off n : Nat) (S : St) (k : List V → R) : R := cellsAt id S (fun cs => dropK cs off (fun l => takeK l (Nat.mul n sz) k))
def app1 (sz n2 : Nat) (new : List V) (x : V) (S : St) (c : Cont) : R :=
  vS4 x (newK new S (fun nx S' => c (.so nx 0 n2 n2 sz) S'))
    (fun id off len cap => Bool.rec
      (fun _ => elems sz id off len S (fun old => appK old new (fun cs => newK cs S (fun nx S' => fN (Nat.add len n2) (fun l => gu (Nat.ble l 1073741824) (c (.so nx 0 l l sz) S'))))))
      (fun _ => updK id S (Nat.add off (Nat.mul len sz)) new (fun S' => fN (Nat.add len n2) (fun l => c (.sl id off l cap) S'))) (Nat.ble (Nat.add len n2) cap) ())
    (fun id off len cap sz' => gu (Nat.beq sz' sz) (Bool.rec
      (fun _ => elems sz id off len S (fun old => appK old new (fun cs => killK id S (fun S => newK cs S (fun nx S' => fN (Nat.add len n2) (fun l => gu (Nat.ble l 1073741824) (c (.so nx 0 l l sz) S')))))))
      (fun _ => updK id S (Nat.add off (Nat.mul len sz)) new (fun S' => fN (Nat.add len n2) (fun l => c (.so id off l cap sz) S'))) (Nat.ble (Nat.add len n2) cap) ()))
def pApp (sz : Nat) (x y : V) (S : St) (c : Cont) : R := vLz y (vS4 x (c x S) (fun _ _ _ _ => c x S) (fun _ _ _ _ _ => c x S))
  (fun id2 o2 n2 => gu (Nat.ble n2 1073741824) (Nat.rec (fun _ => vS4 x (c x S) (fun _ _ _ _ => c x S) (fun _ _ _ _ _ => c x S)) (fun _ _ _ => elems sz id2 o2 n2 S (fun new => app1 sz n2 new x S c)) n2 ()))
def oN (x : Option V) (d : Nat) (k : Nat → R) : R := Option.rec (fun d k => k d) (fun v _ k => vI v (fun kd n => gu (Bool.not (neg kd n)) (k n))) x d k
def cut (sz off l m : Nat) : Nat := Bool.rec (Nat.add off (Nat.mul l sz)) off (Nat.beq m l)
def pSlc (sz : Nat) (x : V) (lo hi mx : Option V) (c : V → R) : R := vS4 x
  (oN mx 0 (fun m => gu (Nat.beq m 0) (oN hi 0 (fun h => gu (Nat.beq h 0) (oN lo 0 (fun l => gu (Nat.beq l 0) (c .sn)))))))
  (fun id off len cap => oN mx cap (fun m => gu (Nat.ble m cap) (oN hi len (fun h => gu (Nat.ble h m) (oN lo 0 (fun l => gu (Nat.ble l h) (fN (cut sz off l m) (fun o => fN (Nat.sub h l) (fun n => fN (Nat.sub m l) (fun q => c (.sl id o n q)))))))))))
  (fun id off len cap sz' => gu (Nat.beq sz' sz) (Option.rec
     (fun _ => oN hi len (fun h => gu (Nat.ble h cap) (oN lo 0 (fun l => gu (Nat.ble l h) (fN (Nat.add off (Nat.mul l sz)) (fun o => fN (Nat.sub h l) (fun n => fN (Nat.sub cap l) (fun q => c (.so id o n q sz)))))))))
     (fun m _ => oN (some m) cap (fun m => gu (Nat.ble m cap) (oN hi len (fun h => gu (Nat.ble h m) (oN lo 0 (fun l => gu (Nat.ble l h) (fN (cut sz off l m) (fun o => fN (Nat.sub h l) (fun n => fN (Nat.sub m l) (fun q => c (.sl id o n q))))))))))) mx ()))
def pSslc (x : V) (lo hi : Option V) (c : V → R) : R := vS x (fun s => lenL s 0 (fun n => oN hi n (fun h => gu (Nat.ble h n) (oN lo 0 (fun l => gu (Nat.ble l h) (dropK s l (fun s => takeK s (Nat.sub h l) (fun s => c (.s s)))))))))
def cvI (k0 k : IntKind) (n : Nat) : Nat := Bool.rec (Nat.mod n (M k)) (Nat.mod (Nat.sub (Nat.add n (Nat.mul (M k) 18446744073709551616)) (M k0)) (M k)) (neg k0 n)
def pConv (k : IntKind) (v : V) (c : V → R) : R := vI v (fun k0 n => retI c k (cvI k0 k n))
def bytesK (l : List V) : (List Nat → R) → R := List.rec (fun k => k []) (fun x _ ih k => vI x (fun kd n => gu (Nat.beq (kNo kd) 4) (ih (fun t => k (n :: t))))) l
def u8sK (l : List Nat) : (List V → R) → R := List.rec (fun k => k []) (fun n _ ih k => ih (fun t => k (.i .u8 n :: t))) l
def pB2s (v : V) (S : St) (c : V → R) : R := vLz v (c (.s [])) (fun id o n => elems 1 id o n S (fun l => bytesK l (fun s => c (.s s))))
def pS2b (v : V) (S : St) (c : Cont) : R := vS v (fun s => u8sK s (fun l => lenL l 0 (fun n => gu (Nat.ble n 1073741824) (newK l S (fun nx S' => c (.so nx 0 n n 1) S')))))
def pickI (k : IntKind) (less : Bool) (a b : Nat) : Nat := Bool.rec a b (Bool.rec (Nat.blt (sh k a) (sh k b)) (Nat.blt (sh k b) (sh k a)) less)
def mxK (less : Bool) (l : List V) : V → (V → R) → R := List.rec (fun m k => k m) (fun v _ ih m k => two m v (fun kd a b c => retI c kd (pickI kd less a b)) (fun m => ih m k)) l
def pMx (l : List V) (c : V → R) : R := List.rec none (fun m r _ => vI m (fun _ _ => mxK false r m c)) l
def pMn (l : List V) (c : V → R) : R := List.rec none (fun m r _ => vI m (fun _ _ => mxK true r m c)) l
def pAdd64 (x y z : V) (c : V → R) : R := vW x (fun x => vW y (fun y => vW z (fun z => gu (Nat.ble z 1) (fN (Nat.mod (Nat.add (Nat.add x y) z) 18446744073709551616) (fun l => fN (Nat.div (Nat.add (Nat.add x y) z) 18446744073709551616) (fun h => c (.tu [.i .u64 l, .i .u64 h])))))))
def pSub64 (x y z : V) (c : V → R) : R := vW x (fun x => vW y (fun y => vW z (fun z => gu (Nat.ble z 1) (fN (Nat.mod (Nat.sub (Nat.add x 18446744073709551616) (Nat.add y z)) 18446744073709551616) (fun l => Bool.rec (c (.tu [.i .u64 l, .i .u64 0])) (c (.tu [.i .u64 l, .i .u64 1])) (Nat.blt x (Nat.add y z)))))))
/- maps: a map's block holds its entries, each a pair of a key and a value -/
def lookM (q : Nat) (key : V) (cs : List V) : R → (V → R) → R := List.rec (fun z _ => z) (fun e _ ih z k => vT e (fun l => nthK l 0 (fun k0 => eqC q k0 key (fun b => Bool.rec (ih z k) (nthK l 1 k) b)))) cs
def updM (q : Nat) (key val : V) (cs : List V) : (List V → R) → R := List.rec (fun k => k [.tu [key, val]]) (fun e t ih k => vT e (fun l => nthK l 0 (fun k0 => eqC q k0 key (fun b => Bool.rec (ih (fun t' => k (e :: t'))) (k (.tu [key, val] :: t)) b)))) cs
def mapAt (id : Pos) (S : St) (k : List V → R) : R := St.rec (fun h _ _ _ id k => getBK id h (fun b => Blk.rec (fun born cs k => gu (Nat.blt 0 born) (k cs)) b k)) S id k
def mapUp (id : Pos) (S : St) (f : List V → (List V → R) → R) (c : St → R) : R := St.rec (fun h nx cnt fl id f c => getBK id h (fun b => Blk.rec (fun born cs => gu (Nat.ble fl born) (f cs (fun cs' => setBK id (.mk born cs') h (fun h' => c (.mk h' nx cnt fl))))) b)) S id f c
def pMkm (S : St) (c : Cont) : R := newK [] S (fun nx S' => c (.m nx) S')
def pLkm (q : Nat) (z : V) (x key : V) (S : St) (c : V → R) : R := vM x (fun id => mapAt id S (fun cs => lookM q key cs (c z) c))
def pLko (q : Nat) (z : V) (x key : V) (S : St) (c : V → R) : R := vM x (fun id => mapAt id S (fun cs => lookM q key cs (c (.tu [z, .b false])) (fun v => c (.tu [v, .b true]))))
def pUpm (q r : Nat) (x key val : V) (S : St) (c : St → R) : R := vM x (fun id => mapUp id S (updM q key val) c)
def pIf (v : V) (x y : R) : R := vB v (fun q => Bool.rec (fun _ y => y) (fun x _ => x) q x y)
def pNc (v : V) (c : V → R) : R := vPc v (c v)
/-- an operation under a guard -/
def pGd (v : V) (w : Bool) (o : Cont → R) (S : St) (k : Cont) : R := wantV v w (o k) (k .u S)
abbrev Fun := List V → Sem3
def tblK (t : List (Nat × Fun)) : Nat → Fun := List.rec (fun _ _ _ _ => none) (fun x _ ih n vs S k => Prod.rec (fun m f n ih vs S k => iF (Nat.beq m n) (f vs S k) (ih n vs S k)) x n ih vs S k) t
def pCallv (t : List (Nat × Fun)) (f : V) (vs : List V) : Sem3 := fun S k => vF f (fun id cs => appK vs cs (fun vs => tblK t id vs S k))
def pDraw (f : Sem3) : Sem3 := fun S k => St.rec (fun h nx cnt fl f k => f (.mk h nx cnt cnt) (fun v S' => St.rec (fun h nx cnt _ fl v k => k v (.mk h nx cnt fl)) S' fl v k)) S f k
abbrev Fn : Nat → Type
  | 0 => St → R
  | n + 1 => V → Fn n
abbrev CS (n : Nat) := Fn n → (Nat → Fn n) → Fn n → Fn n
def cSkip {n : Nat} : CS n := fun kn _ _ => kn
def cReg {n : Nat} (f : Fn n → Fn n) : CS n := fun kn _ _ => f kn
def cSeq {n : Nat} (a b : CS n) : CS n := fun kn kx kr => a (b kn kx kr) kx kr
def cCond {n : Nat} (f : Fn n → Fn n → Fn n) (a b : CS n) : CS n := fun kn kx kr => f (a kn kx kr) (b kn kx kr)
def cBlock {n : Nat} (id : Nat) (c : CS n) : CS n := fun kn kx kr => c kn (fun id' => Bool.rec (fun kx kn => kx) (fun kx kn => kn) (Nat.beq id' id) (kx id') kn) kr
def cExit {n : Nat} (id : Nat) : CS n := fun _ kx _ => kx id
def cRet {n : Nat} : CS n := fun _ _ kr => kr
def bot : (n : Nat) → Fn n
  | 0 => fun _ => none
  | n + 1 => fun _ => bot n
def loopN {n : Nat} (c : CS n) (kx : Nat → Fn n) (kr : Fn n) (m : Nat) : Fn n := Nat.rec (bot n) (fun _ ih => c ih kx kr) m
def cLoop {n : Nat} (c : CS n) : CS n := fun _ kx kr => loopN c kx kr 1000000
def cBad {n : Nat} : CS n := fun _ _ _ => bot n
end
end Go.AM

/- The machine's primitives, each as a plain equation or as what follows when it ends; the numbers of the machine against those of the model; the relation between the machine's values and memory and the model's. -/
namespace Go.AM
set_option linter.unusedVariables false
set_option linter.unusedSimpArgs false
variable {out : V × St}
def Pos.num : Pos → Nat | .h => 1 | .o p => 2 * p.num | .i p => 2 * p.num + 1
theorem Pos.num_pos : ∀ p : Pos, 0 < p.num
  | .h => by decide
  | .o p => by have := num_pos p; simp only [num]; omega
  | .i p => by simp only [num]; omega
theorem Pos.num_inj : ∀ p q : Pos, p.num = q.num → p = q
  | .h, .h, _ => rfl
  | .h, .o q, e => by simp only [num] at e; omega
  | .h, .i q, e => by have := num_pos q; simp only [num] at e; omega
  | .o p, .h, e => by simp only [num] at e; omega
  | .o p, .o q, e => by rw [num_inj p q (by simp only [num] at e; omega)]
  | .o p, .i q, e => by simp only [num] at e; omega
  | .i p, .h, e => by have := num_pos p; simp only [num] at e; omega
  | .i p, .o q, e => by simp only [num] at e; omega
  | .i p, .i q, e => by rw [num_inj p q (by simp only [num] at e; omega)]
def Pos.succ : Pos → Pos | .h => .o .h | .o p => .i p | .i p => .o p.succ
theorem Pos.num_succ : ∀ p : Pos, p.succ.num = p.num + 1
  | .h => rfl
  | .o p => rfl
  | .i p => by simp only [succ, num, num_succ p]; omega
def Tr.get {α : Type} : Tr α → Pos → Option α
  | .n, _ => none
  | .d x _ _, .h => x
  | .d _ l _, .o p => l.get p
  | .d _ _ r, .i p => r.get p
def Tr.set {α : Type} : Pos → α → Tr α → Tr α
  | .h, v, .n => .d (some v) .n .n
  | .h, v, .d _ l r => .d (some v) l r
  | .o p, v, .n => .d none (Tr.set p v .n) .n
  | .o p, v, .d x l r => .d x (Tr.set p v l) r
  | .i p, v, .n => .d none .n (Tr.set p v .n)
  | .i p, v, .d x l r => .d x l (Tr.set p v r)
theorem Tr.get_set {α : Type} (v : α) : ∀ (p : Pos) (t : Tr α), (t.set p v).get p = some v
  | .h, .n => rfl
  | .h, .d _ _ _ => rfl
  | .o p, .n => get_set v p .n
  | .o p, .d _ l _ => get_set v p l
  | .i p, .n => get_set v p .n
  | .i p, .d _ _ r => get_set v p r
theorem Tr.get_n {α : Type} (p : Pos) : (Tr.n : Tr α).get p = none := by cases p <;> rfl
theorem Tr.get_set_ne {α : Type} (v : α) : ∀ (p q : Pos) (t : Tr α), p ≠ q → (t.set p v).get q = t.get q
  | .h, .h, _, e => absurd rfl e
  | .h, .o q, .n, _ => Tr.get_n q
  | .h, .o q, .d _ _ _, _ => rfl
  | .h, .i q, .n, _ => Tr.get_n q
  | .h, .i q, .d _ _ _, _ => rfl
  | .o p, .h, .n, _ => rfl
  | .o p, .h, .d _ _ _, _ => rfl
  | .o p, .o q, .n, e => (get_set_ne v p q .n (fun h => e (by rw [h]))).trans (Tr.get_n q)
  | .o p, .o q, .d _ l _, e => get_set_ne v p q l (fun h => e (by rw [h]))
  | .o p, .i q, .n, _ => Tr.get_n q
  | .o p, .i q, .d _ _ _, _ => rfl
  | .i p, .h, .n, _ => rfl
  | .i p, .h, .d _ _ _, _ => rfl
  | .i p, .o q, .n, _ => Tr.get_n q
  | .i p, .o q, .d _ _ _, _ => rfl
  | .i p, .i q, .n, e => (get_set_ne v p q .n (fun h => e (by rw [h]))).trans (Tr.get_n q)
  | .i p, .i q, .d _ _ r, e => get_set_ne v p q r (fun h => e (by rw [h]))
theorem no {p : Prop} (h : (none : R) = some out) : p := by cases h
theorem getBK_some : ∀ (p : Pos) (t : HT) (k : Blk → R), getBK p t k = some out → ∃ b, t.get p = some b ∧ k b = some out
  | p, .n, k, h => by cases p <;> exact no h
  | .h, .d none l r, k, h => no h
  | .h, .d (some b) l r, k, h => ⟨b, rfl, h⟩
  | .o p, .d x l r, k, h => getBK_some p l k h
  | .i p, .d x l r, k, h => getBK_some p r k h
theorem setBK_eq (v : Blk) : ∀ (p : Pos) (t : HT) (k : HT → R), setBK p v t k = k (t.set p v)
  | .h, .n, k => rfl
  | .h, .d _ _ _, k => rfl
  | .o p, .n, k => setBK_eq v p .n _
  | .o p, .d _ l _, k => setBK_eq v p l _
  | .i p, .n, k => setBK_eq v p .n _
  | .i p, .d _ _ r, k => setBK_eq v p r _
theorem succK_eq : ∀ (p : Pos) (k : Pos → R), succK p k = k p.succ
  | .h, k => rfl
  | .o p, k => rfl
  | .i p, k => succK_eq p _
theorem fN_eq (n : Nat) (k : Nat → R) : fN n k = k n := by cases n <;> rfl
theorem gu_some {b : Bool} {x : R} (h : gu b x = some out) : b = true ∧ x = some out := by
  cases b
  · exact no h
  · exact ⟨rfl, h⟩
theorem retI_eq (c : V → R) (k : IntKind) (n : Nat) : retI c k n = c (.i k n) := by cases n <;> rfl
theorem retB_eq (c : V → R) (b : Bool) : retB c b = c (.b b) := by cases b <;> rfl
theorem nthK_some {α : Type} : ∀ (l : List α) (n : Nat) (k : α → R), nthK l n k = some out → ∃ v, l[n]? = some v ∧ k v = some out
  | [], n, k, h => no h
  | x :: l, 0, k, h => ⟨x, rfl, h⟩
  | x :: l, n + 1, k, h => by obtain ⟨v, h1, h2⟩ := nthK_some l n k h; exact ⟨v, by simpa using h1, h2⟩
theorem takeK_some {α : Type} : ∀ (l : List α) (n : Nat) (k : List α → R), takeK l n k = some out → n ≤ l.length ∧ k (l.take n) = some out
  | [], n, k, h => by obtain ⟨h1, h2⟩ := gu_some h; have := Nat.eq_of_beq_eq_true h1; subst this; exact ⟨Nat.le_refl _, h2⟩
  | x :: l, 0, k, h => ⟨Nat.zero_le _, h⟩
  | x :: l, n + 1, k, h => by obtain ⟨h1, h2⟩ := takeK_some l n _ h; exact ⟨by simpa using h1, by simpa using h2⟩
theorem dropK_some {α : Type} : ∀ (l : List α) (n : Nat) (k : List α → R), dropK l n k = some out → n ≤ l.length ∧ k (l.drop n) = some out
  | [], n, k, h => by obtain ⟨h1, h2⟩ := gu_some h; have := Nat.eq_of_beq_eq_true h1; subst this; exact ⟨Nat.le_refl _, h2⟩
  | x :: l, 0, k, h => ⟨Nat.zero_le _, h⟩
  | x :: l, n + 1, k, h => by obtain ⟨h1, h2⟩ := dropK_some l n _ h; exact ⟨by simpa using h1, by simpa using h2⟩
theorem appK_eq {α : Type} : ∀ (l r : List α) (k : List α → R), appK l r k = k (l ++ r)
  | [], r, k => rfl
  | x :: l, r, k => appK_eq l r _
theorem overK_some : ∀ (v l : List V) (k : List V → R), overK v l k = some out → v.length ≤ l.length ∧ k (v ++ l.drop v.length) = some out
  | [], l, k, h => ⟨Nat.zero_le _, h⟩
  | x :: v, [], k, h => no h
  | x :: v, y :: l, k, h => by obtain ⟨h1, h2⟩ := overK_some v l _ h; exact ⟨by simpa using h1, by simpa using h2⟩
theorem putK_some : ∀ (l : List V) (n : Nat) (v : List V) (k : List V → R), putK l n v k = some out → n + v.length ≤ l.length ∧ k (l.take n ++ v ++ l.drop (n + v.length)) = some out
  | [], n, v, k, h => by
    obtain ⟨h1, h2⟩ := gu_some h; have := Nat.eq_of_beq_eq_true h1; subst this
    obtain ⟨h3, h4⟩ := overK_some v [] k h2; exact ⟨by simpa using h3, by simpa using h4⟩
  | x :: l, 0, v, k, h => by obtain ⟨h3, h4⟩ := overK_some v (x :: l) k h; exact ⟨by simpa using h3, by simpa using h4⟩
  | x :: l, n + 1, v, k, h => by
    obtain ⟨h1, h2⟩ := putK_some l n v _ h
    refine ⟨by simp; omega, ?_⟩
    rw [show n + 1 + v.length = (n + v.length) + 1 by omega]; simpa using h2
theorem repK_eq (z : List V) : ∀ (n : Nat) (k : List V → R), repK z n k = k (List.replicate n z).flatten
  | 0, k => rfl
  | n + 1, k => by
    show repK z n (fun t => appK z t k) = _
    rw [repK_eq z n]; simp only [appK_eq]; rw [List.replicate_succ, List.flatten_cons]
theorem lenL_eq {α : Type} : ∀ (l : List α) (n : Nat) (k : Nat → R), lenL l n k = k (n + l.length)
  | [], n, k => rfl
  | x :: l, n, k => by show lenL l (n + 1) k = _; rw [lenL_eq l]; congr 1; simp; omega
theorem lenL_zero {α : Type} (l : List α) (k : Nat → R) : lenL l 0 k = k l.length := by rw [lenL_eq]; simp
theorem eqB_cons (x y : Nat) (l m : List Nat) : eqB (x :: l) (y :: m) = (Nat.beq x y && eqB l m) := by
  show (@Bool.rec (fun _ => (List Nat → Bool) → List Nat → Bool) (fun _ _ => false) (fun ih t => ih t) (Nat.beq x y) (eqB l) m) = _
  cases Nat.beq x y <;> rfl
theorem eqB_eq : ∀ l m : List Nat, eqB l m = (l == m)
  | [], [] => rfl
  | [], _ :: _ => rfl
  | _ :: _, [] => rfl
  | x :: l, y :: m => by
    rw [eqB_cons, eqB_eq l m, show Nat.beq x y = (x == y) from by by_cases h : x = y <;> first | (subst h; simp) | (rw [show Nat.beq x y = false from by cases e : Nat.beq x y; rfl; exact absurd (Nat.eq_of_beq_eq_true e) h]; symm; simpa using h)]
    simp
theorem ltB_cons (x y : Nat) (l m : List Nat) : ltB (x :: l) (y :: m) = if x = y then ltB l m else decide (x < y) := by
  show (@Bool.rec (fun _ => (List Nat → Bool) → List Nat → Bool) (fun _ _ => Nat.blt x y) (fun ih t => ih t) (Nat.beq x y) (ltB l) m) = _
  by_cases h : x = y
  · subst h; rw [show Nat.beq x x = true from Nat.beq_refl x, if_pos rfl]
  · rw [show Nat.beq x y = false from by cases hb : Nat.beq x y; rfl; exact absurd (Nat.eq_of_beq_eq_true hb) h, if_neg h]
    show Nat.ble (x + 1) y = _
    by_cases h2 : x < y
    · rw [decide_eq_true h2]; exact Nat.ble_eq_true_of_le h2
    · rw [decide_eq_false h2]; cases hb : Nat.ble (x + 1) y; rfl; exact absurd (Nat.le_of_ble_eq_true hb) h2
theorem u8sK_eq : ∀ (l : List Nat) (k : List V → R), u8sK l k = k (l.map (V.i .u8))
  | [], k => rfl
  | x :: l, k => u8sK_eq l _
theorem kNo_inj {k k' : IntKind} (h : Nat.beq (kNo k) (kNo k') = true) : k = k' := by
  have := Nat.eq_of_beq_eq_true h; cases k <;> cases k' <;> first | rfl | (exact absurd this (by decide))
theorem bytesK_some : ∀ (l : List V) (k : List Nat → R), bytesK l k = some out → ∃ s : List Nat, l = s.map (V.i .u8) ∧ k s = some out
  | [], k, h => ⟨[], rfl, h⟩
  | x :: l, k, h => by
    cases x <;> first | exact no h | skip
    rename_i kd n
    obtain ⟨h1, h2⟩ := gu_some h
    have e : kd = .u8 := kNo_inj h1
    subst e
    obtain ⟨s, e, h3⟩ := bytesK_some l _ h2
    exact ⟨n :: s, by simp [e], h3⟩
section values
variable {x : V}
theorem vB_some {k : Bool → R} (h : vB x k = some out) : ∃ b, x = .b b ∧ k b = some out := by cases x <;> first | exact no h | exact ⟨_, rfl, h⟩
theorem vI_some {k : IntKind → Nat → R} (h : vI x k = some out) : ∃ d n, x = .i d n ∧ k d n = some out := by cases x <;> first | exact no h | exact ⟨_, _, rfl, h⟩
theorem vW_some {k : Nat → R} (h : vW x k = some out) : ∃ n, x = .i .u64 n ∧ k n = some out := by
  obtain ⟨d, n, rfl, h1⟩ := vI_some h
  obtain ⟨h2, h3⟩ := gu_some h1
  exact ⟨n, by rw [kNo_inj (k := d) (k' := .u64) h2], h3⟩
theorem vS_some {k : List Nat → R} (h : vS x k = some out) : ∃ l, x = .s l ∧ k l = some out := by cases x <;> first | exact no h | exact ⟨_, rfl, h⟩
theorem vP_some {k : Pos → Nat → R} (h : vP x k = some out) : ∃ i o, x = .p i o ∧ k i o = some out := by cases x <;> first | exact no h | exact ⟨_, _, rfl, h⟩
theorem vPn_some {k : Pos → Nat → R} {z : R} (h : vPn x k z = some out) : (∃ i o, x = .p i o ∧ k i o = some out) ∨ x = .pn ∧ z = some out := by
  cases x <;> first | exact no h | exact .inl ⟨_, _, rfl, h⟩ | exact .inr ⟨rfl, h⟩
theorem vPc_some {k : R} (h : vPc x k = some out) : ((∃ i o, x = .p i o) ∨ ∃ i c, x = .f i c) ∧ k = some out := by
  cases x <;> first | exact no h | exact ⟨.inl ⟨_, _, rfl⟩, h⟩ | exact ⟨.inr ⟨_, _, rfl⟩, h⟩
/-- what is a slice, not nil -/
inductive IsSl : V → Pos → Nat → Nat → Prop
  | sl (id : Pos) (off len cap : Nat) : IsSl (.sl id off len cap) id off len
  | so (id : Pos) (off len cap sz : Nat) : IsSl (.so id off len cap sz) id off len
theorem vLs_some {k : Pos → Nat → Nat → R} (h : vLs x k = some out) : ∃ i o n, IsSl x i o n ∧ k i o n = some out := by
  cases x <;> first | exact no h | exact ⟨_, _, _, .sl .., h⟩ | exact ⟨_, _, _, .so .., h⟩
theorem vLz_some {z : R} {k : Pos → Nat → Nat → R} (h : vLz x z k = some out) : (x = .sn ∧ z = some out) ∨ ∃ i o n, IsSl x i o n ∧ k i o n = some out := by
  cases x <;> first | exact no h | exact .inr ⟨_, _, _, .sl .., h⟩ | exact .inr ⟨_, _, _, .so .., h⟩ | exact .inl ⟨rfl, h⟩
theorem vLm_some {k : Nat → R} (h : vLm x k = some out) : (x = .sn ∧ k 0 = some out) ∨ ∃ i o n, IsSl x i o n ∧ k n = some out := by
  cases x <;> first | exact no h | exact .inr ⟨_, _, _, .sl .., h⟩ | exact .inr ⟨_, _, _, .so .., h⟩ | exact .inl ⟨rfl, h⟩
theorem vLn_some {y z : R} (h : vLn x y z = some out) : (x = .sn ∧ z = some out) ∨ ∃ i o n, IsSl x i o n ∧ y = some out := by
  cases x <;> first | exact no h | exact .inr ⟨_, _, _, .sl .., h⟩ | exact .inr ⟨_, _, _, .so .., h⟩ | exact .inl ⟨rfl, h⟩
theorem vS4_some {z : R} {k : Pos → Nat → Nat → Nat → R} {o : Pos → Nat → Nat → Nat → Nat → R} (h : vS4 x z k o = some out) :
    (x = .sn ∧ z = some out) ∨ (∃ a b c d, x = .sl a b c d ∧ k a b c d = some out) ∨ ∃ a b c d e, x = .so a b c d e ∧ o a b c d e = some out := by
  cases x <;> first | exact no h | exact .inr (.inl ⟨_, _, _, _, rfl, h⟩) | exact .inr (.inr ⟨_, _, _, _, _, rfl, h⟩) | exact .inl ⟨rfl, h⟩
theorem vFn_some {y z : R} (h : vFn x y z = some out) : (x = .fn0 ∧ z = some out) ∨ (∃ i c, x = .f i c) ∧ y = some out := by
  cases x <;> first | exact no h | exact .inr ⟨⟨_, _, rfl⟩, h⟩ | exact .inl ⟨rfl, h⟩
theorem vA_some {k : List V → R} (h : vA x k = some out) : ∃ l, x = .ag l ∧ k l = some out := by cases x <;> first | exact no h | exact ⟨_, rfl, h⟩
theorem vT_some {k : List V → R} (h : vT x k = some out) : ∃ l, x = .tu l ∧ k l = some out := by cases x <;> first | exact no h | exact ⟨_, rfl, h⟩
theorem vF_some {k : Nat → List V → R} (h : vF x k = some out) : ∃ i c, x = .f i c ∧ k i c = some out := by cases x <;> first | exact no h | exact ⟨_, _, rfl, h⟩
theorem wantV_some {w : Bool} {y n : R} (h : wantV x w y n = some out) : (x = .b w ∧ y = some out) ∨ ((x = .u ∨ x = .b (!w)) ∧ n = some out) := by
  cases x <;> first | exact no h | exact .inr ⟨.inl rfl, h⟩ | skip
  rename_i b
  cases b <;> cases w <;> first | exact .inl ⟨rfl, h⟩ | exact .inr ⟨.inr rfl, h⟩
/-- a value of one cell -/
def V.one : V → Bool | .ag _ | .tu _ | .u | .other => false | _ => true
theorem cellsK_some {k : List V → R} (h : cellsK x k = some out) : (∃ l, x = .ag l ∧ k l = some out) ∨ x.one = true ∧ k [x] = some out := by
  cases x <;> first | exact no h | exact .inl ⟨_, rfl, h⟩ | exact .inr ⟨rfl, h⟩
theorem two_some {y : V} {f : BI} {c : V → R} (h : two x y f c = some out) : ∃ k a b, x = .i k a ∧ y = .i k b ∧ f k a b c = some out := by
  obtain ⟨k, a, rfl, h1⟩ := vI_some h
  obtain ⟨k', b, rfl, h2⟩ := vI_some h1
  obtain ⟨h3, h4⟩ := gu_some h2
  rw [kNo_inj h3] at h4 ⊢
  exact ⟨_, a, b, rfl, rfl, h4⟩
end values
end Go.AM

/- The machine's numbers (two's complement) against the model's integers. -/
namespace Go.AM
set_option linter.unusedVariables false
set_option linter.unusedSimpArgs false
/-- the integer that a number of a kind stands for -/
noncomputable def dec (k : IntKind) (n : Nat) : Int := if neg k n then (n : Int) - (M k : Int) else n
theorem M_pos (k : IntKind) : 0 < M k := by cases k <;> decide
theorem neg_iff (k : IntKind) (n : Nat) : neg k n = true ↔ sgn k = true ∧ H k ≤ n := by
  cases k <;> simp [neg, sgn, Nat.ble_eq]
theorem neg_false (k : IntKind) (n : Nat) : neg k n = false ↔ (sgn k = true → n < H k) := by
  have := neg_iff k n
  cases h : neg k n <;> simp [h] at this ⊢
  · intro h1; have := this h1; omega
  · exact this
theorem wrap_dec (k : IntKind) (z : Int) : k.wrap z = dec k (z % (M k : Int)).toNat := by
  have h0 := Int.emod_nonneg z (b := (M k : Int)) (by have := M_pos k; omega)
  have h1 := Int.emod_lt_of_pos z (b := (M k : Int)) (by have := M_pos k; omega)
  cases k <;> simp [IntKind.wrap, IntKind.bits, IntKind.signed, dec, neg, sgn, M, H, Nat.ble_eq] at h0 h1 ⊢ <;> (try split) <;> (try split) <;> omega
theorem dec_emod (k : IntKind) (n : Nat) (h : n < M k) : dec k n % (M k : Int) = n := by
  unfold dec
  split
  · rw [Int.sub_emod_right]; exact Int.emod_eq_of_lt (by omega) (by omega)
  · exact Int.emod_eq_of_lt (by omega) (by omega)
theorem dec_nat {k : IntKind} {n : Nat} (h : neg k n = false) : dec k n = n := by simp [dec, h]
theorem toNat_mod (a m : Nat) : ((a : Int) % (m : Int)).toNat = a % m := by rw [← Int.natCast_emod]; rfl
theorem mod_lt (k : IntKind) (n : Nat) : n % M k < M k := Nat.mod_lt _ (M_pos k)
/-- what an operation on integers hands back, from what it is modulo M -/
theorem wrap_of (k : IntKind) (z : Int) (n : Nat) (h : z % (M k : Int) = (n : Int) % (M k : Int)) : k.wrap z = dec k (n % M k) := by
  rw [wrap_dec, h, toNat_mod]
theorem dec_mod_eq (k : IntKind) (n : Nat) (h : n < M k) : dec k n % (M k : Int) = (n : Int) % (M k : Int) := by rw [dec_emod k n h]; exact (Int.emod_eq_of_lt (by omega) (by omega)).symm
theorem add_ok {k : IntKind} {a b : Nat} (ha : a < M k) (hb : b < M k) : k.wrap (dec k a + dec k b) = dec k ((a + b) % M k) := by
  refine wrap_of k _ _ ?_
  rw [Int.add_emod, dec_mod_eq k a ha, dec_mod_eq k b hb, ← Int.add_emod]; push_cast; rfl
theorem sub_ok {k : IntKind} {a b : Nat} (ha : a < M k) (hb : b < M k) : k.wrap (dec k a - dec k b) = dec k ((a + (M k - b)) % M k) := by
  refine wrap_of k _ _ ?_
  rw [Int.sub_emod, dec_mod_eq k a ha, dec_mod_eq k b hb, ← Int.sub_emod]
  rw [show ((a + (M k - b) : Nat) : Int) = (a : Int) - b + M k by omega, Int.add_emod_right]
theorem mul_ok {k : IntKind} {a b : Nat} (ha : a < M k) (hb : b < M k) : k.wrap (dec k a * dec k b) = dec k ((a * b) % M k) := by
  refine wrap_of k _ _ ?_
  rw [Int.mul_emod, dec_mod_eq k a ha, dec_mod_eq k b hb, ← Int.mul_emod]; push_cast; rfl
theorem neg_ok {k : IntKind} {a : Nat} (ha : a < M k) : k.wrap (0 - dec k a) = dec k ((M k - a) % M k) := by
  refine wrap_of k _ _ ?_
  rw [Int.sub_emod, dec_mod_eq k a ha, ← Int.sub_emod]
  rw [show ((M k - a : Nat) : Int) = 0 - (a : Int) + M k by omega, Int.add_emod_right]
theorem wrap_self {k : IntKind} {n : Nat} (h : n < M k) : k.wrap (dec k n) = dec k n := by
  rw [wrap_of k _ n (dec_mod_eq k n h), Nat.mod_eq_of_lt h]
theorem M_sgn (k : IntKind) (h : sgn k = true) : M k = 2 * H k := by cases k <;> first | rfl | exact absurd h (by decide)
theorem dec_abs {k : IntKind} {a : Nat} (ha : a < M k) (h : neg k a = true) : dec k a = -((M k - a : Nat) : Int) := by
  simp only [dec, h, if_true]; omega
theorem quo_ok {k : IntKind} {a b : Nat} (ha : a < M k) (hb : b < M k) (h0 : 0 < b) : k.wrap ((dec k a).tdiv (dec k b)) = dec k (quoI k a b) ∧ quoI k a b < M k := by
  unfold quoI
  cases hna : neg k a <;> cases hnb : neg k b
  · refine ⟨?_, Nat.lt_of_le_of_lt (Nat.div_le_self a b) ha⟩
    show _ = dec k (a / b)
    rw [dec_nat hna, dec_nat hnb, ← Int.ofNat_tdiv, wrap_of k _ (a / b) rfl, Nat.mod_eq_of_lt (Nat.lt_of_le_of_lt (Nat.div_le_self a b) ha)]
  · refine ⟨?_, mod_lt k _⟩
    show _ = dec k ((M k - a / (M k - b)) % M k)
    rw [dec_nat hna, dec_abs hb hnb, Int.tdiv_neg, ← Int.ofNat_tdiv]
    refine wrap_of k _ _ ?_
    have : a / (M k - b) ≤ M k := Nat.le_trans (Nat.div_le_self _ _) (by omega)
    rw [show ((M k - a / (M k - b) : Nat) : Int) = -((a / (M k - b) : Nat) : Int) + M k by omega, Int.add_emod_right]
  · refine ⟨?_, mod_lt k _⟩
    show _ = dec k ((M k - (M k - a) / b) % M k)
    rw [dec_nat hnb, dec_abs ha hna, Int.neg_tdiv, ← Int.ofNat_tdiv]
    refine wrap_of k _ _ ?_
    have : (M k - a) / b ≤ M k := Nat.le_trans (Nat.div_le_self _ _) (by omega)
    rw [show ((M k - (M k - a) / b : Nat) : Int) = -(((M k - a) / b : Nat) : Int) + M k by omega, Int.add_emod_right]
  · refine ⟨?_, mod_lt k _⟩
    show _ = dec k (((M k - a) / (M k - b)) % M k)
    rw [dec_abs ha hna, dec_abs hb hnb, Int.neg_tdiv_neg, ← Int.ofNat_tdiv]
    exact wrap_of k _ _ rfl
theorem rem_ok {k : IntKind} {a b : Nat} (ha : a < M k) (hb : b < M k) (h0 : 0 < b) : (dec k a).tmod (dec k b) = dec k (remI k a b) ∧ remI k a b < M k := by
  unfold remI
  have small : ∀ x : Nat, x < M k → neg k x = false → ∀ y, y ≤ x → dec k y = y ∧ y < M k := fun x hx hn y hy =>
    ⟨dec_nat ((neg_false k y).2 fun hs => by have := (neg_false k x).1 hn hs; omega), by omega⟩
  have large : ∀ x : Nat, x < M k → neg k x = true → ∀ y, y ≤ M k - x → dec k ((M k - y) % M k) = -(y : Int) := fun x hx hn y hy => by
    obtain ⟨hs, hh⟩ := (neg_iff k x).1 hn
    have hM := M_sgn k hs
    by_cases hy0 : y = 0
    · subst hy0; rw [Nat.sub_zero, Nat.mod_self]; exact dec_nat ((neg_false k 0).2 fun _ => by have := M_pos k; omega)
    · rw [Nat.mod_eq_of_lt (by omega), dec_abs (by omega) ((neg_iff k _).2 ⟨hs, by omega⟩)]; omega
  cases hna : neg k a <;> cases hnb : neg k b
  · show _ = dec k (a % b) ∧ a % b < M k
    obtain ⟨h1, h2⟩ := small a ha hna (a % b) (Nat.mod_le _ _)
    rw [h1, dec_nat hna, dec_nat hnb, ← Int.ofNat_tmod]; exact ⟨rfl, h2⟩
  · show _ = dec k (a % (M k - b)) ∧ a % (M k - b) < M k
    obtain ⟨h1, h2⟩ := small a ha hna (a % (M k - b)) (Nat.mod_le _ _)
    rw [h1, dec_nat hna, dec_abs hb hnb, Int.tmod_neg, ← Int.ofNat_tmod]; exact ⟨rfl, h2⟩
  · show _ = dec k ((M k - (M k - a) % b) % M k) ∧ _
    refine ⟨?_, mod_lt k _⟩
    rw [large a ha hna _ (Nat.mod_le _ _), dec_abs ha hna, dec_nat hnb, Int.neg_tmod, ← Int.ofNat_tmod]
  · show _ = dec k ((M k - (M k - a) % (M k - b)) % M k) ∧ _
    refine ⟨?_, mod_lt k _⟩
    rw [large a ha hna _ (Nat.mod_le _ _), dec_abs ha hna, dec_abs hb hnb, Int.tmod_neg, Int.neg_tmod, ← Int.ofNat_tmod]
theorem ofInt_dec (k : IntKind) (a : Nat) : BitVec.ofInt k.bits (dec k a) = BitVec.ofNat k.bits a := by
  unfold dec
  split
  · apply BitVec.eq_of_toNat_eq
    rw [BitVec.toNat_ofInt, BitVec.toNat_ofNat]
    have hM : (M k : Int) = ((2 ^ k.bits : Nat) : Int) := by cases k <;> rfl
    rw [hM, Int.sub_emod_right]
    exact toNat_mod a _
  · exact BitVec.ofInt_natCast _ _
theorem M_bits (k : IntKind) : M k = 2 ^ k.bits := by cases k <;> rfl
theorem bit_ok {k : IntKind} {c : Nat} (r : BitVec k.bits) (h : r.toNat = c) : k.wrap r.toNat = dec k c ∧ c < M k := by
  have hl : c < M k := by rw [← h, M_bits]; exact r.isLt
  refine ⟨?_, hl⟩
  rw [wrap_of k _ c (by rw [h]), Nat.mod_eq_of_lt hl]
theorem ofNat_toNat {k : IntKind} {a : Nat} (h : a < M k) : (BitVec.ofNat k.bits a).toNat = a := by
  rw [BitVec.toNat_ofNat, ← M_bits]; exact Nat.mod_eq_of_lt h
theorem sh_eq {k : IntKind} {a : Nat} (ha : a < M k) : (sh k a : Int) = dec k a + H k := by
  unfold dec
  have hs := neg_iff k a
  cases hn : neg k a
  · have h1 := (neg_false k a).1 hn
    have : a + H k < M k := by
      cases hg : sgn k
      · have : H k = 0 := by cases k <;> first | rfl | exact absurd hg (by decide)
        omega
      · have := M_sgn k hg; have := h1 hg; omega
    show (((a + H k) % M k : Nat) : Int) = _
    rw [Nat.mod_eq_of_lt this]; simp
  · obtain ⟨h1, h2⟩ := hs.1 hn
    have := M_sgn k h1
    show (((a + H k) % M k : Nat) : Int) = _
    rw [show a + H k = (a - H k) + M k by omega, Nat.add_mod_right, Nat.mod_eq_of_lt (by omega)]
    simp; omega
theorem blt_sh {k : IntKind} {a b : Nat} (ha : a < M k) (hb : b < M k) : Nat.blt (sh k a) (sh k b) = decide (dec k a < dec k b) := by
  have h1 := sh_eq ha; have h2 := sh_eq hb
  show Nat.ble (sh k a + 1) (sh k b) = _
  by_cases h : dec k a < dec k b
  · rw [decide_eq_true h]; exact Nat.ble_eq_true_of_le (by omega)
  · rw [decide_eq_false h]; cases e : Nat.ble (sh k a + 1) (sh k b); rfl; have := Nat.le_of_ble_eq_true e; omega
theorem ble_sh {k : IntKind} {a b : Nat} (ha : a < M k) (hb : b < M k) : Nat.ble (sh k a) (sh k b) = decide (dec k a ≤ dec k b) := by
  have h1 := sh_eq ha; have h2 := sh_eq hb
  by_cases h : dec k a ≤ dec k b
  · rw [decide_eq_true h]; exact Nat.ble_eq_true_of_le (by omega)
  · rw [decide_eq_false h]; cases e : Nat.ble (sh k a) (sh k b); rfl; have := Nat.le_of_ble_eq_true e; omega
theorem dec_inj {k : IntKind} {a b : Nat} (ha : a < M k) (hb : b < M k) (h : dec k a = dec k b) : a = b := by
  have := congrArg (· % (M k : Int)) h
  simp only [dec_emod k a ha, dec_emod k b hb] at this
  omega
theorem beq_dec {k : IntKind} {a b : Nat} (ha : a < M k) (hb : b < M k) : Nat.beq a b = (dec k a == dec k b) := by
  by_cases h : a = b
  · subst h; rw [Nat.beq_refl]; simp
  · rw [show Nat.beq a b = false from by cases e : Nat.beq a b; rfl; exact absurd (Nat.eq_of_beq_eq_true e) h]
    symm; simp; exact fun e => h (dec_inj ha hb e)
theorem cv_ok {k0 k : IntKind} {n : Nat} (hn : n < M k0) : k.wrap (dec k0 n) = dec k (cvI k0 k n) ∧ cvI k0 k n < M k := by
  unfold cvI
  cases h : neg k0 n
  · refine ⟨?_, mod_lt k _⟩
    rw [dec_nat h]; exact wrap_of k _ _ rfl
  · refine ⟨?_, mod_lt k _⟩
    have : k.wrap (dec k0 n) = dec k ((n + M k * 18446744073709551616 - M k0) % M k) := by
      refine wrap_of k _ _ ?_
      simp only [dec, h, if_true]
      have h1 : M k0 ≤ 18446744073709551616 := by cases k0 <;> decide
      have h2 : M k0 ≤ M k * 18446744073709551616 := Nat.le_trans h1 (Nat.le_mul_of_pos_left _ (M_pos k))
      generalize 18446744073709551616 = c at h2
      rw [show ((n + M k * c - M k0 : Nat) : Int) = (n : Int) - M k0 + (M k : Int) * c by rw [Int.ofNat_sub (by omega)]; push_cast; omega]
      rw [Int.add_mul_emod_self_left]
    exact this
end Go.AM

/- The machine's values and memory against the model's: a naming (of some) of the machine's blocks by places of the model's heap. -/
namespace Go.AM
set_option linter.unusedVariables false
set_option linter.unusedSimpArgs false
/-- where a block of the machine lies: a block of the model, the first cell there, and that block's size -/
structure Loc where
  b : Nat
  d : Nat
  sz : Nat
  /-- never written: the memory of arguments -/
  ro : Bool
abbrev Ren := Pos → Option Loc
mutual
inductive VR (ρ : Ren) : V → Value → Prop
  | other (u : Value) : VR ρ .other u
  | u : VR ρ .u undef
  | b (x : Bool) : VR ρ (.b x) (.bool x)
  | i (k : IntKind) (n : Nat) (z : Int) : n < M k → z = dec k n → VR ρ (.i k n) (.int k z)
  | s (l : List Nat) (t : ByteArray) : t.data.toList.map UInt8.toNat = l → VR ρ (.s l) (.string t)
  | p (id : Pos) (off o : Nat) (L : Loc) : ρ id = some L → L.d ≤ L.sz → o = L.d + off → VR ρ (.p id off) (.pointer (some ⟨L.b, o, none⟩))
  | pn : VR ρ .pn (.pointer none)
  | sl (id : Pos) (off len cap : Nat) (a : Addr) (L : Loc) : ρ id = some L → L.d ≤ L.sz → len ≤ cap → (0 < cap → a = ⟨L.b, L.d + off, none⟩) → VR ρ (.sl id off len cap) (.slice (some a) len cap)
  | so (id : Pos) (off len cap sz o c : Nat) (L : Loc) : ρ id = some L → L.d ≤ L.sz → len ≤ cap → cap ≤ c → o + c * sz ≤ L.sz → (0 < cap → o = L.d + off) → VR ρ (.so id off len cap sz) (.slice (some ⟨L.b, o, none⟩) len c)
  | sn : VR ρ .sn (.slice none 0 0)
  | ag (l : List V) (cs : Array Value) : (∀ v ∈ l, v.one = true) → VRs ρ l cs.toList → VR ρ (.ag l) (.agg cs)
  | tu (l : List V) (cs : Array Value) : VRs ρ l cs.toList → VR ρ (.tu l) (.tuple cs)
  | f (id : Nat) (cs : List V) (us : Array Value) : VRs ρ cs us.toList → VR ρ (.f id cs) (.func (.func id) #[] us)
  | fn0 : VR ρ .fn0 .nilFunc
  | m (id : Pos) (L : Loc) : ρ id = some L → L.sz < L.d → VR ρ (.m id) (.map (some L.b))
  | mn : VR ρ .mn (.map none)
inductive VRs (ρ : Ren) : List V → List Value → Prop
  | nil : VRs ρ [] []
  | cons (v : V) (u : Value) (l : List V) (m : List Value) : VR ρ v u → VRs ρ l m → VRs ρ (v :: l) (u :: m)
end
section
variable {ρ ρ' : Ren}
mutual
theorem VR.mono (h : ∀ id L, ρ id = some L → ρ' id = some L) : ∀ {v : V} {u : Value}, VR ρ v u → VR ρ' v u
  | _, _, .other u => .other u
  | _, _, .u => .u
  | _, _, .b x => .b x
  | _, _, .i k n z a b => .i k n z a b
  | _, _, .s l t a => .s l t a
  | _, _, .p id off o L a x b => .p id off o L (h _ _ a) x b
  | _, _, .pn => .pn
  | _, _, .sl id off len cap o L a x b c => .sl id off len cap o L (h _ _ a) x b c
  | _, _, .so id off len cap sz o c L a x b d e f => .so id off len cap sz o c L (h _ _ a) x b d e f
  | _, _, .sn => .sn
  | _, _, .ag l cs b a => .ag l cs b (VRs.mono h a)
  | _, _, .tu l cs a => .tu l cs (VRs.mono h a)
  | _, _, .f id cs us a => .f id cs us (VRs.mono h a)
  | _, _, .fn0 => .fn0
  | _, _, .m id L a b => .m id L (h _ _ a) b
  | _, _, .mn => .mn
theorem VRs.mono (h : ∀ id L, ρ id = some L → ρ' id = some L) : ∀ {l : List V} {m : List Value}, VRs ρ l m → VRs ρ' l m
  | _, _, .nil => .nil
  | _, _, .cons v u l m a b => .cons v u l m (VR.mono h a) (VRs.mono h b)
end
theorem VRs.length : ∀ {l : List V} {m : List Value}, VRs ρ l m → l.length = m.length
  | _, _, .nil => rfl
  | _, _, .cons v u l m a b => by simp [VRs.length b]
theorem VRs.get : ∀ {l : List V} {m : List Value}, VRs ρ l m → ∀ {i : Nat} {v : V}, l[i]? = some v → ∃ u, m[i]? = some u ∧ VR ρ v u
  | _, _, .nil, i, v, h => by simp at h
  | _, _, .cons w u l m a b, 0, v, h => by simp at h; subst h; exact ⟨u, rfl, a⟩
  | _, _, .cons w u l m a b, i + 1, v, h => by simp at h; obtain ⟨u', h1, h2⟩ := VRs.get b h; exact ⟨u', by simpa using h1, h2⟩
theorem VRs.of_get : ∀ {l : List V} {m : List Value}, l.length = m.length → (∀ (i : Nat) (v : V) (u : Value), l[i]? = some v → m[i]? = some u → VR ρ v u) → VRs ρ l m
  | [], [], _, _ => .nil
  | v :: l, u :: m, e, h => .cons v u l m (h 0 v u rfl rfl) (VRs.of_get (by simpa using e) fun i v u h1 h2 => h (i + 1) v u (by simpa using h1) (by simpa using h2))
  | [], _ :: _, e, _ => by simp at e
  | _ :: _, [], e, _ => by simp at e
theorem VRs.append : ∀ {l : List V} {m : List Value} {l' : List V} {m' : List Value}, VRs ρ l m → VRs ρ l' m' → VRs ρ (l ++ l') (m ++ m')
  | _, _, _, _, .nil, h => h
  | _, _, _, _, .cons v u l m a b, h => .cons _ _ _ _ a (VRs.append b h)
theorem VRs.take : ∀ {l : List V} {m : List Value} (n : Nat), VRs ρ l m → VRs ρ (l.take n) (m.take n)
  | _, _, 0, _ => by simpa using VRs.nil
  | _, _, n + 1, .nil => by simpa using VRs.nil
  | _, _, n + 1, .cons v u l m a b => .cons _ _ _ _ a (VRs.take n b)
theorem VRs.drop : ∀ {l : List V} {m : List Value} (n : Nat), VRs ρ l m → VRs ρ (l.drop n) (m.drop n)
  | _, _, 0, h => h
  | _, _, n + 1, .nil => by simpa using VRs.nil
  | _, _, n + 1, .cons v u l m a b => VRs.drop n b
theorem VR.one {v : V} {u : Value} (h : VR ρ v u) (h1 : v.one = true) : u.oneCell' = true ∧ u.cells = #[u] := by
  cases h <;> first | exact ⟨rfl, rfl⟩ | (simp [V.one] at h1)
theorem VRs.one : ∀ {l : List V} {m : List Value}, VRs ρ l m → (∀ v ∈ l, v.one = true) → ∀ u ∈ m, u.oneCell' = true
  | _, _, .nil, _, u, hu => by simp at hu
  | _, _, .cons v w l m a b, h, u, hu => by
    rcases List.mem_cons.1 hu with rfl | hu
    · exact (a.one (h v (by simp))).1
    · exact VRs.one b (fun v hv => h v (by simp [hv])) u hu
end
/-- no cell of the block is frozen -/
def Thaw (n : Nat) (fr : Nat × Nat) : Prop := ∀ i, i < n → ¬ (fr.1 ≤ i ∧ i < fr.2)
/-- a map's entries -/
inductive Ent (ρ : Ren) : List V → List MapEntry → Prop
  | nil : Ent ρ [] []
  | cons (k v : V) (e : MapEntry) (cs : List V) (es : List MapEntry) : VR ρ k e.key → VR ρ v e.val → Ent ρ cs es → Ent ρ (.tu [k, v] :: cs) (e :: es)
theorem Ent.mono {ρ ρ' : Ren} (h : ∀ id L, ρ id = some L → ρ' id = some L) : ∀ {cs : List V} {es : List MapEntry}, Ent ρ cs es → Ent ρ' cs es
  | _, _, .nil => .nil
  | _, _, .cons k v e cs es a b c => .cons k v e cs es (a.mono h) (b.mono h) (Ent.mono h c)
def HC (ρ : Ren) (L : Loc) (cs : List V) (w : World) : Prop :=
  ∃ c e fr, w.heap[L.b]? = some (.cells c e fr) ∧ c.size = L.sz ∧ (L.ro = false → Thaw c.size fr) ∧ L.d + cs.length ≤ L.sz ∧ ∀ (i : Nat) (v : V), cs[i]? = some v → ∃ u, c[L.d + i]? = some u ∧ VR ρ v u ∧ v.one = true
/-- a block of the machine in the model's heap: cells, or a map -/
def HB (ρ : Ren) (L : Loc) (cs : List V) (w : World) : Prop :=
  HC ρ L cs w ∨ (L.sz < L.d ∧ ∃ es clock, w.heap[L.b]? = some (.map es clock) ∧ Ent ρ cs es.toList)
theorem HB.c {ρ : Ren} {L : Loc} {cs : List V} {w : World} (h : HB ρ L cs w) (hk : L.d ≤ L.sz) : HC ρ L cs w := by
  rcases h with h | ⟨h, _⟩
  · exact h
  · omega
theorem HB.mp {ρ : Ren} {L : Loc} {cs : List V} {w : World} (h : HB ρ L cs w) (hk : L.sz < L.d) : ∃ es clock, w.heap[L.b]? = some (.map es clock) ∧ Ent ρ cs es.toList := by
  rcases h with ⟨c, e, fr, h1, h2, h3, h4, h5⟩ | ⟨_, h⟩
  · omega
  · exact h
theorem HB.mono {ρ ρ' : Ren} {L : Loc} {cs : List V} {w w' : World} (h : HB ρ L cs w) (hm : ∀ id L, ρ id = some L → ρ' id = some L) (hw : w'.heap[L.b]? = w.heap[L.b]?) : HB ρ' L cs w' := by
  rcases h with ⟨c, e, fr, h1, h2, h3, h4, h5⟩ | ⟨h1, es, k, h2, h3⟩
  · refine .inl ⟨c, e, fr, hw.trans h1, h2, h3, h4, fun i v hv => ?_⟩
    obtain ⟨u, a1, a2, a3⟩ := h5 i v hv
    exact ⟨u, a1, a2.mono hm, a3⟩
  · exact .inr ⟨h1, es, k, hw.trans h2, h3.mono hm⟩
structure HRel (ρ : Ren) (S : St) (w : World) : Prop where
  cells : ∀ id L blk, ρ id = some L → S.h.get id = some blk → blk.born ≠ 0 → HB ρ L blk.cs w
  inj : ∀ id id' L L' blk blk', ρ id = some L → ρ id' = some L' → S.h.get id = some blk → S.h.get id' = some blk' → blk.born ≠ 0 → blk'.born ≠ 0 → L.b = L'.b → (L.ro && L'.ro) = false → id = id'
  ro : ∀ id L, ρ id = some L → L.ro = true → id.num < S.fl
theorem HB.lt {ρ : Ren} {L : Loc} {cs : List V} {w : World} (h : HB ρ L cs w) : L.b < w.heap.size := by
  rcases h with ⟨c, e, fr, h1, _⟩ | ⟨_, es, k, h1, _⟩
  · exact (Array.getElem?_eq_some_iff.1 h1).1
  · exact (Array.getElem?_eq_some_iff.1 h1).1
theorem HRel.at_ {ρ : Ren} {S : St} {w : World} (h : HRel ρ S w) {id : Pos} {L : Loc} {blk : Blk} (hL : ρ id = some L) (hb : S.h.get id = some blk) (h0 : blk.born ≠ 0) : L.b < w.heap.size := (h.cells id L blk hL hb h0).lt
structure SOK (S : St) : Prop where
  nx : S.nx.num = S.cnt
  fl : 1 ≤ S.fl
  le : S.fl ≤ S.cnt
  blk : ∀ id b, S.h.get id = some b → id.num < S.cnt ∧ (b.born = id.num ∨ b.born = 0 ∧ b.cs = [])
/-- what an operation does to the machine's memory -/
structure Abs (fl : Nat) (S S' : St) : Prop where
  cnt : S.cnt ≤ S'.cnt
  fl_ : S'.fl = S.fl
  ok : SOK S → SOK S'
  old : ∀ id : Pos, id.num < fl → S'.h.get id = S.h.get id
/-- what it does to the model's -/
structure Post (ρ : Ren) (fl : Nat) (S S' : St) (w w' : World) (ρ' : Ren) : Prop where
  ext : ∀ id : Pos, id.num < S.cnt ∨ S'.cnt ≤ id.num → ρ' id = ρ id
  heap : HRel ρ' S' w'
  os : w'.os = w.os
  tape : w'.tape = w.tape
  output : w'.output = w.output
  size : w.heap.size ≤ w'.heap.size
  frame : ∀ k, k < w.heap.size → (∀ id L, ρ id = some L → fl ≤ id.num → id.num < S.cnt → L.b ≠ k) → w'.heap[k]? = w.heap[k]?
  new : ∀ id L, S.cnt ≤ id.num → id.num < S'.cnt → ρ' id = some L → w.heap.size ≤ L.b ∨ ∃ id0 L0, ρ id0 = some L0 ∧ fl ≤ id0.num ∧ id0.num < S.cnt ∧ L0.b = L.b
def Fresh (ρ : Ren) (a b : Nat) : Prop := ∀ id : Pos, a ≤ id.num → id.num < b → ρ id = none
section
variable {ρ ρ1 ρ2 : Ren} {fl : Nat} {S S1 S2 : St} {w w1 w2 : World}
theorem Abs.refl (fl : Nat) (S : St) : Abs fl S S := ⟨Nat.le_refl _, rfl, id, fun _ _ => rfl⟩
theorem Abs.trans (h : Abs fl S S1) (k : Abs fl S1 S2) : Abs fl S S2 := ⟨Nat.le_trans h.cnt k.cnt, k.fl_.trans h.fl_, k.ok ∘ h.ok, fun id hi => (k.old id hi).trans (h.old id hi)⟩
theorem Abs.mono {fl' : Nat} (h : Abs fl S S1) (hf : fl' ≤ fl) : Abs fl' S S1 := ⟨h.cnt, h.fl_, h.ok, fun id hi => h.old id (Nat.lt_of_lt_of_le hi hf)⟩
theorem Fresh.left (h : Fresh ρ S.cnt S2.cnt) (h2 : S1.cnt ≤ S2.cnt) : Fresh ρ S.cnt S1.cnt := fun id a b => h id a (by omega)
theorem Fresh.right (h : Fresh ρ S.cnt S2.cnt) (h1 : S.cnt ≤ S1.cnt) (p : Post ρ fl S S1 w w1 ρ1) : Fresh ρ1 S1.cnt S2.cnt := fun id a b => by rw [p.ext id (.inr a)]; exact h id (by omega) b
theorem Post.refl (h : HRel ρ S w) : Post ρ fl S S w w ρ := ⟨fun _ _ => rfl, h, rfl, rfl, rfl, Nat.le_refl _, fun _ _ _ => rfl, fun id L a b _ => by omega⟩
theorem Post.mono (p : Post ρ fl S S1 w w1 ρ1) (f : Fresh ρ S.cnt S1.cnt) : ∀ id L, ρ id = some L → ρ1 id = some L := fun id L h => by
  rcases Nat.lt_or_ge id.num S.cnt with h1 | h1
  · rw [p.ext id (.inl h1)]; exact h
  · rcases Nat.lt_or_ge id.num S1.cnt with h2 | h2
    · rw [f id h1 h2] at h; cases h
    · rw [p.ext id (.inr h2)]; exact h
theorem Post.trans (h1 : S.cnt ≤ S1.cnt) (h2 : S1.cnt ≤ S2.cnt) (p : Post ρ fl S S1 w w1 ρ1) (q : Post ρ1 fl S1 S2 w1 w2 ρ2) : Post ρ fl S S2 w w2 ρ2 where
  ext id h := by
    rw [q.ext id (by omega), p.ext id (by omega)]
  heap := q.heap
  os := q.os.trans p.os
  tape := q.tape.trans p.tape
  output := q.output.trans p.output
  size := Nat.le_trans p.size q.size
  frame k hk h := by
    rw [q.frame k (Nat.lt_of_lt_of_le hk p.size) ?_, p.frame k hk h]
    intro id L hL hf hc
    rcases Nat.lt_or_ge id.num S.cnt with hn | hn
    · rw [p.ext id (.inl hn)] at hL; exact h id L hL hf hn
    · rcases p.new id L hn hc hL with h3 | ⟨id0, L0, a, b, c, d⟩
      · omega
      · rw [← d]; exact h id0 L0 a b c
  new id L a b hL := by
    have step : ∀ id L, S.cnt ≤ id.num → id.num < S1.cnt → ρ1 id = some L → w.heap.size ≤ L.b ∨ ∃ id0 L0, ρ id0 = some L0 ∧ fl ≤ id0.num ∧ id0.num < S.cnt ∧ L0.b = L.b := p.new
    rcases Nat.lt_or_ge id.num S1.cnt with hn | hn
    · rw [q.ext id (.inl hn)] at hL; exact p.new id L a hn hL
    · rcases q.new id L hn b hL with h3 | ⟨id0, L0, a0, b0, c0, d0⟩
      · exact .inl (Nat.le_trans p.size h3)
      · rcases Nat.lt_or_ge id0.num S.cnt with hm | hm
        · rw [p.ext id0 (.inl hm)] at a0; exact .inr ⟨id0, L0, a0, b0, hm, d0⟩
        · rcases p.new id0 L0 hm c0 a0 with h4 | ⟨i1, L1, a1, b1, c1, d1⟩
          · exact .inl (by omega)
          · exact .inr ⟨i1, L1, a1, b1, c1, d1.trans d0⟩
/-- what holds at a floor holds at a lower one -/
theorem Post.lower {fl' : Nat} (p : Post ρ fl S S1 w w1 ρ1) (h : fl' ≤ fl) : Post ρ fl' S S1 w w1 ρ1 :=
  ⟨p.ext, p.heap, p.os, p.tape, p.output, p.size, fun k hk hh => p.frame k hk fun id L a b c => hh id L a (by omega) c,
    fun id L a b c => (p.new id L a b c).imp (fun x => x) fun ⟨i0, L0, x, y, z, t⟩ => ⟨i0, L0, x, by omega, z, t⟩⟩
end
end Go.AM

/- The machine's memory: a new block, a load, a store, and the append in place, against the model's heap. -/
namespace Go.AM
set_option linter.unusedVariables false
set_option linter.unusedSimpArgs false
variable {out : V × St} {ρ : Ren} {fl : Nat} {S : St} {w w' : World} {id : Pos} {L : Loc} {P : Program}
def St.new (S : St) (cs : List V) : St := ⟨S.h.set S.nx ⟨S.cnt, cs⟩, S.nx.succ, S.cnt + 1, S.fl⟩
def St.upd (S : St) (id : Pos) (b : Blk) : St := ⟨S.h.set id b, S.nx, S.cnt, S.fl⟩
theorem newK_eq (cs : List V) (S : St) (k : Pos → St → R) : newK cs S k = k S.nx (S.new cs) := by
  show setBK S.nx (.mk S.cnt cs) S.h _ = _
  rw [setBK_eq, succK_eq]; rfl
theorem cellsAt_some {k : List V → R} (h : cellsAt id S k = some out) : ∃ b, S.h.get id = some b ∧ k b.cs = some out := getBK_some id S.h _ h
theorem updK_some {off : Nat} {vs : List V} {k : St → R} (h : updK id S off vs k = some out) :
    ∃ b, S.h.get id = some b ∧ S.fl ≤ b.born ∧ off + vs.length ≤ b.cs.length ∧ k (S.upd id ⟨b.born, b.cs.take off ++ vs ++ b.cs.drop (off + vs.length)⟩) = some out := by
  obtain ⟨b, hb, h1⟩ := getBK_some id S.h _ h
  obtain ⟨h2, h3⟩ := gu_some h1
  obtain ⟨h4, h5⟩ := putK_some _ _ _ _ h3
  rw [setBK_eq] at h5
  exact ⟨b, hb, Nat.le_of_ble_eq_true h2, h4, h5⟩
theorem killK_some {k : St → R} (h : killK id S k = some out) : ∃ b, S.h.get id = some b ∧ S.fl ≤ b.born ∧ k (S.upd id ⟨0, []⟩) = some out := by
  obtain ⟨b, hb, h1⟩ := getBK_some id S.h _ h
  obtain ⟨h2, h3⟩ := gu_some h1
  rw [setBK_eq] at h3
  exact ⟨b, hb, Nat.le_of_ble_eq_true h2, h3⟩
theorem elems_some {sz off n : Nat} {k : List V → R} (h : elems sz id off n S k = some out) :
    ∃ b, S.h.get id = some b ∧ off + n * sz ≤ b.cs.length ∧ k ((b.cs.drop off).take (n * sz)) = some out := by
  obtain ⟨b, hb, h1⟩ := cellsAt_some h
  obtain ⟨h2, h3⟩ := dropK_some _ _ _ h1
  obtain ⟨h4, h5⟩ := takeK_some _ _ _ h3
  refine ⟨b, hb, ?_, h5⟩
  have : Nat.mul n sz = n * sz := rfl
  rw [this, List.length_drop] at h4; omega
noncomputable def Ren.up (ρ : Ren) (id : Pos) (L : Loc) : Ren := fun i => if i.num = id.num then some L else ρ i
theorem Ren.up_same (ρ : Ren) (id : Pos) (L : Loc) : ρ.up id L id = some L := by simp [Ren.up]
theorem Ren.up_ne (ρ : Ren) (L : Loc) {id i : Pos} (h : i.num ≠ id.num) : ρ.up id L i = ρ i := by simp [Ren.up, h]
theorem Ren.up_some {i : Pos} {L' : Loc} (h : ρ.up id L i = some L') : i = id ∧ L' = L ∨ i.num ≠ id.num ∧ ρ i = some L' := by
  unfold Ren.up at h
  split at h
  · exact .inl ⟨Pos.num_inj _ _ ‹_›, (Option.some.inj h).symm⟩
  · exact .inr ⟨‹_›, h⟩
theorem Ren.up_mono (hn : ρ id = none) : ∀ i L', ρ i = some L' → ρ.up id L i = some L' := fun i L' h => by
  rw [Ren.up_ne]; exact h
  intro e; rw [Pos.num_inj _ _ e, hn] at h; cases h
theorem St.new_get (S : St) (cs : List V) : (S.new cs).h.get S.nx = some ⟨S.cnt, cs⟩ := Tr.get_set _ _ _
theorem St.new_get_ne {i : Pos} (cs : List V) (h : i ≠ S.nx) : (S.new cs).h.get i = S.h.get i := Tr.get_set_ne _ _ _ _ (Ne.symm h)
theorem St.upd_get (S : St) (b : Blk) : (S.upd id b).h.get id = some b := Tr.get_set _ _ _
theorem St.upd_get_ne {i : Pos} (b : Blk) (h : i ≠ id) : (S.upd id b).h.get i = S.h.get i := Tr.get_set_ne _ _ _ _ (Ne.symm h)
theorem SOK.new (ok : SOK S) (cs : List V) : SOK (S.new cs) where
  nx := by show S.nx.succ.num = S.cnt + 1; rw [Pos.num_succ, ok.nx]
  fl := ok.fl
  le := Nat.le_succ_of_le ok.le
  blk i b h := by
    by_cases hi : i = S.nx
    · subst hi; rw [St.new_get] at h; cases h; exact ⟨by show S.nx.num < S.cnt + 1; rw [ok.nx]; omega, .inl ok.nx.symm⟩
    · rw [St.new_get_ne cs hi] at h; obtain ⟨h1, h2⟩ := ok.blk i b h; exact ⟨Nat.lt_succ_of_lt h1, h2⟩
theorem SOK.upd (ok : SOK S) {b b' : Blk} (hb : S.h.get id = some b) (hb' : b'.born = b.born ∧ b.born ≠ 0 ∨ b'.born = 0 ∧ b'.cs = []) : SOK (S.upd id b') where
  nx := ok.nx
  fl := ok.fl
  le := ok.le
  blk i x h := by
    by_cases hi : i = id
    · subst hi; rw [St.upd_get] at h; cases h
      obtain ⟨h1, h2⟩ := ok.blk _ _ hb
      refine ⟨h1, ?_⟩
      rcases hb' with ⟨h3, h4⟩ | h3
      · rcases h2 with h2 | ⟨h2, _⟩
        · exact .inl (h3.trans h2)
        · exact absurd h2 h4
      · exact .inr h3
    · rw [St.upd_get_ne b' hi] at h; exact ok.blk i x h
theorem SOK.ne_nx (ok : SOK S) {i : Pos} {b : Blk} (h : S.h.get i = some b) : i ≠ S.nx := fun e => by
  have := (ok.blk i b h).1; rw [e, ok.nx] at this; omega
theorem SOK.born (ok : SOK S) {b : Blk} (h : S.h.get id = some b) (hf : S.fl ≤ b.born) : b.born = id.num ∧ b.born ≠ 0 ∧ S.fl ≤ id.num ∧ id.num < S.cnt := by
  have h1 := ok.fl
  obtain ⟨h2, h3⟩ := ok.blk id b h
  rcases h3 with h3 | ⟨h3, _⟩ <;> omega
theorem Abs.new (hf : fl ≤ S.cnt) (cs : List V) (ok : SOK S) : Abs fl S (S.new cs) :=
  ⟨Nat.le_succ _, rfl, fun ok => ok.new cs, fun i hi => St.new_get_ne cs fun e => by rw [e, ok.nx] at hi; omega⟩
theorem Abs.upd (ok : SOK S) {b b' : Blk} (hb : S.h.get id = some b) (hf : S.fl ≤ b.born) (hb' : b'.born = b.born ∨ b'.born = 0 ∧ b'.cs = []) : Abs S.fl S (S.upd id b') :=
  ⟨Nat.le_refl _, rfl, fun ok => ok.upd hb (hb'.imp (fun h => ⟨h, (ok.born hb hf).2.1⟩) fun h => h), fun i hi => St.upd_get_ne b' fun e => by
    have := (ok.born hb hf).2.2.1; rw [e] at hi; omega⟩
/-- A new block. -/
theorem new_post (ok : SOK S) (h : HRel ρ S w) (hn : ρ S.nx = none) {c : Array Value} {e : TypeId} {fr : Nat × Nat} {cs : List V}
    (hh : w'.heap = w.heap.push (.cells c e fr)) (hos : w'.os = w.os) (htp : w'.tape = w.tape) (hou : w'.output = w.output) (hfr : Thaw c.size fr) (hl : cs.length ≤ c.size)
    (hc : ∀ (i : Nat) (v : V), cs[i]? = some v → ∃ u, c[i]? = some u ∧ VR ρ v u ∧ v.one = true) :
    Post ρ fl S (S.new cs) w w' (ρ.up S.nx ⟨w.heap.size, 0, c.size, false⟩) where
  ext i hi := Ren.up_ne _ _ (by rw [ok.nx]; have : (S.new cs).cnt = S.cnt + 1 := rfl; omega)
  os := hos
  tape := htp
  output := hou
  size := by rw [hh]; simp
  frame k hk _ := by rw [hh, Array.getElem?_push, if_neg (by omega)]
  new i L' a b hL := by
    rcases Ren.up_some hL with ⟨_, rfl⟩ | ⟨h1, _⟩
    · exact .inl (Nat.le_refl _)
    · rw [ok.nx] at h1; have : (S.new cs).cnt = S.cnt + 1 := rfl; omega
  heap := by
    have mono := Ren.up_mono (L := ⟨w.heap.size, 0, c.size, false⟩) hn
    refine ⟨fun i L' b hL hb h0 => ?_, fun i i' L1 L2 b b' hL hL' hb hb' h0 h0' he hq => ?_, fun i L' hL hr => ?_⟩
    · rcases Ren.up_some hL with ⟨rfl, rfl⟩ | ⟨h1, h2⟩
      · rw [St.new_get] at hb; cases hb
        refine .inl ⟨c, e, fr, by rw [hh]; simp, rfl, fun _ => hfr, by simpa using hl, fun i v hv => ?_⟩
        obtain ⟨u, h1, h2, h3⟩ := hc i v hv
        exact ⟨u, by simpa using h1, h2.mono mono, h3⟩
      · rw [St.new_get_ne cs (fun e => h1 (by rw [e]))] at hb
        exact (h.cells i L' b h2 hb h0).mono mono (by rw [hh, Array.getElem?_push, if_neg (by have := h.at_ h2 hb h0; omega)])
    · rcases Ren.up_some hL with ⟨rfl, rfl⟩ | ⟨h1, h2⟩ <;> rcases Ren.up_some hL' with ⟨rfl, rfl⟩ | ⟨h1', h2'⟩
      · rfl
      · have := h.at_ h2' (by rw [St.new_get_ne cs (fun e => h1' (by rw [e]))] at hb'; exact hb') h0'; exact absurd he (by simp; omega)
      · have := h.at_ h2 (by rw [St.new_get_ne cs (fun e => h1 (by rw [e]))] at hb; exact hb) h0; exact absurd he (by simp; omega)
      · rw [St.new_get_ne cs (fun e => h1 (by rw [e]))] at hb
        rw [St.new_get_ne cs (fun e => h1' (by rw [e]))] at hb'
        exact h.inj i i' L1 L2 b b' h2 h2' hb hb' h0 h0' he hq
    · rcases Ren.up_some hL with ⟨_, rfl⟩ | ⟨_, h2⟩
      · cases hr
      · exact h.ro i L' h2 hr
/-- A cell. -/
theorem load_cell (ok : SOK S) (h : HRel ρ S w) (hL : ρ id = some L) (hk : L.d ≤ L.sz) {b : Blk} (hb : S.h.get id = some b) {i : Nat} {v : V} (hi : b.cs[i]? = some v) :
    ∃ u, w.cell? ⟨L.b, L.d + i, none⟩ = some u ∧ VR ρ v u ∧ v.one = true := by
  have h0 : b.born ≠ 0 := fun e => by
    rcases (ok.blk id b hb).2 with h1 | ⟨_, h1⟩
    · have := Pos.num_pos id; omega
    · rw [h1] at hi; simp at hi
  obtain ⟨c, e, fr, h1, h2, h3, h4, h5⟩ := (h.cells id L b hL hb h0).c hk
  obtain ⟨u, a1, a2, a3⟩ := h5 i v hi
  exact ⟨u, by simp [World.cell?, h1, a1], a2, a3⟩
/-- Some cells in a row. -/
theorem load_cells (ok : SOK S) (h : HRel ρ S w) (hL : ρ id = some L) (hk : L.d ≤ L.sz) {b : Blk} (hb : S.h.get id = some b) {off n : Nat} {a : Addr} (hn : off + n ≤ b.cs.length) (ho : 0 < n → a = ⟨L.b, L.d + off, none⟩) :
    ∃ us, VRs ρ ((b.cs.drop off).take n) us ∧ us.length = n ∧ (∀ v ∈ (b.cs.drop off).take n, v.one = true) ∧ ∀ j u, us[j]? = some u → w.cell? (a.add j) = some u := by
  have each : ∀ j, j < n → ∃ u, w.cell? ⟨L.b, L.d + (off + j), none⟩ = some u ∧ (∀ v, b.cs[off + j]? = some v → VR ρ v u ∧ v.one = true) := fun j hj => by
    have hlt : off + j < b.cs.length := by omega
    obtain ⟨u, h1, h2, h3⟩ := load_cell ok h hL hk hb (List.getElem?_eq_getElem hlt)
    refine ⟨u, h1, fun v hv => ?_⟩
    rw [List.getElem?_eq_getElem hlt] at hv; cases hv; exact ⟨h2, h3⟩
  let F : Nat → Value := fun j => (w.cell? ⟨L.b, L.d + (off + j), none⟩).getD undef
  have hF : ∀ j, j < n → w.cell? ⟨L.b, L.d + (off + j), none⟩ = some (F j) ∧ (∀ v, b.cs[off + j]? = some v → VR ρ v (F j) ∧ v.one = true) := fun j hj => by
    obtain ⟨u, h1, h2⟩ := each j hj
    have : F j = u := by simp [F, h1]
    rw [this]; exact ⟨h1, h2⟩
  have hlen : ((b.cs.drop off).take n).length = n := by simp; omega
  have idx : ∀ (j : Nat) (v : V), ((b.cs.drop off).take n)[j]? = some v → j < n ∧ b.cs[off + j]? = some v := fun j v hj => by
    have hlt : j < n := by have := (List.getElem?_eq_some_iff.1 hj).1; omega
    rw [List.getElem?_take_of_lt hlt, List.getElem?_drop] at hj
    exact ⟨hlt, hj⟩
  refine ⟨(List.range n).map F, VRs.of_get (by rw [hlen]; simp) fun j v u hj hu => ?_, by simp, fun v hv => ?_, fun j u hu => ?_⟩
  · obtain ⟨hlt, hj'⟩ := idx j v hj
    have : u = F j := by simpa [List.getElem?_map, List.getElem?_range hlt] using hu.symm
    rw [this]; exact ((hF j hlt).2 v hj').1
  · obtain ⟨j, hj, rfl⟩ := List.getElem_of_mem hv
    obtain ⟨hlt, hj'⟩ := idx j _ (List.getElem?_eq_getElem hj)
    exact ((hF j hlt).2 _ hj').2
  · have hlt : j < n := by have := (List.getElem?_eq_some_iff.1 hu).1; simpa using this
    have : u = F j := by simpa [List.getElem?_map, List.getElem?_range hlt] using hu.symm
    rw [this, ho (by omega)]
    have hadd : (⟨L.b, L.d + off, none⟩ : Addr).add j = ⟨L.b, L.d + (off + j), none⟩ := by
      unfold Addr.add; split
      · subst j; rfl
      · simp; omega
    rw [hadd]; exact (hF j hlt).1
/-- The model's stores into a row. -/
theorem run_stores (b o : Nat) (e : TypeId) (fr : Nat × Nat) : ∀ (us : List Value) (i : Nat) (c : Array Value) (w : World), w.heap[b]? = some (.cells c e fr) → Thaw c.size fr → o + i + us.length ≤ c.size → (∀ u ∈ us, u.oneCell' = true) →
    ∃ (w' : World) (c' : Array Value), (storeCells ⟨b, o, none⟩ us i).run P w = .ok () w' ∧ w'.heap[b]? = some (.cells c' e fr) ∧ (∀ k, k ≠ b → w'.heap[k]? = w.heap[k]?) ∧ w'.heap.size = w.heap.size ∧ w'.os = w.os ∧ w'.tape = w.tape ∧ w'.output = w.output ∧
      c'.size = c.size ∧ (∀ j, j < us.length → c'[o + i + j]? = us[j]?) ∧ ∀ j, (j < o + i ∨ o + i + us.length ≤ j) → c'[j]? = c[j]?
  | [], i, c, w, hb, _, _, _ => ⟨w, c, rfl, hb, fun _ _ => rfl, rfl, rfl, rfl, rfl, rfl, fun j hj => absurd hj (by simp), fun _ _ => rfl⟩
  | u :: us, i, c, w, hb, hfr, hl, h1 => by
    have hi : o + i < c.size := by simp at hl; omega
    have hlt : b < w.heap.size := (Array.getElem?_eq_some_iff.1 hb).1
    have hadd : (⟨b, o, none⟩ : Addr).add i = ⟨b, o + i, none⟩ := by unfold Addr.add; split <;> simp_all
    have hcell : w.cell? ⟨b, o + i, none⟩ = some c[o + i] := by simp [World.cell?, hb, hi]
    have hfro : w.frozen? ⟨b, o + i, none⟩ = false := by
      have := hfr (o + i) hi
      simp only [World.frozen?, hb]
      simp only [Bool.and_eq_false_iff, decide_eq_false_iff_not]
      by_cases h : fr.1 ≤ o + i
      · exact .inr fun h2 => this ⟨h, h2⟩
      · exact .inl h
    have hst : (store ((⟨b, o, none⟩ : Addr).add i) u).run P w = .ok () (w.setCell ⟨b, o + i, none⟩ u) := by
      rw [hadd, run_store P w _ u _ (h1 u (by simp)), hcell]; simp [hfro]
    have hb1 : (w.setCell ⟨b, o + i, none⟩ u).heap[b]? = some (.cells (c.setIfInBounds (o + i) u) e fr) := by
      simp [World.setCell, Array.getElem?_modify, hb]
    obtain ⟨w', c', r1, r2, r3, r4, r5, r6, r7, r8, r9, r10⟩ := run_stores b o e fr us (i + 1) (c.setIfInBounds (o + i) u) (w.setCell ⟨b, o + i, none⟩ u) hb1 (by simpa using hfr) (by simp at hl ⊢; omega) (fun x hx => h1 x (by simp [hx]))
    refine ⟨w', c', ?_, r2, fun k hk => ?_, by rw [r4]; simp [World.setCell], r5, r6, r7, by rw [r8]; simp, fun j hj => ?_, fun j hj => ?_⟩
    · simp only [storeCells, Sem.run_bind, hst, Result.andThen_ok]; exact r1
    · rw [r3 k hk]; simp [World.setCell, Array.getElem?_modify, Ne.symm hk]
    · cases j with
      | zero => rw [r10 (o + i + 0) (.inl (by omega))]; simp [hi]
      | succ j => rw [show o + i + (j + 1) = o + (i + 1) + j by omega, r9 j (by simpa using hj)]; simp
    · rw [r10 j (by simp at hj; omega)]; rw [Array.getElem?_setIfInBounds_ne (by simp at hj; omega)]
/-- A store. -/
theorem store_post (ok : SOK S) (h : HRel ρ S w) (hL : ρ id = some L) (hk : L.d ≤ L.sz) {b : Blk} (hb : S.h.get id = some b) (hf : S.fl ≤ b.born) {off o : Nat} {vs : List V} {us : List Value} (hv : VRs ρ vs us) (h1 : ∀ v ∈ vs, v.one = true)
    (hl : off + vs.length ≤ b.cs.length) (ho : 0 < vs.length → o = L.d + off) :
    ∃ w', (storeCells ⟨L.b, o, none⟩ us).run P w = .ok () w' ∧ Post ρ S.fl S (S.upd id ⟨b.born, b.cs.take off ++ vs ++ b.cs.drop (off + vs.length)⟩) w w' ρ := by
  obtain ⟨hbn, h0, hfi, hci⟩ := ok.born hb hf
  have hlen := hv.length
  have hro : L.ro = false := by
    cases hr : L.ro with
    | false => rfl
    | true => have := h.ro id L hL hr; omega
  by_cases hz : vs.length = 0
  · have e1 : vs = [] := List.length_eq_zero_iff.1 hz
    have e2 : us = [] := List.length_eq_zero_iff.1 (by omega)
    subst e1 e2
    refine ⟨w, rfl, fun _ _ => rfl, ⟨fun i L' x hL' hx hx0 => ?_, fun i i' L1 L2 x x' a1 a2 a3 a4 a5 a6 a7 a8 => ?_, h.ro⟩, rfl, rfl, rfl, Nat.le_refl _, fun _ _ _ => rfl, fun i L' a c _ => ?_⟩
    · by_cases hi : i = id
      · subst hi; rw [St.upd_get] at hx; cases hx; simp only [List.append_nil, List.length_nil, Nat.add_zero, List.take_append_drop]; exact h.cells _ _ _ hL' hb h0
      · rw [St.upd_get_ne _ hi] at hx; exact h.cells i L' x hL' hx hx0
    · by_cases hi : i = id <;> by_cases hi' : i' = id
      · rw [hi, hi']
      · subst hi; rw [St.upd_get_ne _ hi'] at a4; exact h.inj _ _ L1 L2 b x' a1 a2 hb a4 h0 a6 a7 a8
      · subst hi'; rw [St.upd_get_ne _ hi] at a3; exact h.inj _ _ L1 L2 x b a1 a2 a3 hb a5 h0 a7 a8
      · rw [St.upd_get_ne _ hi] at a3; rw [St.upd_get_ne _ hi'] at a4; exact h.inj i i' L1 L2 x x' a1 a2 a3 a4 a5 a6 a7 a8
    · have : (S.upd id ⟨b.born, b.cs.take off ++ [] ++ b.cs.drop (off + ([] : List V).length)⟩).cnt = S.cnt := rfl
      omega
  · obtain ⟨c, e, fr, c1, c2, c3, c4, c5⟩ := (h.cells id L b hL hb h0).c hk
    rw [ho (by omega)]
    obtain ⟨w', c', r1, r2, r3, r4, r5, r6, r7, r8, r9, r10⟩ := run_stores (P := P) L.b (L.d + off) e fr us 0 c w c1 (c3 hro) (by omega) (hv.one h1)
    refine ⟨w', r1, fun _ _ => rfl, ⟨fun i L' x hL' hx hx0 => ?_, fun i i' L1 L2 x x' a1 a2 a3 a4 a5 a6 a7 a8 => ?_, h.ro⟩, r5, r6, r7, by omega, fun k hk hh => r3 k fun e => hh id L hL hfi hci e.symm, fun i L' a d _ => ?_⟩
    · by_cases hi : i = id
      · subst hi; rw [St.upd_get] at hx; cases hx; rw [hL] at hL'; cases hL'
        refine .inl ⟨c', e, fr, r2, r8.trans c2, fun _ => by rw [r8]; exact c3 hro, by simp; omega, fun j v hj => ?_⟩
        have htl : (b.cs.take off).length = off := by simp; omega
        rcases Nat.lt_or_ge j off with hj1 | hj1
        · rw [List.append_assoc, List.getElem?_append_left (by omega), List.getElem?_take_of_lt hj1] at hj
          obtain ⟨u, a1, a2, a3⟩ := c5 j v hj
          exact ⟨u, by rw [r10 _ (.inl (by omega))]; exact a1, a2, a3⟩
        · rcases Nat.lt_or_ge j (off + vs.length) with hj2 | hj2
          · rw [List.append_assoc, List.getElem?_append_right (by omega), htl, List.getElem?_append_left (by omega)] at hj
            obtain ⟨u, a1, a2⟩ := hv.get hj
            refine ⟨u, ?_, a2, h1 v (List.mem_of_getElem? hj)⟩
            have := r9 (j - off) (by omega)
            rw [show L.d + off + 0 + (j - off) = L.d + j by omega] at this
            rw [this]; exact a1
          · rw [List.getElem?_append_right (by simp; omega), List.getElem?_drop] at hj
            rw [show off + vs.length + (j - (b.cs.take off ++ vs).length) = j by simp; omega] at hj
            obtain ⟨u, a1, a2, a3⟩ := c5 j v hj
            exact ⟨u, by rw [r10 _ (.inr (by omega))]; exact a1, a2, a3⟩
      · rw [St.upd_get_ne _ hi] at hx
        have hne : L'.b ≠ L.b := fun e => hi (h.inj i id L' L x b hL' hL hx hb hx0 h0 e (by rw [hro, Bool.and_false]))
        exact (h.cells i L' x hL' hx hx0).mono (fun _ _ h => h) (r3 _ hne)
    · by_cases hi : i = id <;> by_cases hi' : i' = id
      · rw [hi, hi']
      · subst hi; rw [St.upd_get_ne _ hi'] at a4; exact h.inj _ _ L1 L2 b x' a1 a2 hb a4 h0 a6 a7 a8
      · subst hi'; rw [St.upd_get_ne _ hi] at a3; exact h.inj _ _ L1 L2 x b a1 a2 a3 hb a5 h0 a7 a8
      · rw [St.upd_get_ne _ hi] at a3; rw [St.upd_get_ne _ hi'] at a4; exact h.inj i i' L1 L2 x x' a1 a2 a3 a4 a5 a6 a7 a8
    · have : (S.upd id ⟨b.born, b.cs.take off ++ vs ++ b.cs.drop (off + vs.length)⟩).cnt = S.cnt := rfl
      omega
/-- A block given up. -/
theorem kill_post (ok : SOK S) (h : HRel ρ S w) {b : Blk} (hb : S.h.get id = some b) : Post ρ fl S (S.upd id ⟨0, []⟩) w w ρ := by
  refine ⟨fun _ _ => rfl, ⟨fun i L' x hL' hx hx0 => ?_, fun i i' L1 L2 x x' a1 a2 a3 a4 a5 a6 a7 a8 => ?_, h.ro⟩, rfl, rfl, rfl, Nat.le_refl _, fun _ _ _ => rfl, fun i L' a c _ => ?_⟩
  · by_cases hi : i = id
    · subst hi; rw [St.upd_get] at hx; cases hx; exact absurd rfl hx0
    · rw [St.upd_get_ne _ hi] at hx; exact h.cells i L' x hL' hx hx0
  · by_cases hi : i = id
    · subst hi; rw [St.upd_get] at a3; cases a3; exact absurd rfl a5
    · by_cases hi' : i' = id
      · subst hi'; rw [St.upd_get] at a4; cases a4; exact absurd rfl a6
      · rw [St.upd_get_ne _ hi] at a3; rw [St.upd_get_ne _ hi'] at a4; exact h.inj i i' L1 L2 x x' a1 a2 a3 a4 a5 a6 a7 a8
  · have : (S.upd id ⟨0, []⟩).cnt = S.cnt := rfl
    omega
/-- An append in place, behind the end that the machine knows: the old block is given up, the new one lies where it lay. -/
theorem grow_post (ok : SOK S) (h : HRel ρ S w) (hL : ρ id = some L) (hk : L.d ≤ L.sz) (hn : ρ S.nx = none) {b : Blk} (hb : S.h.get id = some b) (hf : S.fl ≤ b.born) {off o n : Nat} {vs : List V} {us : List Value} (hv : VRs ρ vs us) (h1 : ∀ v ∈ vs, v.one = true)
    (hl : off + n ≤ b.cs.length) (ho : 0 < n → o = L.d + off) (hroom : o + n + vs.length ≤ L.sz) :
    ∃ w', (storeCells ⟨L.b, o + n, none⟩ us).run P w = .ok () w' ∧ Post ρ S.fl S ((S.upd id ⟨0, []⟩).new ((b.cs.drop off).take n ++ vs)) w w' (ρ.up S.nx ⟨L.b, o, L.sz, false⟩) := by
  obtain ⟨hbn, h0, hfi, hci⟩ := ok.born hb hf
  have hro : L.ro = false := by
    cases hr : L.ro with
    | false => rfl
    | true => have := h.ro id L hL hr; omega
  obtain ⟨c, e, fr, c1, c2, c3, c4, c5⟩ := (h.cells id L b hL hb h0).c hk
  have hlen := hv.length
  obtain ⟨w', c', r1, r2, r3, r4, r5, r6, r7, r8, r9, r10⟩ := run_stores (P := P) L.b (o + n) e fr us 0 c w c1 (c3 hro) (by omega) (hv.one h1)
  have mono := Ren.up_mono (L := ⟨L.b, o, L.sz, false⟩) hn
  have hne : id ≠ S.nx := ok.ne_nx hb
  have hcnt : ((S.upd id ⟨0, []⟩).new ((b.cs.drop off).take n ++ vs)).cnt = S.cnt + 1 := rfl
  have hnx : (S.upd id ⟨0, []⟩).nx = S.nx := rfl
  have olds : ∀ i x, i ≠ S.nx → ((S.upd id ⟨0, []⟩).new ((b.cs.drop off).take n ++ vs)).h.get i = some x → x.born ≠ 0 → i ≠ id ∧ S.h.get i = some x := fun i x hi hx hx0 => by
    rw [St.new_get_ne _ (by rw [hnx]; exact hi)] at hx
    by_cases hii : i = id
    · subst hii; rw [St.upd_get] at hx; cases hx; exact absurd rfl hx0
    · rw [St.upd_get_ne _ hii] at hx; exact ⟨hii, hx⟩
  refine ⟨w', r1, fun i hi => Ren.up_ne _ _ (by rw [ok.nx]; omega), ⟨fun i L' x hL' hx hx0 => ?_, fun i i' L1 L2 x x' a1 a2 a3 a4 a5 a6 a7 a8 => ?_, fun i L' hL' hr => ?_⟩, r5, r6, r7, by omega, fun k hk hh => r3 k fun e => hh id L hL hfi hci e.symm, fun i L' a d hL' => ?_⟩
  · rcases Ren.up_some hL' with ⟨rfl, rfl⟩ | ⟨h2, h3⟩
    · have hx' := St.new_get (S.upd id ⟨0, []⟩) ((b.cs.drop off).take n ++ vs)
      rw [hnx] at hx'; rw [hx'] at hx; cases hx
      have htl : ((b.cs.drop off).take n).length = n := by simp; omega
      refine .inl ⟨c', e, fr, r2, r8.trans c2, fun _ => by rw [r8]; exact c3 hro, by simp; omega, fun j v hj => ?_⟩
      rcases Nat.lt_or_ge j n with hj1 | hj1
      · rw [List.getElem?_append_left (by omega), List.getElem?_take_of_lt hj1, List.getElem?_drop] at hj
        obtain ⟨u, a1, a2, a3⟩ := c5 (off + j) v hj
        refine ⟨u, ?_, a2.mono mono, a3⟩
        show c'[o + j]? = some u
        rw [r10 _ (.inl (by omega)), ho (by omega), Nat.add_assoc]; exact a1
      · rw [List.getElem?_append_right (by omega), htl] at hj
        obtain ⟨u, a1, a2⟩ := hv.get hj
        refine ⟨u, ?_, a2.mono mono, h1 v (List.mem_of_getElem? hj)⟩
        have hjl : j - n < us.length := (List.getElem?_eq_some_iff.1 a1).1
        have := r9 (j - n) hjl
        rw [show o + n + 0 + (j - n) = o + j by omega] at this
        show c'[o + j]? = some u
        rw [this]; exact a1
    · obtain ⟨h4, h5⟩ := olds i x (fun e => h2 (by rw [e])) hx hx0
      have hneb : L'.b ≠ L.b := fun e => h4 (h.inj i id L' L x b h3 hL h5 hb hx0 h0 e (by rw [hro, Bool.and_false]))
      exact (h.cells i L' x h3 h5 hx0).mono mono (r3 _ hneb)
  · rcases Ren.up_some a1 with ⟨rfl, rfl⟩ | ⟨b1, b2⟩ <;> rcases Ren.up_some a2 with ⟨rfl, rfl⟩ | ⟨b1', b2'⟩
    · rfl
    · obtain ⟨h4, h5⟩ := olds i' x' (fun e => b1' (by rw [e])) a4 a6
      exact absurd (h.inj i' id L2 L x' b b2' hL h5 hb a6 h0 a7.symm (by rw [hro, Bool.and_false])) h4
    · obtain ⟨h4, h5⟩ := olds i x (fun e => b1 (by rw [e])) a3 a5
      exact absurd (h.inj i id L1 L x b b2 hL h5 hb a5 h0 a7 (by rw [hro, Bool.and_false])) h4
    · obtain ⟨h4, h5⟩ := olds i x (fun e => b1 (by rw [e])) a3 a5
      obtain ⟨h4', h5'⟩ := olds i' x' (fun e => b1' (by rw [e])) a4 a6
      exact h.inj i i' L1 L2 x x' b2 b2' h5 h5' a5 a6 a7 a8
  · rcases Ren.up_some hL' with ⟨_, rfl⟩ | ⟨_, h2⟩
    · cases hr
    · exact h.ro i L' h2 hr
  · rcases Ren.up_some hL' with ⟨_, rfl⟩ | ⟨b1, _⟩
    · exact .inr ⟨id, L, hL, hfi, hci, rfl⟩
    · rw [ok.nx] at b1; omega
end Go.AM

/- Operations that touch no memory: what the machine makes of them is what the model makes of them. -/
namespace Go.AM
set_option linter.unusedVariables false
set_option linter.unusedSimpArgs false
variable {out : V × St} {ρ : Ren} {P : Program} {w : World} {a : Act}
abbrev Env := List (Nat × V)
def look (γ : Env) (t : Nat) : V := match γ with
  | [] => .other
  | (s, v) :: r => cond (Nat.beq s t) v (look r t)
/-- a constant of one cell -/
noncomputable def cv0 : Value → V
  | .bool b => .b b
  | .int k n => cond (decide (dec k (n % (M k : Int)).toNat = n)) (.i k (n % (M k : Int)).toNat) .other
  | .string s => .s (s.data.toList.map UInt8.toNat)
  | .pointer none => .pn
  | .slice none 0 0 => .sn
  | .nilFunc => .fn0
  | .map none => .mn
  | _ => .other
/-- all cells of one -/
theorem one_sub {l : List V} (h : ∀ v ∈ l, v.one = true) (a n : Nat) : ∀ v ∈ (l.drop a).take n, v.one = true := fun v hv => h v (List.mem_of_mem_drop (List.mem_of_mem_take hv))
noncomputable def cv : Value → V
  | .agg cs => cond ((cs.toList.map cv0).all V.one) (.ag (cs.toList.map cv0)) .other
  | .tuple cs => cond cs.isEmpty .u .other
  | c => cv0 c
noncomputable def val (γ : Env) : Operand → V
  | .tmp t => look γ t
  | .const c => cv c
  | .func f => .f f []
  | .global _ => .other
theorem cv0_ok (c : Value) : VR ρ (cv0 c) c := by
  unfold cv0
  split
  · exact .b _
  · rename_i k n
    by_cases h : dec k (n % (M k : Int)).toNat = n
    · rw [decide_eq_true h]
      have h0 := Int.emod_nonneg n (b := (M k : Int)) (by have := M_pos k; omega)
      have h1 := Int.emod_lt_of_pos n (b := (M k : Int)) (by have := M_pos k; omega)
      exact .i _ _ _ (by omega) h.symm
    · rw [decide_eq_false h]; exact .other _
  · exact .s _ _ rfl
  · exact .pn
  · exact .sn
  · exact .fn0
  · exact .mn
  · exact .other _
theorem cv0s_ok : ∀ l : List Value, VRs ρ (l.map cv0) l
  | [] => .nil
  | c :: l => .cons _ _ _ _ (cv0_ok c) (cv0s_ok l)
theorem cv_ok' (c : Value) : VR ρ (cv c) c := by
  unfold cv
  split
  · rename_i cs
    cases h : (cs.toList.map cv0).all V.one
    · exact .other _
    · exact .ag _ _ (List.all_eq_true.1 h) (cv0s_ok _)
  · rename_i cs
    cases h : cs.isEmpty
    · exact .other _
    · have : cs = #[] := by simpa using h
      subst this; exact .u
  · exact cv0_ok c
/-- the frame's slots are as the machine has them -/
def EnvR (ρ : Ren) (γ : Env) (a : Act) : Prop := ∀ t, VR ρ (look γ t) (a.tmps.getD t undef)
theorem EnvR.val {γ : Env} (h : EnvR ρ γ a) (x : Operand) : VR ρ (val γ x) (a.eval x) := by
  cases x with
  | tmp t => exact h t
  | const c => exact cv_ok' c
  | global g => exact .other _
  | func f => exact .f f [] #[] .nil
theorem EnvR.mono {ρ' : Ren} {γ : Env} (h : EnvR ρ γ a) (m : ∀ id L, ρ id = some L → ρ' id = some L) : EnvR ρ' γ a := fun t => (h t).mono m
/-- the operation runs to a value -/
def Runs (P : Program) (o : Oper) (a : Act) (w : World) (T : Value → World → Prop) : Prop :=
  ∃ u w', ((execOp a.eval o).run P w = .ok (.value u) w' ∨ (execOp a.eval o).run P w = .ok .skip w' ∧ u = undef) ∧ T u w'
/-- no memory touched: one value, whatever the world -/
def PureOK (P : Program) (o : Oper) (γ : Env) (v : V) : Prop := ∀ ρ a w, EnvR ρ γ a → Runs P o a w fun u w' => w' = w ∧ VR ρ v u
theorem Runs.value {o : Oper} {T : Value → World → Prop} {u : Value} {w' : World} (h : (execOp a.eval o).run P w = .ok (.value u) w') (t : T u w') : Runs P o a w T := ⟨u, w', .inl h, t⟩
theorem VRs.map {γ : Env} (h : EnvR ρ γ a) : ∀ l : List Operand, VRs ρ (l.map (val γ)) (l.map a.eval)
  | [] => .nil
  | x :: l => .cons _ _ _ _ (h.val x) (VRs.map h l)
-- what a related value is
section inv
variable {u : Value}
theorem VR.b_inv {x : Bool} (h : VR ρ (.b x) u) : u = .bool x := by cases h; rfl
theorem VR.i_inv {k : IntKind} {n : Nat} (h : VR ρ (.i k n) u) : u = .int k (dec k n) ∧ n < M k := by cases h with | i _ _ z h1 h2 => subst h2; exact ⟨rfl, h1⟩
theorem VR.s_inv {l : List Nat} (h : VR ρ (.s l) u) : ∃ t : ByteArray, u = .string t ∧ t.data.toList.map UInt8.toNat = l := by cases h with | s _ t h1 => exact ⟨t, rfl, h1⟩
theorem VR.p_inv {id : Pos} {off : Nat} (h : VR ρ (.p id off) u) : ∃ L, ρ id = some L ∧ L.d ≤ L.sz ∧ u = .pointer (some ⟨L.b, L.d + off, none⟩) := by cases h with | p _ _ o L h1 hk h2 => subst h2; exact ⟨L, h1, hk, rfl⟩
theorem VR.sl_any {v : V} {id : Pos} {off len : Nat} (hs : IsSl v id off len) (h : VR ρ v u) : ∃ L a c, ρ id = some L ∧ L.d ≤ L.sz ∧ u = .slice (some a) len c ∧ len ≤ c ∧ (0 < len → a = ⟨L.b, L.d + off, none⟩) := by
  cases hs with
  | sl => cases h with | sl _ _ _ _ o L h1 hk h2 h3 => exact ⟨L, o, _, h1, hk, rfl, h2, fun h => h3 (by omega)⟩
  | so => cases h with | so _ _ _ _ _ o c L h1 hk h2 h3 h4 h5 => exact ⟨L, _, c, h1, hk, rfl, by omega, fun h => by rw [h5 (by omega)]⟩
theorem VR.m_inv {id : Pos} (h : VR ρ (.m id) u) : ∃ L, ρ id = some L ∧ L.sz < L.d ∧ u = .map (some L.b) := by cases h with | m _ L h1 h2 => exact ⟨L, h1, h2, rfl⟩
theorem VR.ag_inv {l : List V} (h : VR ρ (.ag l) u) : ∃ cs : Array Value, u = .agg cs ∧ VRs ρ l cs.toList := by cases h with | ag _ cs h0 h1 => exact ⟨cs, rfl, h1⟩
theorem VR.ag_one {l : List V} (h : VR ρ (.ag l) u) : ∀ v ∈ l, v.one = true := by cases h with | ag _ cs h0 h1 => exact h0
theorem VR.tu_inv {l : List V} (h : VR ρ (.tu l) u) : ∃ cs : Array Value, u = .tuple cs ∧ VRs ρ l cs.toList := by cases h with | tu _ cs h1 => exact ⟨cs, rfl, h1⟩
theorem VR.pn_inv (h : VR ρ .pn u) : u = .pointer none := by cases h; rfl
theorem VR.sn_inv (h : VR ρ .sn u) : u = .slice none 0 0 := by cases h; rfl
theorem VR.fn0_inv (h : VR ρ .fn0 u) : u = .nilFunc := by cases h; rfl
theorem VR.u_inv (h : VR ρ .u u) : u = undef := by cases h; rfl
theorem VR.f_inv {id : Nat} {cs : List V} (h : VR ρ (.f id cs) u) : ∃ us : Array Value, u = .func (.func id) #[] us ∧ VRs ρ cs us.toList := by cases h with | f _ _ us h1 => exact ⟨us, rfl, h1⟩
end inv
/-- integers of one kind -/
noncomputable def intOp : BinOp → Option (V → V → (V → R) → R)
  | .add => some pAdd | .sub => some pSub | .mul => some pMul | .quo => some pQuo | .rem => some pRem | .and => some pAnd | .or => some pOr | .xor => some pXor
  | .shl => some pShl | .shr => some pShr | .eql => some pEql | .neq => some pNeq | .lss => some pLss | .leq => some pLeq | .gtr => some pGtr | .geq => some pGeq | .andNot => none
theorem of_c {c : V → R} {k : IntKind} {n : Nat} (h : retI c k n = some out) : c (.i k n) = some out := by rw [retI_eq] at h; exact h
theorem of_b {c : V → R} {b : Bool} (h : retB c b = some out) : c (.b b) = some out := by rw [retB_eq] at h; exact h
theorem shr_ok {k : IntKind} {x : Nat} (hx : x < M k) (n : Nat) : (dec k x).fdiv (2 ^ n) = dec k (shrI k x n) ∧ shrI k x n < M k := by
  unfold shrI
  have hp : 0 < 2 ^ n := Nat.pow_pos (by decide)
  have e2 : (2 : Int) ^ n = ((2 ^ n : Nat) : Int) := by push_cast; rfl
  cases h : neg k x
  · show _ = dec k (x / 2 ^ n) ∧ x / 2 ^ n < M k
    have hle := Nat.div_le_self x (2 ^ n)
    refine ⟨?_, by omega⟩
    rw [dec_nat h, dec_nat ((neg_false k _).2 fun hs => by have := (neg_false k x).1 h hs; omega), e2, Int.fdiv_eq_ediv_of_nonneg _ (by omega)]
    exact (Int.natCast_ediv x (2 ^ n)).symm
  · show _ = dec k (M k - ((M k - 1 - x) / 2 ^ n + 1)) ∧ M k - ((M k - 1 - x) / 2 ^ n + 1) < M k
    obtain ⟨hs, hh⟩ := (neg_iff k x).1 h
    have hM := M_sgn k hs
    have hle := Nat.div_le_self (M k - 1 - x) (2 ^ n)
    have h1 := Nat.div_add_mod (M k - 1 - x) (2 ^ n)
    have h2 := Nat.mod_lt (M k - 1 - x) hp
    rw [dec_abs hx h, e2]
    generalize 2 ^ n = p at *
    generalize hq : (M k - 1 - x) / p = q at *
    generalize (M k - 1 - x) % p = r at *
    refine ⟨?_, by omega⟩
    rw [dec_abs (by omega) ((neg_iff k _).2 ⟨hs, by omega⟩), Int.fdiv_eq_ediv_of_nonneg _ (by omega)]
    have e4 : (-((M k - x : Nat) : Int)) = -(((M k - 1 - x : Nat) : Int) + 1) := by omega
    have e5 : M k - (M k - (q + 1)) = q + 1 := by omega
    rw [e4, e5, ← h1]
    push_cast
    rw [show -(((p : Int) * q + r) + 1) = (p - 1 - r : Int) + (p : Int) * (-(q + 1)) by rw [Int.mul_neg, Int.mul_add, Int.mul_one]; omega]
    rw [Int.add_mul_ediv_left _ _ (by omega), Int.ediv_eq_zero_of_lt (by omega) (by omega)]
    omega
theorem intOp_ok {op : BinOp} {f : V → V → (V → R) → R} (hf : intOp op = some f) {x y : V} {c : V → R} (h : f x y c = some out) :
    ∃ v, c v = some out ∧ ∀ (ρ : Ren) (xu yu : Value), VR ρ x xu → VR ρ y yu → ∀ (t : TypeId) (w : World), ∃ u, (binOp op t xu yu).run P w = .ok u w ∧ VR ρ v u := by
  have fin : ∀ {k : IntKind} {n : Nat} {z : Int} {ρ : Ren}, z = dec k n → n < M k → VR ρ (.i k n) (.int k z) := fun h1 h2 => .i _ _ _ h2 h1
  cases op <;> simp only [intOp, Option.some.injEq, reduceCtorEq] at hf <;> subst hf
  case shl =>
    obtain ⟨k, p, rfl, h1⟩ := vI_some h
    obtain ⟨k', q, rfl, h2⟩ := vI_some h1
    obtain ⟨h3, h4⟩ := gu_some h2
    refine ⟨_, of_c h4, fun ρ xu yu hx hy t w => ?_⟩
    obtain ⟨rfl, hp⟩ := hx.i_inv; obtain ⟨rfl, hq⟩ := hy.i_inv
    have hnn : neg k' q = false := by simpa using h3
    have hq0 : ¬ dec k' q < 0 := by rw [dec_nat hnn]; omega
    have hm : min (dec k' q).toNat k.bits = minN q (bits k) := by
      rw [dec_nat hnn]; show min q k.bits = minN q (bits k)
      have : bits k = k.bits := by cases k <;> rfl
      rw [this]; unfold minN
      by_cases hle : q ≤ k.bits
      · rw [show Nat.ble q k.bits = true from Nat.ble_eq_true_of_le hle]; exact Nat.min_eq_left hle
      · rw [show Nat.ble q k.bits = false from by cases e : Nat.ble q k.bits; rfl; exact absurd (Nat.le_of_ble_eq_true e) hle]; exact Nat.min_eq_right (by omega)
    refine ⟨_, by simp only [binOp, Op.shift, hq0, if_false, hm]; rfl, fin ?_ (mod_lt k _)⟩
    refine wrap_of k _ _ ?_
    rw [Int.mul_emod, dec_mod_eq k p hp, ← Int.mul_emod]; push_cast; rfl
  case shr =>
    obtain ⟨k, p, rfl, h1⟩ := vI_some h
    obtain ⟨k', q, rfl, h2⟩ := vI_some h1
    obtain ⟨h3, h4⟩ := gu_some h2
    refine ⟨_, of_c h4, fun ρ xu yu hx hy t w => ?_⟩
    obtain ⟨rfl, hp⟩ := hx.i_inv; obtain ⟨rfl, hq⟩ := hy.i_inv
    have hnn : neg k' q = false := by simpa using h3
    have hq0 : ¬ dec k' q < 0 := by rw [dec_nat hnn]; omega
    have hm : min (dec k' q).toNat k.bits = minN q (bits k) := by
      rw [dec_nat hnn]; show min q k.bits = minN q (bits k)
      have : bits k = k.bits := by cases k <;> rfl
      rw [this]; unfold minN
      by_cases hle : q ≤ k.bits
      · rw [show Nat.ble q k.bits = true from Nat.ble_eq_true_of_le hle]; exact Nat.min_eq_left hle
      · rw [show Nat.ble q k.bits = false from by cases e : Nat.ble q k.bits; rfl; exact absurd (Nat.le_of_ble_eq_true e) hle]; exact Nat.min_eq_right (by omega)
    exact ⟨_, by simp only [binOp, Op.shift, hq0, if_false, hm]; rfl, fin (shr_ok hp _).1 (shr_ok hp _).2⟩
  all_goals
    obtain ⟨k, p, q, rfl, rfl, h1⟩ := two_some h
  case add => exact ⟨_, of_c h1, fun ρ xu yu hx hy t w => by obtain ⟨rfl, hp⟩ := hx.i_inv; obtain ⟨rfl, hq⟩ := hy.i_inv; exact ⟨_, by simp [binOp, Op.intArith], fin (add_ok hp hq) (mod_lt k _)⟩⟩
  case sub => exact ⟨_, of_c h1, fun ρ xu yu hx hy t w => by obtain ⟨rfl, hp⟩ := hx.i_inv; obtain ⟨rfl, hq⟩ := hy.i_inv; exact ⟨_, by simp [binOp, Op.intArith], fin (sub_ok hp hq) (mod_lt k _)⟩⟩
  case mul => exact ⟨_, of_c h1, fun ρ xu yu hx hy t w => by obtain ⟨rfl, hp⟩ := hx.i_inv; obtain ⟨rfl, hq⟩ := hy.i_inv; exact ⟨_, by simp [binOp, Op.intArith], fin (mul_ok hp hq) (mod_lt k _)⟩⟩
  case quo =>
    obtain ⟨h2, h3⟩ := gu_some h1
    have h0 : 0 < q := Nat.le_of_ble_eq_true h2
    exact ⟨_, of_c h3, fun ρ xu yu hx hy t w => by
      obtain ⟨rfl, hp⟩ := hx.i_inv; obtain ⟨rfl, hq⟩ := hy.i_inv
      have hz : dec k q ≠ 0 := fun e => by have := dec_inj (k := k) hq (M_pos k) (b := 0) (by rw [e]; cases k <;> rfl); omega
      exact ⟨_, by simp only [binOp, Op.intDiv, hz, if_false, ne_eq, not_true, if_true]; rfl, fin (quo_ok hp hq h0).1 (quo_ok hp hq h0).2⟩⟩
  case rem =>
    obtain ⟨h2, h3⟩ := gu_some h1
    have h0 : 0 < q := Nat.le_of_ble_eq_true h2
    exact ⟨_, of_c h3, fun ρ xu yu hx hy t w => by
      obtain ⟨rfl, hp⟩ := hx.i_inv; obtain ⟨rfl, hq⟩ := hy.i_inv
      have hz : dec k q ≠ 0 := fun e => by have := dec_inj (k := k) hq (M_pos k) (b := 0) (by rw [e]; cases k <;> rfl); omega
      exact ⟨_, by simp only [binOp, Op.intDiv, hz, if_false, ne_eq, not_true, if_true]; rfl, fin (rem_ok hp hq h0).1 (rem_ok hp hq h0).2⟩⟩
  case and => exact ⟨_, of_c h1, fun ρ xu yu hx hy t w => by
      obtain ⟨rfl, hp⟩ := hx.i_inv; obtain ⟨rfl, hq⟩ := hy.i_inv
      have hb := bit_ok (k := k) (c := p &&& q) (BitVec.ofInt k.bits (dec k p) &&& BitVec.ofInt k.bits (dec k q)) (by rw [ofInt_dec, ofInt_dec, BitVec.toNat_and, ofNat_toNat hp, ofNat_toNat hq])
      exact ⟨_, by simp [binOp, Op.intBits], fin hb.1 hb.2⟩⟩
  case or => exact ⟨_, of_c h1, fun ρ xu yu hx hy t w => by
      obtain ⟨rfl, hp⟩ := hx.i_inv; obtain ⟨rfl, hq⟩ := hy.i_inv
      have hb := bit_ok (k := k) (c := p ||| q) (BitVec.ofInt k.bits (dec k p) ||| BitVec.ofInt k.bits (dec k q)) (by rw [ofInt_dec, ofInt_dec, BitVec.toNat_or, ofNat_toNat hp, ofNat_toNat hq])
      exact ⟨_, by simp [binOp, Op.intBits], fin hb.1 hb.2⟩⟩
  case xor => exact ⟨_, of_c h1, fun ρ xu yu hx hy t w => by
      obtain ⟨rfl, hp⟩ := hx.i_inv; obtain ⟨rfl, hq⟩ := hy.i_inv
      have hb := bit_ok (k := k) (c := p ^^^ q) (BitVec.ofInt k.bits (dec k p) ^^^ BitVec.ofInt k.bits (dec k q)) (by rw [ofInt_dec, ofInt_dec, BitVec.toNat_xor, ofNat_toNat hp, ofNat_toNat hq])
      exact ⟨_, by simp [binOp, Op.intBits], fin hb.1 hb.2⟩⟩
  case eql => exact ⟨_, of_b h1, fun ρ xu yu hx hy t w => by obtain ⟨rfl, hp⟩ := hx.i_inv; obtain ⟨rfl, hq⟩ := hy.i_inv; exact ⟨_, by simp [binOp, Op.intCmp]; rfl, by rw [beq_dec hp hq]; exact .b _⟩⟩
  case neq => exact ⟨_, of_b h1, fun ρ xu yu hx hy t w => by obtain ⟨rfl, hp⟩ := hx.i_inv; obtain ⟨rfl, hq⟩ := hy.i_inv; exact ⟨_, by simp [binOp, Op.intCmp]; rfl, by rw [beq_dec hp hq]; exact .b _⟩⟩
  case lss => exact ⟨_, of_b h1, fun ρ xu yu hx hy t w => by obtain ⟨rfl, hp⟩ := hx.i_inv; obtain ⟨rfl, hq⟩ := hy.i_inv; exact ⟨_, by simp [binOp, Op.intCmp]; rfl, by rw [blt_sh hp hq]; exact .b _⟩⟩
  case leq => exact ⟨_, of_b h1, fun ρ xu yu hx hy t w => by obtain ⟨rfl, hp⟩ := hx.i_inv; obtain ⟨rfl, hq⟩ := hy.i_inv; exact ⟨_, by simp [binOp, Op.intCmp]; rfl, by rw [ble_sh hp hq]; exact .b _⟩⟩
  case gtr => exact ⟨_, of_b h1, fun ρ xu yu hx hy t w => by obtain ⟨rfl, hp⟩ := hx.i_inv; obtain ⟨rfl, hq⟩ := hy.i_inv; exact ⟨_, by simp [binOp, Op.intCmp]; rfl, by rw [blt_sh hq hp]; exact .b _⟩⟩
  case geq => exact ⟨_, of_b h1, fun ρ xu yu hx hy t w => by obtain ⟨rfl, hp⟩ := hx.i_inv; obtain ⟨rfl, hq⟩ := hy.i_inv; exact ⟨_, by simp [binOp, Op.intCmp]; rfl, by rw [ble_sh hq hp]; exact .b _⟩⟩
end Go.AM

/- The operations that touch no memory, all of them. -/
namespace Go.AM
set_option linter.unusedVariables false
set_option linter.unusedSimpArgs false
variable {out : V × St} {ρ : Ren} {P : Program} {w : World} {a : Act}
def isNilP : Operand → Bool
  | .const (.pointer none) => true
  | _ => false
def isNilL : Operand → Bool
  | .const (.slice none _ _) => true
  | _ => false
def isNilF : Operand → Bool
  | .const .nilFunc => true
  | _ => false
theorem isNilP_eq {x : Operand} (h : isNilP x = true) : x = .const (.pointer none) := by
  unfold isNilP at h; split at h; rfl; cases h
theorem isNilL_eq {x : Operand} (h : isNilL x = true) : ∃ n c, x = .const (.slice none n c) := by
  unfold isNilL at h; split at h; exact ⟨_, _, rfl⟩; cases h
theorem isNilF_eq {x : Operand} (h : isNilF x = true) : x = .const .nilFunc := by
  unfold isNilF at h; split at h; rfl; cases h
noncomputable def denB (P : Program) (op : BinOp) (t : TypeId) (y : Operand) (a b : V) : Option ((V → R) → R) :=
  match P.underlying t with
  | some (.int _) => match intOp op with | some f => some (f a b) | none => none
  | some .bool => match op with | .eql => some (pEqB true a b) | .neq => some (pEqB false a b) | _ => none
  | some .string => match op with | .eql => some (pEqS true a b) | .neq => some (pEqS false a b) | .lss => some (pLtS a b) | .add => some (pCat a b) | _ => none
  | some (.pointer _) => cond (isNilP y) (match op with | .eql => some (pNilP true a) | .neq => some (pNilP false a) | _ => none) none
  | some (.slice _) => cond (isNilL y) (match op with | .eql => some (pNilL true a) | .neq => some (pNilL false a) | _ => none) none
  | some (.func _ _ _) => cond (isNilF y) (match op with | .eql => some (pNilF true a) | .neq => some (pNilF false a) | _ => none) none
  | _ => none
def aggP (P : Program) (t : TypeId) : Option Bool := match P.underlying t with | some (.struct _) => some true | some (.array _ _) => some true | some _ => some false | none => none
theorem run_isAgg {t : TypeId} {b : Bool} (h : aggP P t = some b) : (isAgg t).run P w = .ok b w := by
  unfold aggP at h
  unfold isAgg
  cases hu : P.underlying t with
  | none => rw [hu] at h; cases h
  | some d => rw [hu] at h; cases d <;> simp at h <;> subst h <;> simp [run_underlying hu]
theorem run_size {t : TypeId} {i : TypeInfo} (h : P.info? t = some i) : (sizeOf t).run P w = .ok i.size w := by simp [sizeOf, typeInfo, h]
theorem eqGuard_ok (op : BinOp) (t : TypeId) (x y : Operand) (u v : Value) (h : u.oneCell' = true) (h2 : u ≠ .nilIface) : (eqGuard op t x y u v).run P w = .ok () w := by
  unfold eqGuard
  cases u <;> (try (simp [Value.oneCell'] at h h2; done)) <;> cases op <;> rfl
theorem map_beq : ∀ l m : List UInt8, (l.map UInt8.toNat == m.map UInt8.toNat) = (l == m)
  | [], [] => rfl
  | [], _ :: _ => rfl
  | _ :: _, [] => rfl
  | a :: l, b :: m => by
    have := map_beq l m
    by_cases hab : a = b
    · subst hab; simpa using this
    · have hne : a.toNat ≠ b.toNat := fun e => hab (UInt8.toNat_inj.1 e)
      simp only [List.map_cons, List.cons_beq_cons, beq_false_of_ne hne, beq_false_of_ne hab, Bool.false_and]
theorem toList_bytes (s : ByteArray) : s.toList = s.data.toList := by
  rw [ByteArray.toList]
  have loop : ∀ (n i : Nat) (acc : List UInt8), s.size - i = n → ByteArray.toList.loop s i acc = acc.reverse ++ s.data.toList.drop i := by
    intro n
    induction n with
    | zero =>
      intro i acc h
      rw [ByteArray.toList.loop]
      have : ¬ i < s.size := by omega
      simp [this]
      exact Nat.le_of_not_lt this
    | succ n ih =>
      intro i acc h
      rw [ByteArray.toList.loop]
      have hi : i < s.size := by omega
      simp only [hi, if_true]
      rw [ih (i + 1) _ (by omega)]
      have hl : i < s.data.toList.length := by simpa using hi
      rw [List.drop_eq_getElem_cons hl]
      have : i < s.data.size := by simpa using hi
      simp
      show s.get! i = _
      rw [ByteArray.get!]
      exact getElem!_pos s.data i this
  rw [loop s.size 0 [] (by simp)]
  simp
theorem bytes_eq {s t : ByteArray} : (s.data.toList.map UInt8.toNat == t.data.toList.map UInt8.toNat) = (s.toList == t.toList) := by
  rw [map_beq, toList_bytes, toList_bytes]
theorem ltB_ok : ∀ l m : List UInt8, ltB (l.map UInt8.toNat) (m.map UInt8.toNat) = Op.bytesLess l m
  | [], [] => rfl
  | [], _ :: _ => rfl
  | _ :: _, [] => rfl
  | a :: l, b :: m => by
    simp only [List.map_cons, ltB_cons, Op.bytesLess, ltB_ok l m]
    by_cases h : a = b
    · subst h; simp
    · have hne : a.toNat ≠ b.toNat := fun e => h (UInt8.toNat_inj.1 e)
      simp [h, hne, UInt8.lt_iff_toNat_lt]
theorem eqIn_p (d : Nat) (t e : TypeId) (p : Option Addr) (h : P.underlying t = some (.pointer e)) : (Op.equalIn (d + 1) t (.pointer p) (.pointer none)).run P w = .ok p.isNone w := by
  cases p <;> simp [Op.equalIn, run_underlying h]
theorem eqIn_l (d : Nat) (t e : TypeId) (p : Option Addr) (n c n' c' : Nat) (h : P.underlying t = some (.slice e)) : (Op.equalIn (d + 1) t (.slice p n c) (.slice none n' c')).run P w = .ok p.isNone w := by
  cases p <;> simp [Op.equalIn, run_underlying h]
theorem eqIn_f (d : Nat) (t : TypeId) (ps rs : Array TypeId) (b : Bool) (f : Go.Fn) (x y : Array Value) (h : P.underlying t = some (.func ps rs b)) : (Op.equalIn (d + 1) t (.func f x y) .nilFunc).run P w = .ok false w := by
  simp [Op.equalIn, run_underlying h]
theorem eqIn_g (d : Nat) (t : TypeId) (ps rs : Array TypeId) (b : Bool) (h : P.underlying t = some (.func ps rs b)) : (Op.equalIn (d + 1) t .nilFunc .nilFunc).run P w = .ok true w := by
  simp [Op.equalIn, run_underlying h]
theorem denB_ok {op : BinOp} {t : TypeId} {x y : Operand} {γ : Env} {f : (V → R) → R} (hf : denB P op t y (val γ x) (val γ y) = some f) {c : V → R} (h : f c = some out) :
    ∃ v, c v = some out ∧ ∀ (ρ : Ren) (a : Act) (w : World), EnvR ρ γ a → ∃ u, (do eqGuard op t x y (a.eval x) (a.eval y); binOp op t (a.eval x) (a.eval y) : Sem Value).run P w = .ok u w ∧ VR ρ v u := by
  have int : ∀ {u : Value} {k : IntKind} {n : Int}, u = .int k n → ∀ v w, (eqGuard op t x y u v).run P w = .ok () w := fun e v w => by subst e; exact eqGuard_ok _ _ _ _ _ _ rfl (by simp)
  unfold denB at hf
  cases hu : P.underlying t with
  | none => rw [hu] at hf; cases hf
  | some d =>
    rw [hu] at hf
    cases d <;> try (cases hf; done)
    case int k =>
      simp only at hf
      cases hi : intOp op with
      | none => rw [hi] at hf; cases hf
      | some g =>
        rw [hi] at hf; cases hf
        obtain ⟨v, hv, hr⟩ := intOp_ok hi h
        refine ⟨v, hv, fun ρ a w he => ?_⟩
        obtain ⟨u, h1, h2⟩ := hr ρ _ _ (he.val x) (he.val y) t w
        refine ⟨u, ?_, h2⟩
        have hone : (a.eval x).oneCell' = true ∧ a.eval x ≠ .nilIface := by
          have hx := he.val x
          have : ∃ k n, val γ x = .i k n := by
            cases op <;> simp only [intOp, Option.some.injEq, reduceCtorEq] at hi <;> subst hi <;> (obtain ⟨k, p, e1, _⟩ := vI_some h; exact ⟨_, _, e1⟩)
          obtain ⟨k, n, e⟩ := this
          rw [e] at hx
          rw [hx.i_inv.1]; exact ⟨rfl, by simp⟩
        simp only [Sem.run_bind, eqGuard_ok _ _ _ _ _ _ hone.1 hone.2, Result.andThen_ok]; exact h1
    case bool =>
      have key : ∀ wnt : Bool, pEqB wnt (val γ x) (val γ y) c = some out → ∃ v, c v = some out ∧ ∀ (ρ : Ren) (a : Act) (w : World), EnvR ρ γ a → ∃ p q, a.eval x = .bool p ∧ a.eval y = .bool q ∧ VR ρ v (.bool (if wnt then p == q else !(p == q))) := fun wnt h => by
        obtain ⟨p, hx, h1⟩ := vB_some h
        obtain ⟨q, hy, h2⟩ := vB_some h1
        refine ⟨_, of_b h2, fun ρ a w he => ⟨p, q, ?_, ?_, ?_⟩⟩
        · have := he.val x; rw [hx] at this; exact this.b_inv
        · have := he.val y; rw [hy] at this; exact this.b_inv
        · cases wnt <;> cases p <;> cases q <;> exact .b _
      cases op <;> simp only [Option.some.injEq, reduceCtorEq] at hf <;> subst hf
      · obtain ⟨v, hv, hr⟩ := key true h
        refine ⟨v, hv, fun ρ a w he => ?_⟩
        obtain ⟨p, q, e1, e2, e3⟩ := hr ρ a w he
        refine ⟨_, ?_, e3⟩
        rw [e1, e2]
        simp only [Sem.run_bind, eqGuard_ok _ _ _ _ _ _ (show (Value.bool p).oneCell' = true from rfl) (by simp), Result.andThen_ok, binOp, run_equal_bool w t p q hu, Sem.run_pure, if_true]
      · obtain ⟨v, hv, hr⟩ := key false h
        refine ⟨v, hv, fun ρ a w he => ?_⟩
        obtain ⟨p, q, e1, e2, e3⟩ := hr ρ a w he
        refine ⟨_, ?_, e3⟩
        rw [e1, e2]
        simp only [Sem.run_bind, eqGuard_ok _ _ _ _ _ _ (show (Value.bool p).oneCell' = true from rfl) (by simp), Result.andThen_ok, binOp, run_equal_bool w t p q hu, Sem.run_pure, Bool.false_eq_true, if_false]
    case string =>
      have str : ∀ {ρ : Ren} {v : V} {l : List Nat} {u : Value}, v = .s l → VR ρ v u → ∃ s : ByteArray, u = .string s ∧ s.data.toList.map UInt8.toNat = l := fun e h => by subst e; exact h.s_inv
      have go : ∀ (s r : ByteArray) (w : World) (u : Value), (Op.stringOp op s r).run P w = .ok u w → (do eqGuard op t x y (.string s) (.string r); binOp op t (.string s) (.string r) : Sem Value).run P w = .ok u w := fun s r w u h => by
        simp only [Sem.run_bind, eqGuard_ok _ _ _ _ _ _ (show (Value.string s).oneCell' = true from rfl) (by simp), Result.andThen_ok]
        have : binOp op t (.string s) (.string r) = Op.stringOp op s r := by cases op <;> rfl
        rw [this]; exact h
      have eqs : ∀ wnt : Bool, pEqS wnt (val γ x) (val γ y) c = some out → ∃ v, c v = some out ∧ ∀ (ρ : Ren) (a : Act) (w : World), EnvR ρ γ a → ∃ s r : ByteArray, a.eval x = .string s ∧ a.eval y = .string r ∧ VR ρ v (.bool (if wnt then s.toList == r.toList else !(s.toList == r.toList))) := fun wnt h => by
        obtain ⟨l, hx, h1⟩ := vS_some h
        obtain ⟨m, hy, h2⟩ := vS_some h1
        refine ⟨_, of_b h2, fun ρ a w he => ?_⟩
        obtain ⟨s, e1, f1⟩ := str hx (he.val x)
        obtain ⟨r, e2, f2⟩ := str hy (he.val y)
        refine ⟨s, r, e1, e2, ?_⟩
        rw [eqB_eq, ← f1, ← f2, bytes_eq]
        cases wnt <;> cases (s.toList == r.toList) <;> exact .b _
      cases op <;> simp only [Option.some.injEq, reduceCtorEq] at hf <;> subst hf
      · -- add
        obtain ⟨l, hx, h1⟩ := vS_some h
        obtain ⟨m, hy, h2⟩ := vS_some h1
        rw [lenL_zero, lenL_zero] at h2
        obtain ⟨h3, h4⟩ := gu_some h2
        rw [appK_eq] at h4
        refine ⟨_, h4, fun ρ a w he => ?_⟩
        obtain ⟨s, e1, f1⟩ := str hx (he.val x)
        obtain ⟨r, e2, f2⟩ := str hy (he.val y)
        rw [e1, e2]
        have hs : s.size = l.length := by rw [← f1]; simp
        have hr : r.size = m.length := by rw [← f2]; simp
        have hle := Nat.le_of_ble_eq_true h3
        have hle' : l.length + m.length ≤ 1073741824 := hle
        refine ⟨.string (s ++ r), go s r w _ ?_, .s _ _ ?_⟩
        · have hn : ¬ (((s.size + r.size : Nat) : Int) > IntKind.i64.max) := by
            rw [hs, hr]; have : IntKind.i64.max = 9223372036854775807 := by decide
            rw [this]; omega
          simp only [Op.stringOp, hn, if_false]; rfl
        · rw [← f1, ← f2]; simp
      · obtain ⟨v, hv, hr⟩ := eqs true h
        exact ⟨v, hv, fun ρ a w he => by obtain ⟨s, r, e1, e2, e3⟩ := hr ρ a w he; rw [e1, e2]; exact ⟨_, go s r w _ rfl, e3⟩⟩
      · obtain ⟨v, hv, hr⟩ := eqs false h
        exact ⟨v, hv, fun ρ a w he => by obtain ⟨s, r, e1, e2, e3⟩ := hr ρ a w he; rw [e1, e2]; exact ⟨_, go s r w _ rfl, e3⟩⟩
      · -- lss
        obtain ⟨l, hx, h1⟩ := vS_some h
        obtain ⟨m, hy, h2⟩ := vS_some h1
        refine ⟨_, of_b h2, fun ρ a w he => ?_⟩
        obtain ⟨s, e1, f1⟩ := str hx (he.val x)
        obtain ⟨r, e2, f2⟩ := str hy (he.val y)
        rw [e1, e2]
        refine ⟨_, go s r w _ rfl, ?_⟩
        rw [← f1, ← f2, ltB_ok, toList_bytes, toList_bytes]; exact .b _
    case pointer e =>
      simp only at hf
      cases hy : isNilP y <;> rw [hy] at hf <;> simp only [cond_false, cond_true, reduceCtorEq] at hf
      have := isNilP_eq hy; subst this
      cases op <;> simp only [Option.some.injEq, reduceCtorEq] at hf <;> subst hf
      all_goals
        rcases vPn_some h with ⟨i, o, hx, h1⟩ | ⟨hx, h1⟩
        · refine ⟨_, of_b h1, fun ρ a w he => ?_⟩
          have hv := he.val x; rw [hx] at hv
          obtain ⟨L, _, _, e1⟩ := hv.p_inv
          rw [e1]
          refine ⟨_, ?_, .b _⟩
          simp only [Sem.run_bind, eqGuard_ok _ _ _ _ _ _ (show (Value.pointer _).oneCell' = true from rfl) (by simp), Result.andThen_ok]
          simp only [binOp, Act.eval, Sem.run_bind, Op.equal, Op.maxDepth, eqIn_p 9999 t e _ hu, Result.andThen_ok, Sem.run_pure]; first | rfl | simp
        · refine ⟨_, of_b h1, fun ρ a w he => ?_⟩
          have hv := he.val x; rw [hx] at hv
          have e1 : a.eval x = .pointer none := hv.pn_inv
          rw [e1]
          refine ⟨_, ?_, .b _⟩
          simp only [Sem.run_bind, eqGuard_ok _ _ _ _ _ _ (show (Value.pointer _).oneCell' = true from rfl) (by simp), Result.andThen_ok]
          simp only [binOp, Act.eval, Sem.run_bind, Op.equal, Op.maxDepth, eqIn_p 9999 t e _ hu, Result.andThen_ok, Sem.run_pure]; first | rfl | simp
    case slice e =>
      simp only at hf
      cases hy : isNilL y <;> rw [hy] at hf <;> simp only [cond_false, cond_true, reduceCtorEq] at hf
      obtain ⟨n, q, rfl⟩ := isNilL_eq hy
      cases op <;> simp only [Option.some.injEq, reduceCtorEq] at hf <;> subst hf
      all_goals
        rcases vLn_some h with ⟨hx, h1⟩ | ⟨i, o, m, hs, h1⟩
        · refine ⟨_, of_b h1, fun ρ a w he => ?_⟩
          have hv := he.val x; rw [hx] at hv
          have e1 : a.eval x = .slice none 0 0 := hv.sn_inv
          rw [e1]
          refine ⟨_, ?_, .b _⟩
          simp only [Sem.run_bind, eqGuard_ok _ _ _ _ _ _ (show (Value.slice _ _ _).oneCell' = true from rfl) (by simp), Result.andThen_ok]
          simp only [binOp, Act.eval, Sem.run_bind, Op.equal, Op.maxDepth, eqIn_l 9999 t e _ _ _ _ _ hu, Result.andThen_ok, Sem.run_pure]; first | rfl | simp
        · refine ⟨_, of_b h1, fun ρ a w he => ?_⟩
          obtain ⟨L, o', c', _, _, e1, _⟩ := (he.val x).sl_any hs
          rw [e1]
          refine ⟨_, ?_, .b _⟩
          simp only [Sem.run_bind, eqGuard_ok _ _ _ _ _ _ (show (Value.slice _ _ _).oneCell' = true from rfl) (by simp), Result.andThen_ok]
          simp only [binOp, Act.eval, Sem.run_bind, Op.equal, Op.maxDepth, eqIn_l 9999 t e _ _ _ _ _ hu, Result.andThen_ok, Sem.run_pure]; first | rfl | simp
    case func p r v =>
      simp only at hf
      cases hy : isNilF y <;> rw [hy] at hf <;> simp only [cond_false, cond_true, reduceCtorEq] at hf
      have := isNilF_eq hy; subst this
      cases op <;> simp only [Option.some.injEq, reduceCtorEq] at hf <;> subst hf
      all_goals
        rcases vFn_some h with ⟨hx, h1⟩ | ⟨⟨i, o, hx⟩, h1⟩
        · refine ⟨_, of_b h1, fun ρ a w he => ?_⟩
          have hv := he.val x; rw [hx] at hv
          have e1 : a.eval x = .nilFunc := hv.fn0_inv
          rw [e1]
          refine ⟨_, ?_, .b _⟩
          simp only [Sem.run_bind, eqGuard_ok _ _ _ _ _ _ (show (Value.nilFunc).oneCell' = true from rfl) (by simp), Result.andThen_ok]
          simp only [binOp, Act.eval, Sem.run_bind, Op.equal, Op.maxDepth, eqIn_f 9999 t p r v _ _ _ hu, eqIn_g 9999 t p r v hu, Result.andThen_ok, Sem.run_pure]; try rfl
        · refine ⟨_, of_b h1, fun ρ a w he => ?_⟩
          have hv := he.val x; rw [hx] at hv
          obtain ⟨us, e1, _⟩ := hv.f_inv
          rw [e1]
          refine ⟨_, ?_, .b _⟩
          simp only [Sem.run_bind, eqGuard_ok _ _ _ _ _ _ (show (Value.func _ _ _).oneCell' = true from rfl) (by simp), Result.andThen_ok]
          simp only [binOp, Act.eval, Sem.run_bind, Op.equal, Op.maxDepth, eqIn_f 9999 t p r v _ _ _ hu, eqIn_g 9999 t p r v hu, Result.andThen_ok, Sem.run_pure]; try rfl
end Go.AM

/- Equality of two structs. -/
namespace Go.AM
set_option linter.unusedVariables false
set_option linter.unusedSimpArgs false
variable {out : V × St} {ρ : Ren} {P : Program} {w : World} {a : Act}
/-- which cells of a value of the type are compared -/
def flatF (P : Program) (rec : TypeId → Option (List (Nat × Nat))) (n : Nat) : List Field → Option (List (Nat × Nat))
  | [] => some []
  | f :: fs => match rec f.type, P.info? f.type, aggP P f.type, flatF P rec n fs with
    | some is, some i, some g, some r => cond (!(f.name == "_") && is.all (fun j => Nat.blt j.1 i.size) && (g || Nat.beq i.size 1) && Nat.ble (f.offset + i.size) n) (some (is.map (fun j => (f.offset + j.1, j.2)) ++ r)) none
    | _, _, _, _ => none
def flatB (P : Program) : Nat → TypeId → Option (List (Nat × Nat))
  | 0, _ => none
  | d + 1, t => match P.underlying t with
    | some .bool => some [(0, 0)]
    | some (.int _) => some [(0, 1)]
    | some .string => some [(0, 2)]
    | some (.struct fs) => match P.info? t with
      | some i => cond (P.stoodInHeld t) none (flatF P (flatB P d) i.size fs.toList)
      | none => none
    | _ => none
def KT (P : Program) (t : TypeId) : Nat → Prop
  | 0 => P.underlying t = some .bool
  | 1 => ∃ k, P.underlying t = some (.int k)
  | _ => P.underlying t = some .string
theorem blt_lt' {a b : Nat} (h : Nat.blt a b = true) : a < b := Nat.le_of_ble_eq_true h
theorem toArray' {l : List V} {m : Array Value} (h : VRs ρ l m.toList) (i : Nat) {v : V} (hv : l[i]? = some v) : ∃ u, m[i]? = some u ∧ VR ρ v u := by
  obtain ⟨u, h1, h2⟩ := h.get hv; exact ⟨u, by simpa using h1, h2⟩
theorem eqC_ok {q : Nat} {x y : V} {k : Bool → R} (h : eqC q x y k = some out) : ∃ b, k b = some out ∧ ∀ (ρ : Ren) (xu yu : Value), VR ρ x xu → VR ρ y yu → ∀ (D : Nat) (t : TypeId) (w : World), KT P t q → (Op.equalIn (D + 1) t xu yu).run P w = .ok b w := by
  match q, h with
  | 0, h =>
    obtain ⟨p, rfl, h0⟩ := vB_some (show vB x (fun a => vB y (fun b => k (Bool.rec (Bool.not b) b a))) = some out from h)
    obtain ⟨q, rfl, h1⟩ := vB_some h0
    refine ⟨_, h1, fun ρ xu yu hx hy D t w hb => ?_⟩
    have e1 := hx.b_inv; have e2 := hy.b_inv
    subst e1 e2
    rw [run_equalIn_bool w D t p q hb]
    cases p <;> cases q <;> rfl
  | 1, h =>
    obtain ⟨d, p, rfl, h0⟩ := vI_some (show vI x (fun d a => vI y (fun d' b => gu (Nat.beq (kNo d) (kNo d')) (k (Nat.beq a b)))) = some out from h)
    obtain ⟨d', q, rfl, h1⟩ := vI_some h0
    obtain ⟨h2, h3⟩ := gu_some h1
    have := kNo_inj h2
    subst this
    refine ⟨_, h3, fun ρ xu yu hx hy D t w hi => ?_⟩
    obtain ⟨e1, hp⟩ := hx.i_inv; obtain ⟨e2, hq⟩ := hy.i_inv
    subst e1 e2
    obtain ⟨kk, hk⟩ := hi
    rw [run_equalIn_int w D t d kk _ _ hk, beq_dec hp hq]
  | n + 2, h =>
    obtain ⟨l, rfl, h0⟩ := vS_some (show vS x (fun a => vS y (fun b => k (eqB a b))) = some out from h)
    obtain ⟨m, rfl, h1⟩ := vS_some h0
    refine ⟨_, h1, fun ρ xu yu hx hy D t w hs => ?_⟩
    obtain ⟨s, e1, f1⟩ := hx.s_inv; obtain ⟨r, e2, f2⟩ := hy.s_inv
    subst e1 e2
    rw [run_equalIn_string w D t s r hs, eqB_eq, ← f1, ← f2, bytes_eq]
theorem eqC_mono {q : Nat} {x y : V} {K K' : Bool → R} (hK : ∀ e, K e = some out → K' e = some out) (h : eqC q x y K = some out) : eqC q x y K' = some out := by
  match q, h with
  | 0, h =>
    obtain ⟨p, rfl, h0⟩ := vB_some (show vB x (fun a => vB y (fun b => K (Bool.rec (Bool.not b) b a))) = some out from h)
    obtain ⟨q, rfl, h1⟩ := vB_some h0
    exact hK _ h1
  | 1, h =>
    obtain ⟨d, p, rfl, h0⟩ := vI_some (show vI x (fun d a => vI y (fun d' b => gu (Nat.beq (kNo d) (kNo d')) (K (Nat.beq a b)))) = some out from h)
    obtain ⟨d', q, rfl, h1⟩ := vI_some h0
    obtain ⟨h2, h3⟩ := gu_some h1
    show gu _ _ = _
    rw [h2]; exact hK _ h3
  | n + 2, h =>
    obtain ⟨l, rfl, h0⟩ := vS_some (show vS x (fun a => vS y (fun b => K (eqB a b))) = some out from h)
    obtain ⟨m, rfl, h1⟩ := vS_some h0
    exact hK _ h1
/-- one cell, then the rest -/
theorem eqIx_cons (l m : List V) (i q : Nat) (r : List (Nat × Nat)) (k : Bool → R) : eqIx l m ((i, q) :: r) k = nthK l i (fun x => nthK m i (fun y => eqC q x y (fun e => cond e (eqIx l m r k) (k false)))) := by
  show nthK l i (fun x => nthK m i (fun y => eqC q x y (fun e => @Bool.rec (fun _ => (List V → List V → (Bool → R) → R) → List V → List V → (Bool → R) → R) (fun _ _ _ k => k false) (fun ih l m k => ih l m k) e (fun l m k => eqIx l m r k) l m k))) = _
  congr 1; funext x; congr 1; funext y; congr 1; funext e
  cases e <;> rfl
theorem eqIx_app (l m : List V) : ∀ (a b : List (Nat × Nat)) (k : Bool → R), eqIx l m (a ++ b) k = eqIx l m a (fun e => cond e (eqIx l m b k) (k false))
  | [], b, k => rfl
  | (i, q) :: a, b, k => by
    rw [List.cons_append, eqIx_cons, eqIx_cons]
    congr 1; funext x; congr 1; funext y; congr 1; funext e
    cases e
    · rfl
    · exact eqIx_app l m a b k
theorem nthK_get {l : List V} {i : Nat} {v : V} (h : l[i]? = some v) (k : V → R) : nthK l i k = k v := by
  induction l generalizing i with
  | nil => simp at h
  | cons x l ih => cases i with
    | zero => simp at h; subst h; rfl
    | succ i => exact ih (by simpa using h)
/-- in a part of the rows -/
theorem eqIx_sub (l m : List V) (o n : Nat) : ∀ (is : List (Nat × Nat)) {k : Bool → R}, (∀ j ∈ is, j.1 < n) → eqIx l m (is.map fun j => (o + j.1, j.2)) k = some out → eqIx ((l.drop o).take n) ((m.drop o).take n) is k = some out
  | [], k, _, h => h
  | (j, q) :: is, k, hj, h => by
    have hlt : j < n := hj (j, q) (List.mem_cons_self ..)
    rw [List.map_cons, eqIx_cons] at h
    obtain ⟨x, h1, h2⟩ := nthK_some _ _ _ h
    obtain ⟨y, h3, h4⟩ := nthK_some _ _ _ h2
    have g1 : ((l.drop o).take n)[j]? = some x := by rw [List.getElem?_take_of_lt hlt, List.getElem?_drop]; exact h1
    have g3 : ((m.drop o).take n)[j]? = some y := by rw [List.getElem?_take_of_lt hlt, List.getElem?_drop]; exact h3
    rw [eqIx_cons, nthK_get g1, nthK_get g3]
    refine eqC_mono (fun e he => ?_) h4
    cases e
    · exact he
    · exact eqIx_sub l m o n is (fun j hj' => hj j (List.mem_cons_of_mem _ hj')) he
/-- the cells of a value of a type -/
def CellsT (P : Program) (ρ : Ren) (t : TypeId) (l : List V) (u : Value) : Prop := (aggP P t = some true ∧ (∃ xs : Array Value, u = .agg xs ∧ VRs ρ l xs.toList) ∧ ∃ i, P.info? t = some i ∧ l.length = i.size) ∨ (aggP P t = some false ∧ ∃ x, l = [x] ∧ VR ρ x u)
theorem part_cells {t : TypeId} {i : TypeInfo} {g : Bool} (hi : P.info? t = some i) (hg : aggP P t = some g) (hs : g = true ∨ i.size = 1) {l : List V} {xs : Array Value} (h : VRs ρ l xs.toList) (o : Nat) (ho : o + i.size ≤ l.length) :
    ∃ u, (part t xs o).run P w = .ok u w ∧ CellsT P ρ t ((l.drop o).take i.size) u := by
  cases g
  · have h1 : i.size = 1 := by rcases hs with h | h; cases h; exact h
    have hlt : o < l.length := by omega
    obtain ⟨u, h2, h3⟩ := toArray' h o (List.getElem?_eq_getElem hlt)
    refine ⟨u, by simp only [part, Sem.run_bind, run_isAgg hg, Result.andThen_ok, Bool.false_eq_true, if_false, h2, Sem.run_pure], .inr ⟨hg, l[o], ?_, h3⟩⟩
    rw [h1, List.drop_eq_getElem_cons hlt]; rfl
  · refine ⟨.agg (xs.extract o (o + i.size)), by simp only [part, Sem.run_bind, run_isAgg hg, Result.andThen_ok, if_true, run_size hi, Sem.run_pure], .inl ⟨hg, ⟨_, rfl, ?_⟩, i, hi, by simp; omega⟩⟩
    have e2 : (xs.extract o (o + i.size)).toList = (xs.toList.drop o).take i.size := by simp [Array.toList_extract, List.extract_eq_take_drop]
    rw [e2]; exact (h.drop _).take _
theorem fields_ok {rec : TypeId → Option (List (Nat × Nat))} {d n : Nat} (hrec : ∀ (t : TypeId) (idx : List (Nat × Nat)), rec t = some idx → ∀ (l m : List V) (k : Bool → R), eqIx l m idx k = some out → ∃ b, k b = some out ∧ ∀ (ρ : Ren) (xu yu : Value) (D : Nat) (w : World), d ≤ D → CellsT P ρ t l xu → CellsT P ρ t m yu → (Op.equalIn D t xu yu).run P w = .ok b w) :
    ∀ (fs : List Field) (idx : List (Nat × Nat)), flatF P rec n fs = some idx → ∀ (l m : List V) (k : Bool → R), eqIx l m idx k = some out →
      ∃ b, k b = some out ∧ ∀ (ρ : Ren) (xs ys : Array Value) (D : Nat) (w : World), d ≤ D → l.length = n → m.length = n → VRs ρ l xs.toList → VRs ρ m ys.toList → (Op.eqFields D xs ys fs).run P w = .ok b w
  | [], idx, hf, l, m, k, h => by cases hf; exact ⟨true, h, fun ρ xs ys D w _ _ _ _ _ => rfl⟩
  | f :: fs, idx, hf, l, m, k, h => by
    simp only [flatF] at hf
    cases h1 : rec f.type with
    | none => rw [h1] at hf; cases hf
    | some is =>
      cases h2 : P.info? f.type with
      | none => rw [h1, h2] at hf; cases hf
      | some i =>
        cases h3 : aggP P f.type with
        | none => rw [h1, h2, h3] at hf; cases hf
        | some g =>
          cases h4 : flatF P rec n fs with
          | none => rw [h1, h2, h3, h4] at hf; cases hf
          | some r =>
            rw [h1, h2, h3, h4] at hf; simp only at hf
            cases hc : (!(f.name == "_") && is.all (fun j => Nat.blt j.1 i.size) && (g || Nat.beq i.size 1) && Nat.ble (f.offset + i.size) n) <;> rw [hc] at hf <;> simp only [cond_true, cond_false, reduceCtorEq, Option.some.injEq] at hf
            subst hf
            simp only [Bool.and_eq_true] at hc
            obtain ⟨⟨⟨c1, c2⟩, c3⟩, c4⟩ := hc
            have c4 := Nat.le_of_ble_eq_true c4
            rw [eqIx_app] at h
            have hsub := eqIx_sub l m f.offset i.size is (fun j hj => by have := List.all_eq_true.1 c2 j hj; exact blt_lt' this) h
            obtain ⟨b, hb1, hb2⟩ := hrec f.type is h1 _ _ _ hsub
            have hne : f.name ≠ "_" := by intro e; rw [e] at c1; simp at c1
            have hsz : g = true ∨ i.size = 1 := by
              cases g
              · right; exact Nat.eq_of_beq_eq_true (by simpa using c3)
              · left; rfl
            cases b
            · refine ⟨false, hb1, fun ρ xs ys D w hD hln hmn hx hy => ?_⟩
              obtain ⟨u, p1, p2⟩ := part_cells (w := w) h2 h3 hsz hx f.offset (by omega)
              obtain ⟨v, q1, q2⟩ := part_cells (w := w) h2 h3 hsz hy f.offset (by omega)
              simp only [Op.eqFields, hne, ne_eq, not_false_eq_true, if_true, Sem.run_bind, p1, q1, Result.andThen_ok, hb2 ρ u v D w hD p2 q2, Bool.not_false, Sem.run_pure]
            · obtain ⟨b, hb3, hb4⟩ := fields_ok hrec fs r h4 l m k hb1
              refine ⟨b, hb3, fun ρ xs ys D w hD hln hmn hx hy => ?_⟩
              obtain ⟨u, p1, p2⟩ := part_cells (w := w) h2 h3 hsz hx f.offset (by omega)
              obtain ⟨v, q1, q2⟩ := part_cells (w := w) h2 h3 hsz hy f.offset (by omega)
              simp only [Op.eqFields, hne, ne_eq, not_false_eq_true, if_true, Sem.run_bind, p1, q1, Result.andThen_ok, hb2 ρ u v D w hD p2 q2, Bool.not_true, Bool.false_eq_true, if_false, hb4 ρ xs ys D w hD hln hmn hx hy]
theorem flat_ok : ∀ (d : Nat) (t : TypeId) (idx : List (Nat × Nat)), flatB P d t = some idx → ∀ (l m : List V) (k : Bool → R), eqIx l m idx k = some out → ∃ b, k b = some out ∧ ∀ (ρ : Ren) (xu yu : Value) (D : Nat) (w : World), d ≤ D → CellsT P ρ t l xu → CellsT P ρ t m yu → (Op.equalIn D t xu yu).run P w = .ok b w
  | 0, t, idx, hf, _, _, _, _ => by cases hf
  | d + 1, t, idx, hf, l, m, k, h => by
    have cell : ∀ q, KT P t q → aggP P t = some false → eqIx l m [(0, q)] k = some out → ∃ b, k b = some out ∧ ∀ (ρ : Ren) (xu yu : Value) (D : Nat) (w : World), d + 1 ≤ D → CellsT P ρ t l xu → CellsT P ρ t m yu → (Op.equalIn D t xu yu).run P w = .ok b w := fun q hq hg h => by
      rw [eqIx_cons] at h
      obtain ⟨x, h1, h2⟩ := nthK_some _ _ _ h
      obtain ⟨y, h3, h4⟩ := nthK_some _ _ _ h2
      obtain ⟨b, h5, h6⟩ := eqC_ok h4
      have h7 : k b = some out := by cases b <;> exact h5
      refine ⟨b, h7, fun ρ xu yu D w hD hx hy => ?_⟩
      rcases hx with ⟨e, _⟩ | ⟨_, x', rfl, hx⟩
      · rw [hg] at e; cases e
      · rcases hy with ⟨e, _⟩ | ⟨_, y', rfl, hy⟩
        · rw [hg] at e; cases e
        · simp at h1 h3
          subst h1 h3
          obtain ⟨D', rfl⟩ : ∃ D', D = D' + 1 := ⟨D - 1, by omega⟩
          exact h6 ρ xu yu hx hy D' t w hq
    simp only [flatB] at hf
    cases hu : P.underlying t with
    | none => rw [hu] at hf; cases hf
    | some dd =>
      rw [hu] at hf
      cases dd <;> try (cases hf; done)
      case bool => cases hf; exact cell 0 hu (by simp [aggP, hu]) h
      case int kk => cases hf; exact cell 1 ⟨kk, hu⟩ (by simp [aggP, hu]) h
      case string => cases hf; exact cell 2 hu (by simp [aggP, hu]) h
      case struct fs =>
        simp only at hf
        cases hi : P.info? t with
        | none => rw [hi] at hf; cases hf
        | some i =>
          rw [hi] at hf; simp only at hf
          cases hp : P.stoodInHeld t <;> rw [hp] at hf <;> simp only [cond_true, cond_false, reduceCtorEq] at hf
          obtain ⟨b, h1, h2⟩ := fields_ok (P := P) (flat_ok d) fs.toList idx hf l m k h
          have hg : aggP P t = some true := by simp [aggP, hu]
          refine ⟨b, h1, fun ρ xu yu D w hD hx hy => ?_⟩
          rcases hx with ⟨_, ⟨xs, rfl, hx⟩, i1, hi1, hl1⟩ | ⟨e, _⟩
          · rcases hy with ⟨_, ⟨ys, rfl, hy⟩, i2, hi2, hl2⟩ | ⟨e, _⟩
            · rw [hi] at hi1 hi2; cases hi1; cases hi2
              obtain ⟨D', rfl⟩ : ∃ D', D = D' + 1 := ⟨D - 1, by omega⟩
              have hfo : P.fieldsOf t = fs := by simp [Program.fieldsOf, hu]
              rw [run_equalIn_struct w D' t xs ys (by rw [hfo]; exact hu) hp, hfo]
              exact h2 ρ xs ys D' w (by omega) hl1 hl2 hx hy
            · rw [hg] at e; cases e
          · rw [hg] at e; cases e
/-- equality of two structs -/
noncomputable def denE (P : Program) (op : BinOp) (t : TypeId) (a b : V) : Option ((V → R) → R) :=
  match flatB P 12 t, P.info? t, P.eqGuardType P.depth t, P.underlying t with
  | some idx, some i, false, some (.struct _) => (match op with
    | .eql => some (pEqA true i.size idx a b)
    | .neq => some (pEqA false i.size idx a b)
    | _ => none)
  | _, _, _, _ => none
theorem denE_ok {op : BinOp} {t : TypeId} {x y : Operand} {γ : Env} {f : (V → R) → R} (hf : denE P op t (val γ x) (val γ y) = some f) {c : V → R} (h : f c = some out) :
    ∃ v, c v = some out ∧ ∀ (ρ : Ren) (a : Act) (w : World), EnvR ρ γ a → ∃ u, (do eqGuard op t x y (a.eval x) (a.eval y); binOp op t (a.eval x) (a.eval y) : Sem Value).run P w = .ok u w ∧ VR ρ v u := by
  unfold denE at hf
  cases h1 : flatB P 12 t with
  | none => rw [h1] at hf; cases hf
  | some idx =>
    cases h2 : P.info? t with
    | none => rw [h1, h2] at hf; cases hf
    | some i =>
      cases h3 : P.eqGuardType P.depth t with
      | true => rw [h1, h2, h3] at hf; cases hf
      | false =>
        cases h4 : P.underlying t with
        | none => rw [h1, h2, h3, h4] at hf; cases hf
        | some dd =>
          rw [h1, h2, h3, h4] at hf
          cases dd <;> try (cases hf; done)
          rename_i fs
          have key : ∀ wnt : Bool, pEqA wnt i.size idx (val γ x) (val γ y) c = some out → ∃ b, c (.b (if wnt then b else !b)) = some out ∧ ∀ (ρ : Ren) (a : Act) (w : World), EnvR ρ γ a → ∃ xs ys : Array Value, a.eval x = .agg xs ∧ a.eval y = .agg ys ∧ (Op.equalIn 10000 t (.agg xs) (.agg ys)).run P w = .ok b w := fun wnt h => by
            obtain ⟨l, hx, g1⟩ := vA_some h
            obtain ⟨m, hy, g2⟩ := vA_some g1
            rw [lenL_zero, lenL_zero] at g2
            obtain ⟨g3, g4⟩ := gu_some g2
            simp only [Bool.and_eq_true] at g3
            have e1 := Nat.eq_of_beq_eq_true g3.1
            have e2 := Nat.eq_of_beq_eq_true g3.2
            obtain ⟨b, g5, g6⟩ := flat_ok 12 t idx h1 l m _ g4
            rw [retB_eq] at g5
            refine ⟨b, by cases wnt <;> cases b <;> exact g5, fun ρ a w he => ?_⟩
            have ex := he.val x; rw [hx] at ex
            have ey := he.val y; rw [hy] at ey
            obtain ⟨xs, f1, f2⟩ := ex.ag_inv
            obtain ⟨ys, f3, f4⟩ := ey.ag_inv
            have hg : aggP P t = some true := by simp [aggP, h4]
            exact ⟨xs, ys, f1, f3, g6 ρ _ _ 10000 w (by decide) (.inl ⟨hg, ⟨xs, rfl, f2⟩, i, h2, e1⟩) (.inl ⟨hg, ⟨ys, rfl, f4⟩, i, h2, e2⟩)⟩
          cases op <;> simp only [Option.some.injEq, reduceCtorEq] at hf <;> subst hf
          · obtain ⟨b, k1, k2⟩ := key true h
            refine ⟨_, k1, fun ρ a w he => ?_⟩
            obtain ⟨xs, ys, f1, f2, f3⟩ := k2 ρ a w he
            rw [f1, f2]
            refine ⟨_, ?_, .b _⟩
            simp only [Sem.run_bind, run_eqGuard_agg w .eql t x y xs ys h3, Result.andThen_ok, run_eql_struct, f3, if_true]
          · obtain ⟨b, k1, k2⟩ := key false h
            refine ⟨_, k1, fun ρ a w he => ?_⟩
            obtain ⟨xs, ys, f1, f2, f3⟩ := k2 ρ a w he
            rw [f1, f2]
            refine ⟨_, ?_, .b _⟩
            simp only [Sem.run_bind, run_eqGuard_agg w .neq t x y xs ys h3, Result.andThen_ok, run_neq_struct, f3, Bool.false_eq_true, if_false]
end Go.AM
