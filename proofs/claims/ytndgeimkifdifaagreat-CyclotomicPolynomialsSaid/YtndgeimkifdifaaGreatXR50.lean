/- Functions of small fractions, as tables. -/
import Derived.Test.YtndgeimkifdifaaGreatR50
import Derived.Test.YtndgeimkifdifaaGreatXN
set_option linter.unusedVariables false
set_option maxRecDepth 100000
namespace Go.AM
open Go.Proofs
open Go.AM.Q
noncomputable section
theorem chk38 : chkI F38 = true := by kernel_rfl
def F38q : Gn 1 := tabI F38
theorem K38q : FOK Tryz.prog 38 (un 1 F38q) := tabI_ok K38 chk38
theorem chk106 : chkI F106 = true := by kernel_rfl
def F106q : Gn 1 := tabI F106
theorem K106q : FOK Tryz.prog 106 (un 1 F106q) := tabI_ok K106 chk106
theorem chk83 : chk1 F83 signV 64 = true := by kernel_rfl
def F83q : Gn 1 := tab1 F83 64 signV
theorem K83q : FOK Tryz.prog 83 (un 1 F83q) := tab1_ok K83 signV_flat chk83
def okV0 (s : Bool) (x : Nat) : V := nn 0
theorem chk82 : chk1 F82 okV0 64 = true := by kernel_rfl
def F82q : Gn 1 := tab1 F82 64 okV0
theorem K82q : FOK Tryz.prog 82 (un 1 F82q) := tab1_ok K82 (fun _ _ => rfl) chk82
theorem chk84 : chk F84 sumP 64 8 = true := by kernel_rfl
def F84q : Gn 2 := tab F84 64 8 sumK
theorem K84q : FOK Tryz.prog 84 (un 2 F84q) := tab_ok K84 sumK_eq chk84
theorem chk85 : chk F85 mulP 8 8 = true := by kernel_rfl
def F85q : Gn 2 := tab F85 8 8 mulK
theorem K85q : FOK Tryz.prog 85 (un 2 F85q) := tab_ok K85 mulK_eq chk85
theorem chk183 : chk F183 mulP 8 4 = true := by kernel_rfl
def F183q : Gn 2 := tab F183 8 4 mulK
theorem K183q : FOK Tryz.prog 183 (un 2 F183q) := tab_ok K183 mulK_eq chk183
theorem chk213 : chk F213 subP 8 8 = true := by kernel_rfl
def F213q : Gn 2 := tab F213 8 8 subK
theorem K213q : FOK Tryz.prog 213 (un 2 F213q) := tab_ok K213 subK_eq chk213
theorem add_q {a b : Int} (ha : a.natAbs < 64) (hb : b.natAbs < 8) (S : St) (k : Cont) : F84q (zv a) (zv b) S k = k (zv (a + b)) S := by
  unfold F84q; rw [tab_zv sumK_eq ha hb, sum_zv]
theorem mul_q {a b : Int} (ha : a.natAbs < 8) (hb : b.natAbs < 8) (S : St) (k : Cont) : F85q (zv a) (zv b) S k = k (zv (a * b)) S := by
  unfold F85q; rw [tab_zv mulK_eq ha hb, mul_zv]
theorem sign_q {a : Int} (ha : a.natAbs < 64) (S : St) (k : Cont) : F83q (zv a) S k = k (signV (decide (a < 0)) a.natAbs) S := tab1_zv ha S k
theorem int_q {n : Nat} (hn : n < 4) (S : St) (k : Cont) : F38q (nn n) S k = k (zv n) S := tabI_zv _ hn S k
end
end Go.AM
