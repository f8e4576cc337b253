/- The characters of the residues modulo the primes up to 31, in three ways, by their runs. -/
import Derived.Test.YtpendgpnikmohaaGreatRUM
import Derived.Test.YtpendgpnikmohaaGreatXM8
set_option maxRecDepth 1000000
set_option linter.unusedVariables false
set_option linter.unusedSimpArgs false
namespace Go.AM
open Go.Proofs
noncomputable section
abbrev ii (n : Nat) : V := .i .i64 n
def isV (x : R) (v : V) : Bool := match x with
  | some (y, _) => eqV y v
  | none => false
def fin : V → St → R := fun v S => some (v, S)
def modc (r : Nat) : Gn 2 := fun _ _ S k => k (ii r) S
def F55c (r : Nat) : Gn 3 := G55 (C55 F43 (modc r) T55)
def F29c (r : Nat) : Gn 2 := G29 (C29 F44 (F55c r))
def F30c (r : Nat) : Gn 2 := G30 (C30 (F55c r) F56)
def F31c (r : Nat) : Gn 2 := G31 (C31 (F55c r) F57)
def allT (f : Nat → Gn 2) (v : V) (p : Nat) : List Nat → Nat → Bool := List.rec (fun _ => true) (fun t _ ih r => isV (f r v (ii p) (mkS []) fin) (.tu [ii t, ii 0]) && ih (Nat.succ r))
def leg3 : List Nat := [0, 1, 18446744073709551615]
def leg5 : List Nat := [0, 1, 18446744073709551615, 18446744073709551615, 1]
def leg7 : List Nat := [0, 1, 1, 18446744073709551615, 1, 18446744073709551615, 18446744073709551615]
def leg11 : List Nat := [0, 1, 18446744073709551615, 1, 1, 1, 18446744073709551615, 18446744073709551615, 18446744073709551615, 1, 18446744073709551615]
def leg13 : List Nat := [0, 1, 18446744073709551615, 1, 1, 18446744073709551615, 18446744073709551615, 18446744073709551615, 18446744073709551615, 1, 1, 18446744073709551615, 1]
def leg17 : List Nat := [0, 1, 1, 18446744073709551615, 1, 18446744073709551615, 18446744073709551615, 18446744073709551615, 1, 1, 18446744073709551615, 18446744073709551615, 18446744073709551615, 1, 18446744073709551615, 1, 1]
def leg19 : List Nat := [0, 1, 18446744073709551615, 18446744073709551615, 1, 1, 1, 1, 18446744073709551615, 1, 18446744073709551615, 1, 18446744073709551615, 18446744073709551615, 18446744073709551615, 18446744073709551615, 1, 1, 18446744073709551615]
def leg23 : List Nat := [0, 1, 1, 1, 1, 18446744073709551615, 1, 18446744073709551615, 1, 1, 18446744073709551615, 18446744073709551615, 1, 1, 18446744073709551615, 18446744073709551615, 1, 18446744073709551615, 1, 18446744073709551615, 18446744073709551615, 18446744073709551615, 18446744073709551615]
def leg29 : List Nat := [0, 1, 18446744073709551615, 18446744073709551615, 1, 1, 1, 1, 18446744073709551615, 1, 18446744073709551615, 18446744073709551615, 18446744073709551615, 1, 18446744073709551615, 18446744073709551615, 1, 18446744073709551615, 18446744073709551615, 18446744073709551615, 1, 18446744073709551615, 1, 1, 1, 1, 18446744073709551615, 18446744073709551615, 1]
def leg31 : List Nat := [0, 1, 1, 18446744073709551615, 1, 1, 18446744073709551615, 1, 1, 1, 1, 18446744073709551615, 18446744073709551615, 18446744073709551615, 1, 18446744073709551615, 1, 18446744073709551615, 1, 1, 1, 18446744073709551615, 18446744073709551615, 18446744073709551615, 18446744073709551615, 1, 18446744073709551615, 18446744073709551615, 1, 18446744073709551615, 18446744073709551615]
theorem runE3 (v : V) : allT F29c v 3 leg3 0 = true := by kernel_rfl
theorem runE5 (v : V) : allT F29c v 5 leg5 0 = true := by kernel_rfl
theorem runE7 (v : V) : allT F29c v 7 leg7 0 = true := by kernel_rfl
theorem runE11 (v : V) : allT F29c v 11 leg11 0 = true := by kernel_rfl
theorem runE13 (v : V) : allT F29c v 13 leg13 0 = true := by kernel_rfl
theorem runE17 (v : V) : allT F29c v 17 leg17 0 = true := by kernel_rfl
theorem runE19 (v : V) : allT F29c v 19 leg19 0 = true := by kernel_rfl
theorem runE23 (v : V) : allT F29c v 23 leg23 0 = true := by kernel_rfl
theorem runE29 (v : V) : allT F29c v 29 leg29 0 = true := by kernel_rfl
theorem runE31 (v : V) : allT F29c v 31 leg31 0 = true := by kernel_rfl
theorem runG3 (v : V) : allT F30c v 3 leg3 0 = true := by kernel_rfl
theorem runG5 (v : V) : allT F30c v 5 leg5 0 = true := by kernel_rfl
theorem runG7 (v : V) : allT F30c v 7 leg7 0 = true := by kernel_rfl
theorem runG11 (v : V) : allT F30c v 11 leg11 0 = true := by kernel_rfl
theorem runG13 (v : V) : allT F30c v 13 leg13 0 = true := by kernel_rfl
theorem runG17 (v : V) : allT F30c v 17 leg17 0 = true := by kernel_rfl
theorem runG19 (v : V) : allT F30c v 19 leg19 0 = true := by kernel_rfl
theorem runG23 (v : V) : allT F30c v 23 leg23 0 = true := by kernel_rfl
theorem runG29 (v : V) : allT F30c v 29 leg29 0 = true := by kernel_rfl
theorem runG31 (v : V) : allT F30c v 31 leg31 0 = true := by kernel_rfl
theorem runZ3 (v : V) : allT F31c v 3 leg3 0 = true := by kernel_rfl
theorem runZ5 (v : V) : allT F31c v 5 leg5 0 = true := by kernel_rfl
theorem runZ7 (v : V) : allT F31c v 7 leg7 0 = true := by kernel_rfl
theorem runZ11 (v : V) : allT F31c v 11 leg11 0 = true := by kernel_rfl
theorem runZ13 (v : V) : allT F31c v 13 leg13 0 = true := by kernel_rfl
theorem runZ17 (v : V) : allT F31c v 17 leg17 0 = true := by kernel_rfl
theorem runZ19 (v : V) : allT F31c v 19 leg19 0 = true := by kernel_rfl
theorem runZ23 (v : V) : allT F31c v 23 leg23 0 = true := by kernel_rfl
theorem runZ29 (v : V) : allT F31c v 29 leg29 0 = true := by kernel_rfl
theorem runZ31 (v : V) : allT F31c v 31 leg31 0 = true := by kernel_rfl
end
end Go.AM
