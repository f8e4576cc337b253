/-
  No cell of these rows narrows 'for every input' (looked for: loops, veiled, ifaces, maps, wideKeys, modest, calm, conditions, laid).
  DERIVED. THE GIVEN ROWS OF THIS SEAT. 8 by the template 'for every input the law returns true; each argument reads behind the call as it read before'; 0 by the template 'total and deterministic' (their statements: YtohmfjmgeecfkaaGreatTotals.lean).
  GIVEN WITH THE SEED: the statements are not yours to turn. If you find one false, say at which input.
  Laid BY PROGRAM, IN A SANDBOX (cutbox-rows.mjs): the forced cells as the released guide's own fill.sh prints them over the translation be85db50c8f445cc… (all of the seat's roots in one cut). By AI agents, Wed Nov 11 2026. No macro, syntax, notation, axiom, sorry.
-/
import Derived.Test.YtohmfjmgeecfkaaGreatChecked
import GoSem.Claim
import GoSem.ClaimJoined
import GoSem.ClaimMapViews
import Derived.JoinedTies
import Derived.KernelRfl
namespace Go.Proofs.YtohmfjmgeecfkaaGreat
/- THE CELL 'sum', in the pinned program and in every row, IS THE sha256 OF THE DUMP (.gsa) THAT YtohmfjmgeecfkaaGreatProg.lean LOADS. Nothing in Lean hashes anything: it is a label: what it is worth is what the hold of that sum in a sandbox is worth. -/
noncomputable def Tryz.pinned : Pinned := { name := "ytohmfjmgeecfkaagreat", sum := "be85db50c8f445ccb29b3b95c4db62686d2547bc15dd6aefa891d8ef180e634c", checked := Tryz.checked }
namespace Rows
def none {H : Type} : Left H := { results := [], args := [] }

/-- 'galoislaw10.ModfactorCounts': WHATEVER THE INPUT: true; the input reads as it did. -/
def modfactorCountsSpec : ChangeSpec := { name := "modfactorCounts", fn := fun _ => fun
  | [d1, d2] => { results := [.lit (.bool true)], args := [d1, d2] }
  | _ => none }
def modfactorCountsRow : OpenClaim := { program := "ytohmfjmgeecfkaagreat", sum := "be85db50c8f445ccb29b3b95c4db62686d2547bc15dd6aefa891d8ef180e634c", func := "galois/galoislaw10.ModfactorCounts", spec := "modfactorCounts", inPlace := ["math/bits.Add64", "math/bits.Sub64"], unfollowed := true, recurses := true, named := ["math/bits.divideError", "math/bits.overflowError"], apart := false }
def ModfactorCountsSaid : Prop := modfactorCountsRow.holds Tryz.pinned (OpenSpec.ofChange modfactorCountsSpec)

/-- ITS FALSE NEIGHBOUR: 'it returns false'. Refute it at one input. -/
def modfactorCountsWrong : ChangeSpec := { name := "modfactorCounts", fn := fun _ => fun
  | [d1, d2] => { results := [.lit (.bool false)], args := [d1, d2] }
  | _ => none }
def ModfactorCountsWrongFalsely : Prop := modfactorCountsRow.holds Tryz.pinned (OpenSpec.ofChange modfactorCountsWrong)

/-- 'galoislaw10.ModfactorGauss': WHATEVER THE INPUT: true; the input reads as it did. -/
def modfactorGaussSpec : ChangeSpec := { name := "modfactorGauss", fn := fun _ => fun
  | [d1, d2] => { results := [.lit (.bool true)], args := [d1, d2] }
  | _ => none }
def modfactorGaussRow : OpenClaim := { program := "ytohmfjmgeecfkaagreat", sum := "be85db50c8f445ccb29b3b95c4db62686d2547bc15dd6aefa891d8ef180e634c", func := "galois/galoislaw10.ModfactorGauss", spec := "modfactorGauss", inPlace := ["math/bits.Add64", "math/bits.Sub64"], unfollowed := true, recurses := true, named := ["math/bits.divideError", "math/bits.overflowError"], apart := false }
def ModfactorGaussSaid : Prop := modfactorGaussRow.holds Tryz.pinned (OpenSpec.ofChange modfactorGaussSpec)

/-- ITS FALSE NEIGHBOUR: 'it returns false'. Refute it at one input. -/
def modfactorGaussWrong : ChangeSpec := { name := "modfactorGauss", fn := fun _ => fun
  | [d1, d2] => { results := [.lit (.bool false)], args := [d1, d2] }
  | _ => none }
def ModfactorGaussWrongFalsely : Prop := modfactorGaussRow.holds Tryz.pinned (OpenSpec.ofChange modfactorGaussWrong)

/-- 'galoislaw10.ModfactorMultiplies': WHATEVER THE INPUT: true; the input reads as it did. -/
def modfactorMultipliesSpec : ChangeSpec := { name := "modfactorMultiplies", fn := fun _ => fun
  | [d1, d2, d3] => { results := [.lit (.bool true)], args := [d1, d2, d3] }
  | _ => none }
def modfactorMultipliesRow : OpenClaim := { program := "ytohmfjmgeecfkaagreat", sum := "be85db50c8f445ccb29b3b95c4db62686d2547bc15dd6aefa891d8ef180e634c", func := "galois/galoislaw10.ModfactorMultiplies", spec := "modfactorMultiplies", inPlace := ["math/bits.Add64", "math/bits.Sub64"], unfollowed := true, recurses := true, named := ["math/bits.divideError", "math/bits.overflowError"], apart := false }
def ModfactorMultipliesSaid : Prop := modfactorMultipliesRow.holds Tryz.pinned (OpenSpec.ofChange modfactorMultipliesSpec)

/-- ITS FALSE NEIGHBOUR: 'it returns false'. Refute it at one input. -/
def modfactorMultipliesWrong : ChangeSpec := { name := "modfactorMultiplies", fn := fun _ => fun
  | [d1, d2, d3] => { results := [.lit (.bool false)], args := [d1, d2, d3] }
  | _ => none }
def ModfactorMultipliesWrongFalsely : Prop := modfactorMultipliesRow.holds Tryz.pinned (OpenSpec.ofChange modfactorMultipliesWrong)

/-- 'galoislaw10.ModfactorProducts': WHATEVER THE INPUT: true; the input reads as it did. -/
def modfactorProductsSpec : ChangeSpec := { name := "modfactorProducts", fn := fun _ => fun
  | [d1, d2] => { results := [.lit (.bool true)], args := [d1, d2] }
  | _ => none }
def modfactorProductsRow : OpenClaim := { program := "ytohmfjmgeecfkaagreat", sum := "be85db50c8f445ccb29b3b95c4db62686d2547bc15dd6aefa891d8ef180e634c", func := "galois/galoislaw10.ModfactorProducts", spec := "modfactorProducts", inPlace := ["math/bits.Add64", "math/bits.Sub64"], unfollowed := true, recurses := true, named := ["math/bits.divideError", "math/bits.overflowError"], apart := false }
def ModfactorProductsSaid : Prop := modfactorProductsRow.holds Tryz.pinned (OpenSpec.ofChange modfactorProductsSpec)

/-- ITS FALSE NEIGHBOUR: 'it returns false'. Refute it at one input. -/
def modfactorProductsWrong : ChangeSpec := { name := "modfactorProducts", fn := fun _ => fun
  | [d1, d2] => { results := [.lit (.bool false)], args := [d1, d2] }
  | _ => none }
def ModfactorProductsWrongFalsely : Prop := modfactorProductsRow.holds Tryz.pinned (OpenSpec.ofChange modfactorProductsWrong)

/-- 'galoislaw10.ModfactorIrreducible': WHATEVER THE INPUT: true; the input reads as it did. -/
def modfactorIrreducibleSpec : ChangeSpec := { name := "modfactorIrreducible", fn := fun _ => fun
  | [d1, d2] => { results := [.lit (.bool true)], args := [d1, d2] }
  | _ => none }
def modfactorIrreducibleRow : OpenClaim := { program := "ytohmfjmgeecfkaagreat", sum := "be85db50c8f445ccb29b3b95c4db62686d2547bc15dd6aefa891d8ef180e634c", func := "galois/galoislaw10.ModfactorIrreducible", spec := "modfactorIrreducible", inPlace := ["math/bits.Add64", "math/bits.Sub64"], unfollowed := true, recurses := true, named := ["math/bits.divideError", "math/bits.overflowError"], apart := false }
def ModfactorIrreducibleSaid : Prop := modfactorIrreducibleRow.holds Tryz.pinned (OpenSpec.ofChange modfactorIrreducibleSpec)

/-- ITS FALSE NEIGHBOUR: 'it returns false'. Refute it at one input. -/
def modfactorIrreducibleWrong : ChangeSpec := { name := "modfactorIrreducible", fn := fun _ => fun
  | [d1, d2] => { results := [.lit (.bool false)], args := [d1, d2] }
  | _ => none }
def ModfactorIrreducibleWrongFalsely : Prop := modfactorIrreducibleRow.holds Tryz.pinned (OpenSpec.ofChange modfactorIrreducibleWrong)

/-- 'galoislaw10.ModfactorFactors': WHATEVER THE INPUT: true; the input reads as it did. -/
def modfactorFactorsSpec : ChangeSpec := { name := "modfactorFactors", fn := fun _ => fun
  | [d1, d2] => { results := [.lit (.bool true)], args := [d1, d2] }
  | _ => none }
def modfactorFactorsRow : OpenClaim := { program := "ytohmfjmgeecfkaagreat", sum := "be85db50c8f445ccb29b3b95c4db62686d2547bc15dd6aefa891d8ef180e634c", func := "galois/galoislaw10.ModfactorFactors", spec := "modfactorFactors", inPlace := ["math/bits.Add64", "math/bits.Sub64"], unfollowed := true, recurses := true, named := ["math/bits.divideError", "math/bits.overflowError"], apart := false }
def ModfactorFactorsSaid : Prop := modfactorFactorsRow.holds Tryz.pinned (OpenSpec.ofChange modfactorFactorsSpec)

/-- ITS FALSE NEIGHBOUR: 'it returns false'. Refute it at one input. -/
def modfactorFactorsWrong : ChangeSpec := { name := "modfactorFactors", fn := fun _ => fun
  | [d1, d2] => { results := [.lit (.bool false)], args := [d1, d2] }
  | _ => none }
def ModfactorFactorsWrongFalsely : Prop := modfactorFactorsRow.holds Tryz.pinned (OpenSpec.ofChange modfactorFactorsWrong)

/-- 'galoislaw10.ModfactorRoots': WHATEVER THE INPUT: true; the input reads as it did. -/
def modfactorRootsSpec : ChangeSpec := { name := "modfactorRoots", fn := fun _ => fun
  | [d1, d2] => { results := [.lit (.bool true)], args := [d1, d2] }
  | _ => none }
def modfactorRootsRow : OpenClaim := { program := "ytohmfjmgeecfkaagreat", sum := "be85db50c8f445ccb29b3b95c4db62686d2547bc15dd6aefa891d8ef180e634c", func := "galois/galoislaw10.ModfactorRoots", spec := "modfactorRoots", inPlace := ["math/bits.Add64", "math/bits.Sub64"], unfollowed := true, recurses := true, named := ["math/bits.divideError", "math/bits.overflowError"], apart := false }
def ModfactorRootsSaid : Prop := modfactorRootsRow.holds Tryz.pinned (OpenSpec.ofChange modfactorRootsSpec)

/-- ITS FALSE NEIGHBOUR: 'it returns false'. Refute it at one input. -/
def modfactorRootsWrong : ChangeSpec := { name := "modfactorRoots", fn := fun _ => fun
  | [d1, d2] => { results := [.lit (.bool false)], args := [d1, d2] }
  | _ => none }
def ModfactorRootsWrongFalsely : Prop := modfactorRootsRow.holds Tryz.pinned (OpenSpec.ofChange modfactorRootsWrong)

/-- 'galoislaw10.ModfactorDegrees': WHATEVER THE INPUT: true; the input reads as it did. -/
def modfactorDegreesSpec : ChangeSpec := { name := "modfactorDegrees", fn := fun _ => fun
  | [d1, d2] => { results := [.lit (.bool true)], args := [d1, d2] }
  | _ => none }
def modfactorDegreesRow : OpenClaim := { program := "ytohmfjmgeecfkaagreat", sum := "be85db50c8f445ccb29b3b95c4db62686d2547bc15dd6aefa891d8ef180e634c", func := "galois/galoislaw10.ModfactorDegrees", spec := "modfactorDegrees", inPlace := ["math/bits.Add64", "math/bits.Sub64"], unfollowed := true, recurses := true, named := ["math/bits.divideError", "math/bits.overflowError"], apart := false }
def ModfactorDegreesSaid : Prop := modfactorDegreesRow.holds Tryz.pinned (OpenSpec.ofChange modfactorDegreesSpec)

/-- ITS FALSE NEIGHBOUR: 'it returns false'. Refute it at one input. -/
def modfactorDegreesWrong : ChangeSpec := { name := "modfactorDegrees", fn := fun _ => fun
  | [d1, d2] => { results := [.lit (.bool false)], args := [d1, d2] }
  | _ => none }
def ModfactorDegreesWrongFalsely : Prop := modfactorDegreesRow.holds Tryz.pinned (OpenSpec.ofChange modfactorDegreesWrong)

/- THE SECOND FORM. 'bulk': how many values and letters a reading holds, each counted each time it is reached (what is shared counts as often as it is met; a slice's spare places count too). A statement '..UptoSaid' is the law's where the arguments, and the package variables that the reading takes, are together of bulk at most 1048576: NARROWER than '..Said'. Prove '..Said' where nothing that the law and all that it calls make is longer than what came in: it says more and counts as full. Else prove '..UptoSaid'. A law counts once. -/
mutual
def uptoBulk {H : Type} : DataW H → Nat
  | .lit (.string bytes) => bytes.length + 1
  | .lit _ => 1
  | .nil => 1
  | .ptr d => uptoBulk d + 1
  | .slice elems spare => uptoBulkAll elems + uptoBulkAll spare + 1
  | .agg parts => uptoBulkAll parts + 1
  | .iface _ d => uptoBulk d + 1
  | .map entries => uptoBulkEntries entries + 1
  | .held _ => 1
def uptoBulkAll {H : Type} : List (DataW H) → Nat
  | [] => 0
  | d :: r => uptoBulk d + uptoBulkAll r
def uptoBulkEntries {H : Type} : List (Lit × DataW H) → Nat
  | [] => 0
  | x :: r => uptoBulkEntry x + uptoBulkEntries r
def uptoBulkEntry {H : Type} : Lit × DataW H → Nat
  | (.string bytes, d) => bytes.length + uptoBulk d + 1
  | (_, d) => uptoBulk d + 1
 end
def uptoSmall : (H : Type) → List (DataW H) → Bool := fun _ ds => decide (uptoBulkAll ds ≤ 1048576)
def OpenSpec.upto (s : _root_.Go.ChangeSpec) : _root_.Go.OpenSpec := { _root_.Go.OpenSpec.ofChange s with cond := some uptoSmall }

/-- 'galoislaw10.ModfactorCounts', WHERE WHAT IT READS IS OF BULK AT MOST 1048576: true; the input reads as it did. -/
def modfactorCountsUptoRow : OpenClaim := { program := "ytohmfjmgeecfkaagreat", sum := "be85db50c8f445ccb29b3b95c4db62686d2547bc15dd6aefa891d8ef180e634c", func := "galois/galoislaw10.ModfactorCounts", spec := "modfactorCounts", inPlace := ["math/bits.Add64", "math/bits.Sub64"], unfollowed := true, recurses := true, named := ["math/bits.divideError", "math/bits.overflowError"], apart := false, narrowed := true }
def ModfactorCountsUptoSaid : Prop := modfactorCountsUptoRow.holds Tryz.pinned (OpenSpec.upto modfactorCountsSpec)

/-- 'galoislaw10.ModfactorGauss', WHERE WHAT IT READS IS OF BULK AT MOST 1048576: true; the input reads as it did. -/
def modfactorGaussUptoRow : OpenClaim := { program := "ytohmfjmgeecfkaagreat", sum := "be85db50c8f445ccb29b3b95c4db62686d2547bc15dd6aefa891d8ef180e634c", func := "galois/galoislaw10.ModfactorGauss", spec := "modfactorGauss", inPlace := ["math/bits.Add64", "math/bits.Sub64"], unfollowed := true, recurses := true, named := ["math/bits.divideError", "math/bits.overflowError"], apart := false, narrowed := true }
def ModfactorGaussUptoSaid : Prop := modfactorGaussUptoRow.holds Tryz.pinned (OpenSpec.upto modfactorGaussSpec)

/-- 'galoislaw10.ModfactorMultiplies', WHERE WHAT IT READS IS OF BULK AT MOST 1048576: true; the input reads as it did. -/
def modfactorMultipliesUptoRow : OpenClaim := { program := "ytohmfjmgeecfkaagreat", sum := "be85db50c8f445ccb29b3b95c4db62686d2547bc15dd6aefa891d8ef180e634c", func := "galois/galoislaw10.ModfactorMultiplies", spec := "modfactorMultiplies", inPlace := ["math/bits.Add64", "math/bits.Sub64"], unfollowed := true, recurses := true, named := ["math/bits.divideError", "math/bits.overflowError"], apart := false, narrowed := true }
def ModfactorMultipliesUptoSaid : Prop := modfactorMultipliesUptoRow.holds Tryz.pinned (OpenSpec.upto modfactorMultipliesSpec)

/-- 'galoislaw10.ModfactorProducts', WHERE WHAT IT READS IS OF BULK AT MOST 1048576: true; the input reads as it did. -/
def modfactorProductsUptoRow : OpenClaim := { program := "ytohmfjmgeecfkaagreat", sum := "be85db50c8f445ccb29b3b95c4db62686d2547bc15dd6aefa891d8ef180e634c", func := "galois/galoislaw10.ModfactorProducts", spec := "modfactorProducts", inPlace := ["math/bits.Add64", "math/bits.Sub64"], unfollowed := true, recurses := true, named := ["math/bits.divideError", "math/bits.overflowError"], apart := false, narrowed := true }
def ModfactorProductsUptoSaid : Prop := modfactorProductsUptoRow.holds Tryz.pinned (OpenSpec.upto modfactorProductsSpec)

/-- 'galoislaw10.ModfactorIrreducible', WHERE WHAT IT READS IS OF BULK AT MOST 1048576: true; the input reads as it did. -/
def modfactorIrreducibleUptoRow : OpenClaim := { program := "ytohmfjmgeecfkaagreat", sum := "be85db50c8f445ccb29b3b95c4db62686d2547bc15dd6aefa891d8ef180e634c", func := "galois/galoislaw10.ModfactorIrreducible", spec := "modfactorIrreducible", inPlace := ["math/bits.Add64", "math/bits.Sub64"], unfollowed := true, recurses := true, named := ["math/bits.divideError", "math/bits.overflowError"], apart := false, narrowed := true }
def ModfactorIrreducibleUptoSaid : Prop := modfactorIrreducibleUptoRow.holds Tryz.pinned (OpenSpec.upto modfactorIrreducibleSpec)

/-- 'galoislaw10.ModfactorFactors', WHERE WHAT IT READS IS OF BULK AT MOST 1048576: true; the input reads as it did. -/
def modfactorFactorsUptoRow : OpenClaim := { program := "ytohmfjmgeecfkaagreat", sum := "be85db50c8f445ccb29b3b95c4db62686d2547bc15dd6aefa891d8ef180e634c", func := "galois/galoislaw10.ModfactorFactors", spec := "modfactorFactors", inPlace := ["math/bits.Add64", "math/bits.Sub64"], unfollowed := true, recurses := true, named := ["math/bits.divideError", "math/bits.overflowError"], apart := false, narrowed := true }
def ModfactorFactorsUptoSaid : Prop := modfactorFactorsUptoRow.holds Tryz.pinned (OpenSpec.upto modfactorFactorsSpec)

/-- 'galoislaw10.ModfactorRoots', WHERE WHAT IT READS IS OF BULK AT MOST 1048576: true; the input reads as it did. -/
def modfactorRootsUptoRow : OpenClaim := { program := "ytohmfjmgeecfkaagreat", sum := "be85db50c8f445ccb29b3b95c4db62686d2547bc15dd6aefa891d8ef180e634c", func := "galois/galoislaw10.ModfactorRoots", spec := "modfactorRoots", inPlace := ["math/bits.Add64", "math/bits.Sub64"], unfollowed := true, recurses := true, named := ["math/bits.divideError", "math/bits.overflowError"], apart := false, narrowed := true }
def ModfactorRootsUptoSaid : Prop := modfactorRootsUptoRow.holds Tryz.pinned (OpenSpec.upto modfactorRootsSpec)

/-- 'galoislaw10.ModfactorDegrees', WHERE WHAT IT READS IS OF BULK AT MOST 1048576: true; the input reads as it did. -/
def modfactorDegreesUptoRow : OpenClaim := { program := "ytohmfjmgeecfkaagreat", sum := "be85db50c8f445ccb29b3b95c4db62686d2547bc15dd6aefa891d8ef180e634c", func := "galois/galoislaw10.ModfactorDegrees", spec := "modfactorDegrees", inPlace := ["math/bits.Add64", "math/bits.Sub64"], unfollowed := true, recurses := true, named := ["math/bits.divideError", "math/bits.overflowError"], apart := false, narrowed := true }
def ModfactorDegreesUptoSaid : Prop := modfactorDegreesUptoRow.holds Tryz.pinned (OpenSpec.upto modfactorDegreesSpec)

end Rows
end Go.Proofs.YtohmfjmgeecfkaaGreat
