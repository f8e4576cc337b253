/-
  No cell of these rows narrows 'for every input' (looked for: loops, veiled, ifaces, maps, wideKeys, modest, calm, conditions, laid).
  DERIVED. THE GIVEN ROWS OF THIS SEAT. 9 by the template 'for every input the law returns true; each argument reads behind the call as it read before'; 0 by the template 'total and deterministic' (their statements: YtndgeimkifdifaaGreatTotals.lean).
  GIVEN WITH THE SEED: the statements are not yours to turn. If you find one false, say at which input.
  Laid BY PROGRAM, IN A SANDBOX (cutbox-rows.mjs): the forced cells as the released guide's own fill.sh prints them over the translation 3ecad0f5d127dc18… (all of the seat's roots in one cut). By AI agents, Wed Nov 11 2026. No macro, syntax, notation, axiom, sorry.
-/
import Derived.Test.YtndgeimkifdifaaGreatChecked
import GoSem.Claim
import GoSem.ClaimJoined
import GoSem.ClaimMapViews
import Derived.JoinedTies
import Derived.KernelRfl
namespace Go.Proofs.YtndgeimkifdifaaGreat
/- THE CELL 'sum', in the pinned program and in every row, IS THE sha256 OF THE DUMP (.gsa) THAT YtndgeimkifdifaaGreatProg.lean LOADS. Nothing in Lean hashes anything: it is a label: what it is worth is what the hold of that sum in a sandbox is worth. -/
noncomputable def Tryz.pinned : Pinned := { name := "ytndgeimkifdifaagreat", sum := "3ecad0f5d127dc18e93b3909df5c3f54f0371afcff85d0939cee0aa60a48fc02", checked := Tryz.checked }
namespace Rows
def none {H : Type} : Left H := { results := [], args := [] }

/-- 'galoislaw47.CyclotomicPolynomials': WHATEVER THE INPUT: true; the input reads as it did. -/
def cyclotomicPolynomialsSpec : ChangeSpec := { name := "cyclotomicPolynomials", fn := fun _ => fun
  | [d] => { results := [.lit (.bool true)], args := [d] }
  | _ => none }
def cyclotomicPolynomialsRow : OpenClaim := { program := "ytndgeimkifdifaagreat", sum := "3ecad0f5d127dc18e93b3909df5c3f54f0371afcff85d0939cee0aa60a48fc02", func := "galois/galoislaw47.CyclotomicPolynomials", spec := "cyclotomicPolynomials", inPlace := ["math/bits.Add64", "math/bits.Sub64"], unfollowed := true, recurses := true, named := ["math/bits.divideError", "math/bits.overflowError"], apart := false }
def CyclotomicPolynomialsSaid : Prop := cyclotomicPolynomialsRow.holds Tryz.pinned (OpenSpec.ofChange cyclotomicPolynomialsSpec)

/-- ITS FALSE NEIGHBOUR: 'it returns false'. Refute it at one input. -/
def cyclotomicPolynomialsWrong : ChangeSpec := { name := "cyclotomicPolynomials", fn := fun _ => fun
  | [d] => { results := [.lit (.bool false)], args := [d] }
  | _ => none }
def CyclotomicPolynomialsWrongFalsely : Prop := cyclotomicPolynomialsRow.holds Tryz.pinned (OpenSpec.ofChange cyclotomicPolynomialsWrong)

/-- 'galoislaw47.CyclotomicActs': WHATEVER THE INPUT: true; the input reads as it did. -/
def cyclotomicActsSpec : ChangeSpec := { name := "cyclotomicActs", fn := fun _ => fun
  | [d1, d2, d3] => { results := [.lit (.bool true)], args := [d1, d2, d3] }
  | _ => none }
def cyclotomicActsRow : OpenClaim := { program := "ytndgeimkifdifaagreat", sum := "3ecad0f5d127dc18e93b3909df5c3f54f0371afcff85d0939cee0aa60a48fc02", func := "galois/galoislaw47.CyclotomicActs", spec := "cyclotomicActs", inPlace := ["math/bits.Add64", "math/bits.Sub64"], unfollowed := true, recurses := true, named := ["math/bits.divideError", "math/bits.overflowError"], apart := false }
def CyclotomicActsSaid : Prop := cyclotomicActsRow.holds Tryz.pinned (OpenSpec.ofChange cyclotomicActsSpec)

/-- ITS FALSE NEIGHBOUR: 'it returns false'. Refute it at one input. -/
def cyclotomicActsWrong : ChangeSpec := { name := "cyclotomicActs", fn := fun _ => fun
  | [d1, d2, d3] => { results := [.lit (.bool false)], args := [d1, d2, d3] }
  | _ => none }
def CyclotomicActsWrongFalsely : Prop := cyclotomicActsRow.holds Tryz.pinned (OpenSpec.ofChange cyclotomicActsWrong)

/-- 'galoislaw47.CyclotomicEmbeds': WHATEVER THE INPUT: true; the input reads as it did. -/
def cyclotomicEmbedsSpec : ChangeSpec := { name := "cyclotomicEmbeds", fn := fun _ => fun
  | [d1, d2, d3] => { results := [.lit (.bool true)], args := [d1, d2, d3] }
  | _ => none }
def cyclotomicEmbedsRow : OpenClaim := { program := "ytndgeimkifdifaagreat", sum := "3ecad0f5d127dc18e93b3909df5c3f54f0371afcff85d0939cee0aa60a48fc02", func := "galois/galoislaw47.CyclotomicEmbeds", spec := "cyclotomicEmbeds", inPlace := ["math/bits.Add64", "math/bits.Sub64"], unfollowed := true, recurses := true, named := ["math/bits.divideError", "math/bits.overflowError"], apart := false }
def CyclotomicEmbedsSaid : Prop := cyclotomicEmbedsRow.holds Tryz.pinned (OpenSpec.ofChange cyclotomicEmbedsSpec)

/-- ITS FALSE NEIGHBOUR: 'it returns false'. Refute it at one input. -/
def cyclotomicEmbedsWrong : ChangeSpec := { name := "cyclotomicEmbeds", fn := fun _ => fun
  | [d1, d2, d3] => { results := [.lit (.bool false)], args := [d1, d2, d3] }
  | _ => none }
def CyclotomicEmbedsWrongFalsely : Prop := cyclotomicEmbedsRow.holds Tryz.pinned (OpenSpec.ofChange cyclotomicEmbedsWrong)

/-- 'galoislaw47.CyclotomicProduct': WHATEVER THE INPUT: true; the input reads as it did. -/
def cyclotomicProductSpec : ChangeSpec := { name := "cyclotomicProduct", fn := fun _ => fun
  | [d] => { results := [.lit (.bool true)], args := [d] }
  | _ => none }
def cyclotomicProductRow : OpenClaim := { program := "ytndgeimkifdifaagreat", sum := "3ecad0f5d127dc18e93b3909df5c3f54f0371afcff85d0939cee0aa60a48fc02", func := "galois/galoislaw47.CyclotomicProduct", spec := "cyclotomicProduct", inPlace := ["math/bits.Add64", "math/bits.Sub64"], unfollowed := true, recurses := true, named := ["math/bits.divideError", "math/bits.overflowError"], apart := false }
def CyclotomicProductSaid : Prop := cyclotomicProductRow.holds Tryz.pinned (OpenSpec.ofChange cyclotomicProductSpec)

/-- ITS FALSE NEIGHBOUR: 'it returns false'. Refute it at one input. -/
def cyclotomicProductWrong : ChangeSpec := { name := "cyclotomicProduct", fn := fun _ => fun
  | [d] => { results := [.lit (.bool false)], args := [d] }
  | _ => none }
def CyclotomicProductWrongFalsely : Prop := cyclotomicProductRow.holds Tryz.pinned (OpenSpec.ofChange cyclotomicProductWrong)

/-- 'galoislaw47.CyclotomicGalois': WHATEVER THE INPUT: true; the input reads as it did. -/
def cyclotomicGaloisSpec : ChangeSpec := { name := "cyclotomicGalois", fn := fun _ => fun
  | [d1, d2, d3] => { results := [.lit (.bool true)], args := [d1, d2, d3] }
  | _ => none }
def cyclotomicGaloisRow : OpenClaim := { program := "ytndgeimkifdifaagreat", sum := "3ecad0f5d127dc18e93b3909df5c3f54f0371afcff85d0939cee0aa60a48fc02", func := "galois/galoislaw47.CyclotomicGalois", spec := "cyclotomicGalois", inPlace := ["math/bits.Add64", "math/bits.Sub64"], unfollowed := true, recurses := true, named := ["math/bits.divideError", "math/bits.overflowError"], apart := false }
def CyclotomicGaloisSaid : Prop := cyclotomicGaloisRow.holds Tryz.pinned (OpenSpec.ofChange cyclotomicGaloisSpec)

/-- ITS FALSE NEIGHBOUR: 'it returns false'. Refute it at one input. -/
def cyclotomicGaloisWrong : ChangeSpec := { name := "cyclotomicGalois", fn := fun _ => fun
  | [d1, d2, d3] => { results := [.lit (.bool false)], args := [d1, d2, d3] }
  | _ => none }
def CyclotomicGaloisWrongFalsely : Prop := cyclotomicGaloisRow.holds Tryz.pinned (OpenSpec.ofChange cyclotomicGaloisWrong)

/-- 'galoislaw47.CyclotomicElements': WHATEVER THE INPUT: true; the input reads as it did. -/
def cyclotomicElementsSpec : ChangeSpec := { name := "cyclotomicElements", fn := fun _ => fun
  | [d1, d2] => { results := [.lit (.bool true)], args := [d1, d2] }
  | _ => none }
def cyclotomicElementsRow : OpenClaim := { program := "ytndgeimkifdifaagreat", sum := "3ecad0f5d127dc18e93b3909df5c3f54f0371afcff85d0939cee0aa60a48fc02", func := "galois/galoislaw47.CyclotomicElements", spec := "cyclotomicElements", inPlace := ["math/bits.Add64", "math/bits.Sub64"], unfollowed := true, recurses := true, named := ["math/bits.divideError", "math/bits.overflowError"], apart := false }
def CyclotomicElementsSaid : Prop := cyclotomicElementsRow.holds Tryz.pinned (OpenSpec.ofChange cyclotomicElementsSpec)

/-- ITS FALSE NEIGHBOUR: 'it returns false'. Refute it at one input. -/
def cyclotomicElementsWrong : ChangeSpec := { name := "cyclotomicElements", fn := fun _ => fun
  | [d1, d2] => { results := [.lit (.bool false)], args := [d1, d2] }
  | _ => none }
def CyclotomicElementsWrongFalsely : Prop := cyclotomicElementsRow.holds Tryz.pinned (OpenSpec.ofChange cyclotomicElementsWrong)

/-- 'galoislaw47.CyclotomicGroups': WHATEVER THE INPUT: true; the input reads as it did. -/
def cyclotomicGroupsSpec : ChangeSpec := { name := "cyclotomicGroups", fn := fun _ => fun
  | [d1, d2, d3] => { results := [.lit (.bool true)], args := [d1, d2, d3] }
  | _ => none }
def cyclotomicGroupsRow : OpenClaim := { program := "ytndgeimkifdifaagreat", sum := "3ecad0f5d127dc18e93b3909df5c3f54f0371afcff85d0939cee0aa60a48fc02", func := "galois/galoislaw47.CyclotomicGroups", spec := "cyclotomicGroups", inPlace := ["math/bits.Add64", "math/bits.Sub64"], unfollowed := true, recurses := true, named := ["math/bits.divideError", "math/bits.overflowError"], apart := false }
def CyclotomicGroupsSaid : Prop := cyclotomicGroupsRow.holds Tryz.pinned (OpenSpec.ofChange cyclotomicGroupsSpec)

/-- ITS FALSE NEIGHBOUR: 'it returns false'. Refute it at one input. -/
def cyclotomicGroupsWrong : ChangeSpec := { name := "cyclotomicGroups", fn := fun _ => fun
  | [d1, d2, d3] => { results := [.lit (.bool false)], args := [d1, d2, d3] }
  | _ => none }
def CyclotomicGroupsWrongFalsely : Prop := cyclotomicGroupsRow.holds Tryz.pinned (OpenSpec.ofChange cyclotomicGroupsWrong)

/-- 'galoislaw47.CyclotomicFixed': WHATEVER THE INPUT: true; the input reads as it did. -/
def cyclotomicFixedSpec : ChangeSpec := { name := "cyclotomicFixed", fn := fun _ => fun
  | [d1, d2, d3] => { results := [.lit (.bool true)], args := [d1, d2, d3] }
  | _ => none }
def cyclotomicFixedRow : OpenClaim := { program := "ytndgeimkifdifaagreat", sum := "3ecad0f5d127dc18e93b3909df5c3f54f0371afcff85d0939cee0aa60a48fc02", func := "galois/galoislaw47.CyclotomicFixed", spec := "cyclotomicFixed", inPlace := ["math/bits.Add64", "math/bits.Sub64"], unfollowed := true, recurses := true, named := ["math/bits.divideError", "math/bits.overflowError"], apart := false }
def CyclotomicFixedSaid : Prop := cyclotomicFixedRow.holds Tryz.pinned (OpenSpec.ofChange cyclotomicFixedSpec)

/-- ITS FALSE NEIGHBOUR: 'it returns false'. Refute it at one input. -/
def cyclotomicFixedWrong : ChangeSpec := { name := "cyclotomicFixed", fn := fun _ => fun
  | [d1, d2, d3] => { results := [.lit (.bool false)], args := [d1, d2, d3] }
  | _ => none }
def CyclotomicFixedWrongFalsely : Prop := cyclotomicFixedRow.holds Tryz.pinned (OpenSpec.ofChange cyclotomicFixedWrong)

/-- 'galoislaw47.CyclotomicPrimes': WHATEVER THE INPUT: true; the input reads as it did. -/
def cyclotomicPrimesSpec : ChangeSpec := { name := "cyclotomicPrimes", fn := fun _ => fun
  | [d1, d2] => { results := [.lit (.bool true)], args := [d1, d2] }
  | _ => none }
def cyclotomicPrimesRow : OpenClaim := { program := "ytndgeimkifdifaagreat", sum := "3ecad0f5d127dc18e93b3909df5c3f54f0371afcff85d0939cee0aa60a48fc02", func := "galois/galoislaw47.CyclotomicPrimes", spec := "cyclotomicPrimes", inPlace := ["math/bits.Add64", "math/bits.Sub64"], unfollowed := true, recurses := true, named := ["math/bits.divideError", "math/bits.overflowError"], apart := false }
def CyclotomicPrimesSaid : Prop := cyclotomicPrimesRow.holds Tryz.pinned (OpenSpec.ofChange cyclotomicPrimesSpec)

/-- ITS FALSE NEIGHBOUR: 'it returns false'. Refute it at one input. -/
def cyclotomicPrimesWrong : ChangeSpec := { name := "cyclotomicPrimes", fn := fun _ => fun
  | [d1, d2] => { results := [.lit (.bool false)], args := [d1, d2] }
  | _ => none }
def CyclotomicPrimesWrongFalsely : Prop := cyclotomicPrimesRow.holds Tryz.pinned (OpenSpec.ofChange cyclotomicPrimesWrong)

/- THE SECOND FORM. 'bulk': how many values and letters a reading holds, each counted each time it is reached (what is shared counts as often as it is met; a slice's spare places count too). A statement '..UptoSaid' is the law's where the arguments, and the package variables that the reading takes, are together of bulk at most 1048576: NARROWER than '..Said'. Prove '..Said' where nothing that the law and all that it calls make is longer than what came in: it says more and counts as full. Else prove '..UptoSaid'. A law counts once. -/
mutual
def uptoBulk {H : Type} : DataW H → Nat
  | .lit (.string bytes) => bytes.length + 1
  | .lit _ => 1
  | .nil => 1
  | .ptr d => uptoBulk d + 1
  | .slice elems spare => uptoBulkAll elems + uptoBulkAll spare + 1
  | .agg parts => uptoBulkAll parts + 1
  | .iface _ d => uptoBulk d + 1
  | .map entries => uptoBulkEntries entries + 1
  | .held _ => 1
def uptoBulkAll {H : Type} : List (DataW H) → Nat
  | [] => 0
  | d :: r => uptoBulk d + uptoBulkAll r
def uptoBulkEntries {H : Type} : List (Lit × DataW H) → Nat
  | [] => 0
  | x :: r => uptoBulkEntry x + uptoBulkEntries r
def uptoBulkEntry {H : Type} : Lit × DataW H → Nat
  | (.string bytes, d) => bytes.length + uptoBulk d + 1
  | (_, d) => uptoBulk d + 1
 end
def uptoSmall : (H : Type) → List (DataW H) → Bool := fun _ ds => decide (uptoBulkAll ds ≤ 1048576)
def OpenSpec.upto (s : _root_.Go.ChangeSpec) : _root_.Go.OpenSpec := { _root_.Go.OpenSpec.ofChange s with cond := some uptoSmall }

/-- 'galoislaw47.CyclotomicPolynomials', WHERE WHAT IT READS IS OF BULK AT MOST 1048576: true; the input reads as it did. -/
def cyclotomicPolynomialsUptoRow : OpenClaim := { program := "ytndgeimkifdifaagreat", sum := "3ecad0f5d127dc18e93b3909df5c3f54f0371afcff85d0939cee0aa60a48fc02", func := "galois/galoislaw47.CyclotomicPolynomials", spec := "cyclotomicPolynomials", inPlace := ["math/bits.Add64", "math/bits.Sub64"], unfollowed := true, recurses := true, named := ["math/bits.divideError", "math/bits.overflowError"], apart := false, narrowed := true }
def CyclotomicPolynomialsUptoSaid : Prop := cyclotomicPolynomialsUptoRow.holds Tryz.pinned (OpenSpec.upto cyclotomicPolynomialsSpec)

/-- 'galoislaw47.CyclotomicActs', WHERE WHAT IT READS IS OF BULK AT MOST 1048576: true; the input reads as it did. -/
def cyclotomicActsUptoRow : OpenClaim := { program := "ytndgeimkifdifaagreat", sum := "3ecad0f5d127dc18e93b3909df5c3f54f0371afcff85d0939cee0aa60a48fc02", func := "galois/galoislaw47.CyclotomicActs", spec := "cyclotomicActs", inPlace := ["math/bits.Add64", "math/bits.Sub64"], unfollowed := true, recurses := true, named := ["math/bits.divideError", "math/bits.overflowError"], apart := false, narrowed := true }
def CyclotomicActsUptoSaid : Prop := cyclotomicActsUptoRow.holds Tryz.pinned (OpenSpec.upto cyclotomicActsSpec)

/-- 'galoislaw47.CyclotomicEmbeds', WHERE WHAT IT READS IS OF BULK AT MOST 1048576: true; the input reads as it did. -/
def cyclotomicEmbedsUptoRow : OpenClaim := { program := "ytndgeimkifdifaagreat", sum := "3ecad0f5d127dc18e93b3909df5c3f54f0371afcff85d0939cee0aa60a48fc02", func := "galois/galoislaw47.CyclotomicEmbeds", spec := "cyclotomicEmbeds", inPlace := ["math/bits.Add64", "math/bits.Sub64"], unfollowed := true, recurses := true, named := ["math/bits.divideError", "math/bits.overflowError"], apart := false, narrowed := true }
def CyclotomicEmbedsUptoSaid : Prop := cyclotomicEmbedsUptoRow.holds Tryz.pinned (OpenSpec.upto cyclotomicEmbedsSpec)

/-- 'galoislaw47.CyclotomicProduct', WHERE WHAT IT READS IS OF BULK AT MOST 1048576: true; the input reads as it did. -/
def cyclotomicProductUptoRow : OpenClaim := { program := "ytndgeimkifdifaagreat", sum := "3ecad0f5d127dc18e93b3909df5c3f54f0371afcff85d0939cee0aa60a48fc02", func := "galois/galoislaw47.CyclotomicProduct", spec := "cyclotomicProduct", inPlace := ["math/bits.Add64", "math/bits.Sub64"], unfollowed := true, recurses := true, named := ["math/bits.divideError", "math/bits.overflowError"], apart := false, narrowed := true }
def CyclotomicProductUptoSaid : Prop := cyclotomicProductUptoRow.holds Tryz.pinned (OpenSpec.upto cyclotomicProductSpec)

/-- 'galoislaw47.CyclotomicGalois', WHERE WHAT IT READS IS OF BULK AT MOST 1048576: true; the input reads as it did. -/
def cyclotomicGaloisUptoRow : OpenClaim := { program := "ytndgeimkifdifaagreat", sum := "3ecad0f5d127dc18e93b3909df5c3f54f0371afcff85d0939cee0aa60a48fc02", func := "galois/galoislaw47.CyclotomicGalois", spec := "cyclotomicGalois", inPlace := ["math/bits.Add64", "math/bits.Sub64"], unfollowed := true, recurses := true, named := ["math/bits.divideError", "math/bits.overflowError"], apart := false, narrowed := true }
def CyclotomicGaloisUptoSaid : Prop := cyclotomicGaloisUptoRow.holds Tryz.pinned (OpenSpec.upto cyclotomicGaloisSpec)

/-- 'galoislaw47.CyclotomicElements', WHERE WHAT IT READS IS OF BULK AT MOST 1048576: true; the input reads as it did. -/
def cyclotomicElementsUptoRow : OpenClaim := { program := "ytndgeimkifdifaagreat", sum := "3ecad0f5d127dc18e93b3909df5c3f54f0371afcff85d0939cee0aa60a48fc02", func := "galois/galoislaw47.CyclotomicElements", spec := "cyclotomicElements", inPlace := ["math/bits.Add64", "math/bits.Sub64"], unfollowed := true, recurses := true, named := ["math/bits.divideError", "math/bits.overflowError"], apart := false, narrowed := true }
def CyclotomicElementsUptoSaid : Prop := cyclotomicElementsUptoRow.holds Tryz.pinned (OpenSpec.upto cyclotomicElementsSpec)

/-- 'galoislaw47.CyclotomicGroups', WHERE WHAT IT READS IS OF BULK AT MOST 1048576: true; the input reads as it did. -/
def cyclotomicGroupsUptoRow : OpenClaim := { program := "ytndgeimkifdifaagreat", sum := "3ecad0f5d127dc18e93b3909df5c3f54f0371afcff85d0939cee0aa60a48fc02", func := "galois/galoislaw47.CyclotomicGroups", spec := "cyclotomicGroups", inPlace := ["math/bits.Add64", "math/bits.Sub64"], unfollowed := true, recurses := true, named := ["math/bits.divideError", "math/bits.overflowError"], apart := false, narrowed := true }
def CyclotomicGroupsUptoSaid : Prop := cyclotomicGroupsUptoRow.holds Tryz.pinned (OpenSpec.upto cyclotomicGroupsSpec)

/-- 'galoislaw47.CyclotomicFixed', WHERE WHAT IT READS IS OF BULK AT MOST 1048576: true; the input reads as it did. -/
def cyclotomicFixedUptoRow : OpenClaim := { program := "ytndgeimkifdifaagreat", sum := "3ecad0f5d127dc18e93b3909df5c3f54f0371afcff85d0939cee0aa60a48fc02", func := "galois/galoislaw47.CyclotomicFixed", spec := "cyclotomicFixed", inPlace := ["math/bits.Add64", "math/bits.Sub64"], unfollowed := true, recurses := true, named := ["math/bits.divideError", "math/bits.overflowError"], apart := false, narrowed := true }
def CyclotomicFixedUptoSaid : Prop := cyclotomicFixedUptoRow.holds Tryz.pinned (OpenSpec.upto cyclotomicFixedSpec)

/-- 'galoislaw47.CyclotomicPrimes', WHERE WHAT IT READS IS OF BULK AT MOST 1048576: true; the input reads as it did. -/
def cyclotomicPrimesUptoRow : OpenClaim := { program := "ytndgeimkifdifaagreat", sum := "3ecad0f5d127dc18e93b3909df5c3f54f0371afcff85d0939cee0aa60a48fc02", func := "galois/galoislaw47.CyclotomicPrimes", spec := "cyclotomicPrimes", inPlace := ["math/bits.Add64", "math/bits.Sub64"], unfollowed := true, recurses := true, named := ["math/bits.divideError", "math/bits.overflowError"], apart := false, narrowed := true }
def CyclotomicPrimesUptoSaid : Prop := cyclotomicPrimesUptoRow.holds Tryz.pinned (OpenSpec.upto cyclotomicPrimesSpec)

end Rows
end Go.Proofs.YtndgeimkifdifaaGreat
