/-
  No cell of these rows narrows 'for every input' (looked for: loops, veiled, ifaces, maps, wideKeys, modest, calm, conditions, laid).
  DERIVED. THE GIVEN ROWS OF THIS SEAT. 8 by the template 'for every input the law returns true; each argument reads behind the call as it read before'; 0 by the template 'total and deterministic' (their statements: YtpendgpnikmohaaGreatTotals.lean).
  GIVEN WITH THE SEED: the statements are not yours to turn. If you find one false, say at which input.
  Laid BY PROGRAM, IN A SANDBOX (cutbox-rows.mjs): the forced cells as the released guide's own fill.sh prints them over the translation 585dbdf341c5f7f2… (all of the seat's roots in one cut). By AI agents, Wed Nov 11 2026. No macro, syntax, notation, axiom, sorry.
-/
import Derived.Test.YtpendgpnikmohaaGreatChecked
import GoSem.Claim
import GoSem.ClaimJoined
import GoSem.ClaimMapViews
import Derived.JoinedTies
import Derived.KernelRfl
namespace Go.Proofs.YtpendgpnikmohaaGreat
/- THE CELL 'sum', in the pinned program and in every row, IS THE sha256 OF THE DUMP (.gsa) THAT YtpendgpnikmohaaGreatProg.lean LOADS. Nothing in Lean hashes anything: it is a label: what it is worth is what the hold of that sum in a sandbox is worth. -/
noncomputable def Tryz.pinned : Pinned := { name := "ytpendgpnikmohaagreat", sum := "585dbdf341c5f7f299cd4cb4814ba8b868d250aa7aa7e126d46fae1a9815dd36", checked := Tryz.checked }
namespace Rows
def none {H : Type} : Left H := { results := [], args := [] }

/-- 'galoislaw49.ReciprocityHalves': WHATEVER THE INPUT: true; the input reads as it did. -/
def reciprocityHalvesSpec : ChangeSpec := { name := "reciprocityHalves", fn := fun _ => fun
  | [d] => { results := [.lit (.bool true)], args := [d] }
  | _ => none }
def reciprocityHalvesRow : OpenClaim := { program := "ytpendgpnikmohaagreat", sum := "585dbdf341c5f7f299cd4cb4814ba8b868d250aa7aa7e126d46fae1a9815dd36", func := "galois/galoislaw49.ReciprocityHalves", spec := "reciprocityHalves", inPlace := ["math/bits.Add64", "math/bits.Sub64"], unfollowed := true, recurses := true, named := ["math/bits.divideError", "math/bits.overflowError"], apart := false }
def ReciprocityHalvesSaid : Prop := reciprocityHalvesRow.holds Tryz.pinned (OpenSpec.ofChange reciprocityHalvesSpec)

/-- ITS FALSE NEIGHBOUR: 'it returns false'. Refute it at one input. -/
def reciprocityHalvesWrong : ChangeSpec := { name := "reciprocityHalves", fn := fun _ => fun
  | [d] => { results := [.lit (.bool false)], args := [d] }
  | _ => none }
def ReciprocityHalvesWrongFalsely : Prop := reciprocityHalvesRow.holds Tryz.pinned (OpenSpec.ofChange reciprocityHalvesWrong)

/-- 'galoislaw49.ReciprocitySums': WHATEVER THE INPUT: true; the input reads as it did. -/
def reciprocitySumsSpec : ChangeSpec := { name := "reciprocitySums", fn := fun _ => fun
  | [d] => { results := [.lit (.bool true)], args := [d] }
  | _ => none }
def reciprocitySumsRow : OpenClaim := { program := "ytpendgpnikmohaagreat", sum := "585dbdf341c5f7f299cd4cb4814ba8b868d250aa7aa7e126d46fae1a9815dd36", func := "galois/galoislaw49.ReciprocitySums", spec := "reciprocitySums", inPlace := ["math/bits.Add64", "math/bits.Sub64"], unfollowed := true, recurses := true, named := ["math/bits.divideError", "math/bits.overflowError"], apart := false }
def ReciprocitySumsSaid : Prop := reciprocitySumsRow.holds Tryz.pinned (OpenSpec.ofChange reciprocitySumsSpec)

/-- ITS FALSE NEIGHBOUR: 'it returns false'. Refute it at one input. -/
def reciprocitySumsWrong : ChangeSpec := { name := "reciprocitySums", fn := fun _ => fun
  | [d] => { results := [.lit (.bool false)], args := [d] }
  | _ => none }
def ReciprocitySumsWrongFalsely : Prop := reciprocitySumsRow.holds Tryz.pinned (OpenSpec.ofChange reciprocitySumsWrong)

/-- 'galoislaw49.ReciprocityRoots': WHATEVER THE INPUT: true; the input reads as it did. -/
def reciprocityRootsSpec : ChangeSpec := { name := "reciprocityRoots", fn := fun _ => fun
  | [d1, d2] => { results := [.lit (.bool true)], args := [d1, d2] }
  | _ => none }
def reciprocityRootsRow : OpenClaim := { program := "ytpendgpnikmohaagreat", sum := "585dbdf341c5f7f299cd4cb4814ba8b868d250aa7aa7e126d46fae1a9815dd36", func := "galois/galoislaw49.ReciprocityRoots", spec := "reciprocityRoots", inPlace := ["math/bits.Add64", "math/bits.Sub64"], unfollowed := true, recurses := true, named := ["math/bits.divideError", "math/bits.overflowError"], apart := false }
def ReciprocityRootsSaid : Prop := reciprocityRootsRow.holds Tryz.pinned (OpenSpec.ofChange reciprocityRootsSpec)

/-- ITS FALSE NEIGHBOUR: 'it returns false'. Refute it at one input. -/
def reciprocityRootsWrong : ChangeSpec := { name := "reciprocityRoots", fn := fun _ => fun
  | [d1, d2] => { results := [.lit (.bool false)], args := [d1, d2] }
  | _ => none }
def ReciprocityRootsWrongFalsely : Prop := reciprocityRootsRow.holds Tryz.pinned (OpenSpec.ofChange reciprocityRootsWrong)

/-- 'galoislaw49.ReciprocityLattice': WHATEVER THE INPUT: true; the input reads as it did. -/
def reciprocityLatticeSpec : ChangeSpec := { name := "reciprocityLattice", fn := fun _ => fun
  | [d1, d2] => { results := [.lit (.bool true)], args := [d1, d2] }
  | _ => none }
def reciprocityLatticeRow : OpenClaim := { program := "ytpendgpnikmohaagreat", sum := "585dbdf341c5f7f299cd4cb4814ba8b868d250aa7aa7e126d46fae1a9815dd36", func := "galois/galoislaw49.ReciprocityLattice", spec := "reciprocityLattice", inPlace := ["math/bits.Add64", "math/bits.Sub64"], unfollowed := true, recurses := true, named := ["math/bits.divideError", "math/bits.overflowError"], apart := false }
def ReciprocityLatticeSaid : Prop := reciprocityLatticeRow.holds Tryz.pinned (OpenSpec.ofChange reciprocityLatticeSpec)

/-- ITS FALSE NEIGHBOUR: 'it returns false'. Refute it at one input. -/
def reciprocityLatticeWrong : ChangeSpec := { name := "reciprocityLattice", fn := fun _ => fun
  | [d1, d2] => { results := [.lit (.bool false)], args := [d1, d2] }
  | _ => none }
def ReciprocityLatticeWrongFalsely : Prop := reciprocityLatticeRow.holds Tryz.pinned (OpenSpec.ofChange reciprocityLatticeWrong)

/-- 'galoislaw49.ReciprocitySymbols': WHATEVER THE INPUT: true; the input reads as it did. -/
def reciprocitySymbolsSpec : ChangeSpec := { name := "reciprocitySymbols", fn := fun _ => fun
  | [d1, d2] => { results := [.lit (.bool true)], args := [d1, d2] }
  | _ => none }
def reciprocitySymbolsRow : OpenClaim := { program := "ytpendgpnikmohaagreat", sum := "585dbdf341c5f7f299cd4cb4814ba8b868d250aa7aa7e126d46fae1a9815dd36", func := "galois/galoislaw49.ReciprocitySymbols", spec := "reciprocitySymbols", inPlace := ["math/bits.Add64", "math/bits.Sub64"], unfollowed := true, recurses := true, named := ["math/bits.divideError", "math/bits.overflowError"], apart := false }
def ReciprocitySymbolsSaid : Prop := reciprocitySymbolsRow.holds Tryz.pinned (OpenSpec.ofChange reciprocitySymbolsSpec)

/-- ITS FALSE NEIGHBOUR: 'it returns false'. Refute it at one input. -/
def reciprocitySymbolsWrong : ChangeSpec := { name := "reciprocitySymbols", fn := fun _ => fun
  | [d1, d2] => { results := [.lit (.bool false)], args := [d1, d2] }
  | _ => none }
def ReciprocitySymbolsWrongFalsely : Prop := reciprocitySymbolsRow.holds Tryz.pinned (OpenSpec.ofChange reciprocitySymbolsWrong)

/-- 'galoislaw49.ReciprocitySupplements': WHATEVER THE INPUT: true; the input reads as it did. -/
def reciprocitySupplementsSpec : ChangeSpec := { name := "reciprocitySupplements", fn := fun _ => fun
  | [d1, d2, d3] => { results := [.lit (.bool true)], args := [d1, d2, d3] }
  | _ => none }
def reciprocitySupplementsRow : OpenClaim := { program := "ytpendgpnikmohaagreat", sum := "585dbdf341c5f7f299cd4cb4814ba8b868d250aa7aa7e126d46fae1a9815dd36", func := "galois/galoislaw49.ReciprocitySupplements", spec := "reciprocitySupplements", inPlace := ["math/bits.Add64", "math/bits.Sub64"], unfollowed := true, recurses := true, named := ["math/bits.divideError", "math/bits.overflowError"], apart := false }
def ReciprocitySupplementsSaid : Prop := reciprocitySupplementsRow.holds Tryz.pinned (OpenSpec.ofChange reciprocitySupplementsSpec)

/-- ITS FALSE NEIGHBOUR: 'it returns false'. Refute it at one input. -/
def reciprocitySupplementsWrong : ChangeSpec := { name := "reciprocitySupplements", fn := fun _ => fun
  | [d1, d2, d3] => { results := [.lit (.bool false)], args := [d1, d2, d3] }
  | _ => none }
def ReciprocitySupplementsWrongFalsely : Prop := reciprocitySupplementsRow.holds Tryz.pinned (OpenSpec.ofChange reciprocitySupplementsWrong)

/-- 'galoislaw49.ReciprocityResultants': WHATEVER THE INPUT: true; the input reads as it did. -/
def reciprocityResultantsSpec : ChangeSpec := { name := "reciprocityResultants", fn := fun _ => fun
  | [d1, d2] => { results := [.lit (.bool true)], args := [d1, d2] }
  | _ => none }
def reciprocityResultantsRow : OpenClaim := { program := "ytpendgpnikmohaagreat", sum := "585dbdf341c5f7f299cd4cb4814ba8b868d250aa7aa7e126d46fae1a9815dd36", func := "galois/galoislaw49.ReciprocityResultants", spec := "reciprocityResultants", inPlace := ["math/bits.Add64", "math/bits.Sub64"], unfollowed := true, recurses := true, named := ["math/bits.divideError", "math/bits.overflowError"], apart := false }
def ReciprocityResultantsSaid : Prop := reciprocityResultantsRow.holds Tryz.pinned (OpenSpec.ofChange reciprocityResultantsSpec)

/-- ITS FALSE NEIGHBOUR: 'it returns false'. Refute it at one input. -/
def reciprocityResultantsWrong : ChangeSpec := { name := "reciprocityResultants", fn := fun _ => fun
  | [d1, d2] => { results := [.lit (.bool false)], args := [d1, d2] }
  | _ => none }
def ReciprocityResultantsWrongFalsely : Prop := reciprocityResultantsRow.holds Tryz.pinned (OpenSpec.ofChange reciprocityResultantsWrong)

/-- 'galoislaw49.ReciprocityAgree': WHATEVER THE INPUT: true; the input reads as it did. -/
def reciprocityAgreeSpec : ChangeSpec := { name := "reciprocityAgree", fn := fun _ => fun
  | [d1, d2] => { results := [.lit (.bool true)], args := [d1, d2] }
  | _ => none }
def reciprocityAgreeRow : OpenClaim := { program := "ytpendgpnikmohaagreat", sum := "585dbdf341c5f7f299cd4cb4814ba8b868d250aa7aa7e126d46fae1a9815dd36", func := "galois/galoislaw49.ReciprocityAgree", spec := "reciprocityAgree", inPlace := ["math/bits.Add64", "math/bits.Sub64"], unfollowed := true, recurses := true, named := ["math/bits.divideError", "math/bits.overflowError"], apart := false }
def ReciprocityAgreeSaid : Prop := reciprocityAgreeRow.holds Tryz.pinned (OpenSpec.ofChange reciprocityAgreeSpec)

/-- ITS FALSE NEIGHBOUR: 'it returns false'. Refute it at one input. -/
def reciprocityAgreeWrong : ChangeSpec := { name := "reciprocityAgree", fn := fun _ => fun
  | [d1, d2] => { results := [.lit (.bool false)], args := [d1, d2] }
  | _ => none }
def ReciprocityAgreeWrongFalsely : Prop := reciprocityAgreeRow.holds Tryz.pinned (OpenSpec.ofChange reciprocityAgreeWrong)

/- THE SECOND FORM. 'bulk': how many values and letters a reading holds, each counted each time it is reached (what is shared counts as often as it is met; a slice's spare places count too). A statement '..UptoSaid' is the law's where the arguments, and the package variables that the reading takes, are together of bulk at most 1048576: NARROWER than '..Said'. Prove '..Said' where nothing that the law and all that it calls make is longer than what came in: it says more and counts as full. Else prove '..UptoSaid'. A law counts once. -/
mutual
def uptoBulk {H : Type} : DataW H → Nat
  | .lit (.string bytes) => bytes.length + 1
  | .lit _ => 1
  | .nil => 1
  | .ptr d => uptoBulk d + 1
  | .slice elems spare => uptoBulkAll elems + uptoBulkAll spare + 1
  | .agg parts => uptoBulkAll parts + 1
  | .iface _ d => uptoBulk d + 1
  | .map entries => uptoBulkEntries entries + 1
  | .held _ => 1
def uptoBulkAll {H : Type} : List (DataW H) → Nat
  | [] => 0
  | d :: r => uptoBulk d + uptoBulkAll r
def uptoBulkEntries {H : Type} : List (Lit × DataW H) → Nat
  | [] => 0
  | x :: r => uptoBulkEntry x + uptoBulkEntries r
def uptoBulkEntry {H : Type} : Lit × DataW H → Nat
  | (.string bytes, d) => bytes.length + uptoBulk d + 1
  | (_, d) => uptoBulk d + 1
 end
def uptoSmall : (H : Type) → List (DataW H) → Bool := fun _ ds => decide (uptoBulkAll ds ≤ 1048576)
def OpenSpec.upto (s : _root_.Go.ChangeSpec) : _root_.Go.OpenSpec := { _root_.Go.OpenSpec.ofChange s with cond := some uptoSmall }

/-- 'galoislaw49.ReciprocityHalves', WHERE WHAT IT READS IS OF BULK AT MOST 1048576: true; the input reads as it did. -/
def reciprocityHalvesUptoRow : OpenClaim := { program := "ytpendgpnikmohaagreat", sum := "585dbdf341c5f7f299cd4cb4814ba8b868d250aa7aa7e126d46fae1a9815dd36", func := "galois/galoislaw49.ReciprocityHalves", spec := "reciprocityHalves", inPlace := ["math/bits.Add64", "math/bits.Sub64"], unfollowed := true, recurses := true, named := ["math/bits.divideError", "math/bits.overflowError"], apart := false, narrowed := true }
def ReciprocityHalvesUptoSaid : Prop := reciprocityHalvesUptoRow.holds Tryz.pinned (OpenSpec.upto reciprocityHalvesSpec)

/-- 'galoislaw49.ReciprocitySums', WHERE WHAT IT READS IS OF BULK AT MOST 1048576: true; the input reads as it did. -/
def reciprocitySumsUptoRow : OpenClaim := { program := "ytpendgpnikmohaagreat", sum := "585dbdf341c5f7f299cd4cb4814ba8b868d250aa7aa7e126d46fae1a9815dd36", func := "galois/galoislaw49.ReciprocitySums", spec := "reciprocitySums", inPlace := ["math/bits.Add64", "math/bits.Sub64"], unfollowed := true, recurses := true, named := ["math/bits.divideError", "math/bits.overflowError"], apart := false, narrowed := true }
def ReciprocitySumsUptoSaid : Prop := reciprocitySumsUptoRow.holds Tryz.pinned (OpenSpec.upto reciprocitySumsSpec)

/-- 'galoislaw49.ReciprocityRoots', WHERE WHAT IT READS IS OF BULK AT MOST 1048576: true; the input reads as it did. -/
def reciprocityRootsUptoRow : OpenClaim := { program := "ytpendgpnikmohaagreat", sum := "585dbdf341c5f7f299cd4cb4814ba8b868d250aa7aa7e126d46fae1a9815dd36", func := "galois/galoislaw49.ReciprocityRoots", spec := "reciprocityRoots", inPlace := ["math/bits.Add64", "math/bits.Sub64"], unfollowed := true, recurses := true, named := ["math/bits.divideError", "math/bits.overflowError"], apart := false, narrowed := true }
def ReciprocityRootsUptoSaid : Prop := reciprocityRootsUptoRow.holds Tryz.pinned (OpenSpec.upto reciprocityRootsSpec)

/-- 'galoislaw49.ReciprocityLattice', WHERE WHAT IT READS IS OF BULK AT MOST 1048576: true; the input reads as it did. -/
def reciprocityLatticeUptoRow : OpenClaim := { program := "ytpendgpnikmohaagreat", sum := "585dbdf341c5f7f299cd4cb4814ba8b868d250aa7aa7e126d46fae1a9815dd36", func := "galois/galoislaw49.ReciprocityLattice", spec := "reciprocityLattice", inPlace := ["math/bits.Add64", "math/bits.Sub64"], unfollowed := true, recurses := true, named := ["math/bits.divideError", "math/bits.overflowError"], apart := false, narrowed := true }
def ReciprocityLatticeUptoSaid : Prop := reciprocityLatticeUptoRow.holds Tryz.pinned (OpenSpec.upto reciprocityLatticeSpec)

/-- 'galoislaw49.ReciprocitySymbols', WHERE WHAT IT READS IS OF BULK AT MOST 1048576: true; the input reads as it did. -/
def reciprocitySymbolsUptoRow : OpenClaim := { program := "ytpendgpnikmohaagreat", sum := "585dbdf341c5f7f299cd4cb4814ba8b868d250aa7aa7e126d46fae1a9815dd36", func := "galois/galoislaw49.ReciprocitySymbols", spec := "reciprocitySymbols", inPlace := ["math/bits.Add64", "math/bits.Sub64"], unfollowed := true, recurses := true, named := ["math/bits.divideError", "math/bits.overflowError"], apart := false, narrowed := true }
def ReciprocitySymbolsUptoSaid : Prop := reciprocitySymbolsUptoRow.holds Tryz.pinned (OpenSpec.upto reciprocitySymbolsSpec)

/-- 'galoislaw49.ReciprocitySupplements', WHERE WHAT IT READS IS OF BULK AT MOST 1048576: true; the input reads as it did. -/
def reciprocitySupplementsUptoRow : OpenClaim := { program := "ytpendgpnikmohaagreat", sum := "585dbdf341c5f7f299cd4cb4814ba8b868d250aa7aa7e126d46fae1a9815dd36", func := "galois/galoislaw49.ReciprocitySupplements", spec := "reciprocitySupplements", inPlace := ["math/bits.Add64", "math/bits.Sub64"], unfollowed := true, recurses := true, named := ["math/bits.divideError", "math/bits.overflowError"], apart := false, narrowed := true }
def ReciprocitySupplementsUptoSaid : Prop := reciprocitySupplementsUptoRow.holds Tryz.pinned (OpenSpec.upto reciprocitySupplementsSpec)

/-- 'galoislaw49.ReciprocityResultants', WHERE WHAT IT READS IS OF BULK AT MOST 1048576: true; the input reads as it did. -/
def reciprocityResultantsUptoRow : OpenClaim := { program := "ytpendgpnikmohaagreat", sum := "585dbdf341c5f7f299cd4cb4814ba8b868d250aa7aa7e126d46fae1a9815dd36", func := "galois/galoislaw49.ReciprocityResultants", spec := "reciprocityResultants", inPlace := ["math/bits.Add64", "math/bits.Sub64"], unfollowed := true, recurses := true, named := ["math/bits.divideError", "math/bits.overflowError"], apart := false, narrowed := true }
def ReciprocityResultantsUptoSaid : Prop := reciprocityResultantsUptoRow.holds Tryz.pinned (OpenSpec.upto reciprocityResultantsSpec)

/-- 'galoislaw49.ReciprocityAgree', WHERE WHAT IT READS IS OF BULK AT MOST 1048576: true; the input reads as it did. -/
def reciprocityAgreeUptoRow : OpenClaim := { program := "ytpendgpnikmohaagreat", sum := "585dbdf341c5f7f299cd4cb4814ba8b868d250aa7aa7e126d46fae1a9815dd36", func := "galois/galoislaw49.ReciprocityAgree", spec := "reciprocityAgree", inPlace := ["math/bits.Add64", "math/bits.Sub64"], unfollowed := true, recurses := true, named := ["math/bits.divideError", "math/bits.overflowError"], apart := false, narrowed := true }
def ReciprocityAgreeUptoSaid : Prop := reciprocityAgreeUptoRow.holds Tryz.pinned (OpenSpec.upto reciprocityAgreeSpec)

end Rows
end Go.Proofs.YtpendgpnikmohaaGreat
