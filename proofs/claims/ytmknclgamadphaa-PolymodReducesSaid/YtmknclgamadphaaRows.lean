/-
  No cell of these rows narrows 'for every input' (looked for: loops, veiled, ifaces, maps, wideKeys, modest, calm, conditions, laid).
  DERIVED. THE GIVEN ROWS OF THIS SEAT. 10 by the template 'for every input the law returns true; each argument reads behind the call as it read before'; 0 by the template 'total and deterministic' (their statements: YtmknclgamadphaaTotals.lean).
  GIVEN WITH THE SEED: the statements are not yours to turn. If you find one false, say at which input.
  Laid BY PROGRAM, IN A SANDBOX (cutbox-rows.mjs): the forced cells as the released guide's own fill.sh prints them over the translation f744f044fea94f7e… (all of the seat's roots in one cut). By AI agents, Wed Nov 11 2026. No macro, syntax, notation, axiom, sorry.
-/
import Derived.Test.YtmknclgamadphaaChecked
import GoSem.Claim
import GoSem.ClaimJoined
import GoSem.ClaimMapViews
import Derived.JoinedTies
import Derived.KernelRfl
namespace Go.Proofs.Ytmknclgamadphaa
/- THE CELL 'sum', in the pinned program and in every row, IS THE sha256 OF THE DUMP (.gsa) THAT YtmknclgamadphaaProg.lean LOADS. Nothing in Lean hashes anything: it is a label: what it is worth is what the hold of that sum in a sandbox is worth. -/
noncomputable def Try.pinned : Pinned := { name := "ytmknclgamadphaa", sum := "f744f044fea94f7e357c37c76b4112f63879f196ac76156da311b65bef22f696", checked := Try.checked }
namespace Rows
def none {H : Type} : Left H := { results := [], args := [] }

/-- 'galoislaw09.PolymodPrimes': WHATEVER THE INPUT: true; the input reads as it did. -/
def polymodPrimesSpec : ChangeSpec := { name := "polymodPrimes", fn := fun _ => fun
  | [d1, d2] => { results := [.lit (.bool true)], args := [d1, d2] }
  | _ => none }
def polymodPrimesRow : OpenClaim := { program := "ytmknclgamadphaa", sum := "f744f044fea94f7e357c37c76b4112f63879f196ac76156da311b65bef22f696", func := "galois/galoislaw09.PolymodPrimes", spec := "polymodPrimes", unfollowed := true, recurses := true, apart := false }
def PolymodPrimesSaid : Prop := polymodPrimesRow.holds Try.pinned (OpenSpec.ofChange polymodPrimesSpec)

/-- ITS FALSE NEIGHBOUR: 'it returns false'. Refute it at one input. -/
def polymodPrimesWrong : ChangeSpec := { name := "polymodPrimes", fn := fun _ => fun
  | [d1, d2] => { results := [.lit (.bool false)], args := [d1, d2] }
  | _ => none }
def PolymodPrimesWrongFalsely : Prop := polymodPrimesRow.holds Try.pinned (OpenSpec.ofChange polymodPrimesWrong)

/-- 'galoislaw09.PolymodRabin': WHATEVER THE INPUT: true; the input reads as it did. -/
def polymodRabinSpec : ChangeSpec := { name := "polymodRabin", fn := fun _ => fun
  | [d1, d2, d3] => { results := [.lit (.bool true)], args := [d1, d2, d3] }
  | _ => none }
def polymodRabinRow : OpenClaim := { program := "ytmknclgamadphaa", sum := "f744f044fea94f7e357c37c76b4112f63879f196ac76156da311b65bef22f696", func := "galois/galoislaw09.PolymodRabin", spec := "polymodRabin", unfollowed := true, recurses := true, apart := false }
def PolymodRabinSaid : Prop := polymodRabinRow.holds Try.pinned (OpenSpec.ofChange polymodRabinSpec)

/-- ITS FALSE NEIGHBOUR: 'it returns false'. Refute it at one input. -/
def polymodRabinWrong : ChangeSpec := { name := "polymodRabin", fn := fun _ => fun
  | [d1, d2, d3] => { results := [.lit (.bool false)], args := [d1, d2, d3] }
  | _ => none }
def PolymodRabinWrongFalsely : Prop := polymodRabinRow.holds Try.pinned (OpenSpec.ofChange polymodRabinWrong)

/-- 'galoislaw09.PolymodPowers': WHATEVER THE INPUT: true; the input reads as it did. -/
def polymodPowersSpec : ChangeSpec := { name := "polymodPowers", fn := fun _ => fun
  | [d1, d2, d3] => { results := [.lit (.bool true)], args := [d1, d2, d3] }
  | _ => none }
def polymodPowersRow : OpenClaim := { program := "ytmknclgamadphaa", sum := "f744f044fea94f7e357c37c76b4112f63879f196ac76156da311b65bef22f696", func := "galois/galoislaw09.PolymodPowers", spec := "polymodPowers", unfollowed := true, recurses := true, apart := false }
def PolymodPowersSaid : Prop := polymodPowersRow.holds Try.pinned (OpenSpec.ofChange polymodPowersSpec)

/-- ITS FALSE NEIGHBOUR: 'it returns false'. Refute it at one input. -/
def polymodPowersWrong : ChangeSpec := { name := "polymodPowers", fn := fun _ => fun
  | [d1, d2, d3] => { results := [.lit (.bool false)], args := [d1, d2, d3] }
  | _ => none }
def PolymodPowersWrongFalsely : Prop := polymodPowersRow.holds Try.pinned (OpenSpec.ofChange polymodPowersWrong)

/-- 'galoislaw09.PolymodDivisions': WHATEVER THE INPUT: true; the input reads as it did. -/
def polymodDivisionsSpec : ChangeSpec := { name := "polymodDivisions", fn := fun _ => fun
  | [d1, d2, d3] => { results := [.lit (.bool true)], args := [d1, d2, d3] }
  | _ => none }
def polymodDivisionsRow : OpenClaim := { program := "ytmknclgamadphaa", sum := "f744f044fea94f7e357c37c76b4112f63879f196ac76156da311b65bef22f696", func := "galois/galoislaw09.PolymodDivisions", spec := "polymodDivisions", unfollowed := true, recurses := true, apart := false }
def PolymodDivisionsSaid : Prop := polymodDivisionsRow.holds Try.pinned (OpenSpec.ofChange polymodDivisionsSpec)

/-- ITS FALSE NEIGHBOUR: 'it returns false'. Refute it at one input. -/
def polymodDivisionsWrong : ChangeSpec := { name := "polymodDivisions", fn := fun _ => fun
  | [d1, d2, d3] => { results := [.lit (.bool false)], args := [d1, d2, d3] }
  | _ => none }
def PolymodDivisionsWrongFalsely : Prop := polymodDivisionsRow.holds Try.pinned (OpenSpec.ofChange polymodDivisionsWrong)

/-- 'galoislaw09.PolymodRing': WHATEVER THE INPUT: true; the input reads as it did. -/
def polymodRingSpec : ChangeSpec := { name := "polymodRing", fn := fun _ => fun
  | [d1, d2, d3] => { results := [.lit (.bool true)], args := [d1, d2, d3] }
  | _ => none }
def polymodRingRow : OpenClaim := { program := "ytmknclgamadphaa", sum := "f744f044fea94f7e357c37c76b4112f63879f196ac76156da311b65bef22f696", func := "galois/galoislaw09.PolymodRing", spec := "polymodRing", unfollowed := true, recurses := true, apart := false }
def PolymodRingSaid : Prop := polymodRingRow.holds Try.pinned (OpenSpec.ofChange polymodRingSpec)

/-- ITS FALSE NEIGHBOUR: 'it returns false'. Refute it at one input. -/
def polymodRingWrong : ChangeSpec := { name := "polymodRing", fn := fun _ => fun
  | [d1, d2, d3] => { results := [.lit (.bool false)], args := [d1, d2, d3] }
  | _ => none }
def PolymodRingWrongFalsely : Prop := polymodRingRow.holds Try.pinned (OpenSpec.ofChange polymodRingWrong)

/-- 'galoislaw09.PolymodBezout': WHATEVER THE INPUT: true; the input reads as it did. -/
def polymodBezoutSpec : ChangeSpec := { name := "polymodBezout", fn := fun _ => fun
  | [d1, d2, d3] => { results := [.lit (.bool true)], args := [d1, d2, d3] }
  | _ => none }
def polymodBezoutRow : OpenClaim := { program := "ytmknclgamadphaa", sum := "f744f044fea94f7e357c37c76b4112f63879f196ac76156da311b65bef22f696", func := "galois/galoislaw09.PolymodBezout", spec := "polymodBezout", unfollowed := true, recurses := true, apart := false }
def PolymodBezoutSaid : Prop := polymodBezoutRow.holds Try.pinned (OpenSpec.ofChange polymodBezoutSpec)

/-- ITS FALSE NEIGHBOUR: 'it returns false'. Refute it at one input. -/
def polymodBezoutWrong : ChangeSpec := { name := "polymodBezout", fn := fun _ => fun
  | [d1, d2, d3] => { results := [.lit (.bool false)], args := [d1, d2, d3] }
  | _ => none }
def PolymodBezoutWrongFalsely : Prop := polymodBezoutRow.holds Try.pinned (OpenSpec.ofChange polymodBezoutWrong)

/-- 'galoislaw09.PolymodFrobenius': WHATEVER THE INPUT: true; the input reads as it did. -/
def polymodFrobeniusSpec : ChangeSpec := { name := "polymodFrobenius", fn := fun _ => fun
  | [d1, d2, d3] => { results := [.lit (.bool true)], args := [d1, d2, d3] }
  | _ => none }
def polymodFrobeniusRow : OpenClaim := { program := "ytmknclgamadphaa", sum := "f744f044fea94f7e357c37c76b4112f63879f196ac76156da311b65bef22f696", func := "galois/galoislaw09.PolymodFrobenius", spec := "polymodFrobenius", unfollowed := true, recurses := true, apart := false }
def PolymodFrobeniusSaid : Prop := polymodFrobeniusRow.holds Try.pinned (OpenSpec.ofChange polymodFrobeniusSpec)

/-- ITS FALSE NEIGHBOUR: 'it returns false'. Refute it at one input. -/
def polymodFrobeniusWrong : ChangeSpec := { name := "polymodFrobenius", fn := fun _ => fun
  | [d1, d2, d3] => { results := [.lit (.bool false)], args := [d1, d2, d3] }
  | _ => none }
def PolymodFrobeniusWrongFalsely : Prop := polymodFrobeniusRow.holds Try.pinned (OpenSpec.ofChange polymodFrobeniusWrong)

/-- 'galoislaw09.PolymodValues': WHATEVER THE INPUT: true; the input reads as it did. -/
def polymodValuesSpec : ChangeSpec := { name := "polymodValues", fn := fun _ => fun
  | [d1, d2, d3] => { results := [.lit (.bool true)], args := [d1, d2, d3] }
  | _ => none }
def polymodValuesRow : OpenClaim := { program := "ytmknclgamadphaa", sum := "f744f044fea94f7e357c37c76b4112f63879f196ac76156da311b65bef22f696", func := "galois/galoislaw09.PolymodValues", spec := "polymodValues", unfollowed := true, recurses := true, apart := false }
def PolymodValuesSaid : Prop := polymodValuesRow.holds Try.pinned (OpenSpec.ofChange polymodValuesSpec)

/-- ITS FALSE NEIGHBOUR: 'it returns false'. Refute it at one input. -/
def polymodValuesWrong : ChangeSpec := { name := "polymodValues", fn := fun _ => fun
  | [d1, d2, d3] => { results := [.lit (.bool false)], args := [d1, d2, d3] }
  | _ => none }
def PolymodValuesWrongFalsely : Prop := polymodValuesRow.holds Try.pinned (OpenSpec.ofChange polymodValuesWrong)

/-- 'galoislaw09.PolymodSums': WHATEVER THE INPUT: true; the input reads as it did. -/
def polymodSumsSpec : ChangeSpec := { name := "polymodSums", fn := fun _ => fun
  | [d1, d2, d3] => { results := [.lit (.bool true)], args := [d1, d2, d3] }
  | _ => none }
def polymodSumsRow : OpenClaim := { program := "ytmknclgamadphaa", sum := "f744f044fea94f7e357c37c76b4112f63879f196ac76156da311b65bef22f696", func := "galois/galoislaw09.PolymodSums", spec := "polymodSums", unfollowed := true, recurses := true, apart := false }
def PolymodSumsSaid : Prop := polymodSumsRow.holds Try.pinned (OpenSpec.ofChange polymodSumsSpec)

/-- ITS FALSE NEIGHBOUR: 'it returns false'. Refute it at one input. -/
def polymodSumsWrong : ChangeSpec := { name := "polymodSums", fn := fun _ => fun
  | [d1, d2, d3] => { results := [.lit (.bool false)], args := [d1, d2, d3] }
  | _ => none }
def PolymodSumsWrongFalsely : Prop := polymodSumsRow.holds Try.pinned (OpenSpec.ofChange polymodSumsWrong)

/-- 'galoislaw09.PolymodReduces': WHATEVER THE INPUT: true; the input reads as it did. -/
def polymodReducesSpec : ChangeSpec := { name := "polymodReduces", fn := fun _ => fun
  | [d1, d2, d3] => { results := [.lit (.bool true)], args := [d1, d2, d3] }
  | _ => none }
def polymodReducesRow : OpenClaim := { program := "ytmknclgamadphaa", sum := "f744f044fea94f7e357c37c76b4112f63879f196ac76156da311b65bef22f696", func := "galois/galoislaw09.PolymodReduces", spec := "polymodReduces", inPlace := ["math/bits.Add64", "math/bits.Sub64"], unfollowed := true, recurses := true, named := ["math/bits.divideError", "math/bits.overflowError"], apart := false }
def PolymodReducesSaid : Prop := polymodReducesRow.holds Try.pinned (OpenSpec.ofChange polymodReducesSpec)

/-- ITS FALSE NEIGHBOUR: 'it returns false'. Refute it at one input. -/
def polymodReducesWrong : ChangeSpec := { name := "polymodReduces", fn := fun _ => fun
  | [d1, d2, d3] => { results := [.lit (.bool false)], args := [d1, d2, d3] }
  | _ => none }
def PolymodReducesWrongFalsely : Prop := polymodReducesRow.holds Try.pinned (OpenSpec.ofChange polymodReducesWrong)

/- THE SECOND FORM. 'bulk': how many values and letters a reading holds, each counted each time it is reached (what is shared counts as often as it is met; a slice's spare places count too). A statement '..UptoSaid' is the law's where the arguments, and the package variables that the reading takes, are together of bulk at most 1048576: NARROWER than '..Said'. Prove '..Said' where nothing that the law and all that it calls make is longer than what came in: it says more and counts as full. Else prove '..UptoSaid'. A law counts once. -/
mutual
def uptoBulk {H : Type} : DataW H → Nat
  | .lit (.string bytes) => bytes.length + 1
  | .lit _ => 1
  | .nil => 1
  | .ptr d => uptoBulk d + 1
  | .slice elems spare => uptoBulkAll elems + uptoBulkAll spare + 1
  | .agg parts => uptoBulkAll parts + 1
  | .iface _ d => uptoBulk d + 1
  | .map entries => uptoBulkEntries entries + 1
  | .held _ => 1
def uptoBulkAll {H : Type} : List (DataW H) → Nat
  | [] => 0
  | d :: r => uptoBulk d + uptoBulkAll r
def uptoBulkEntries {H : Type} : List (Lit × DataW H) → Nat
  | [] => 0
  | x :: r => uptoBulkEntry x + uptoBulkEntries r
def uptoBulkEntry {H : Type} : Lit × DataW H → Nat
  | (.string bytes, d) => bytes.length + uptoBulk d + 1
  | (_, d) => uptoBulk d + 1
 end
def uptoSmall : (H : Type) → List (DataW H) → Bool := fun _ ds => decide (uptoBulkAll ds ≤ 1048576)
def OpenSpec.upto (s : _root_.Go.ChangeSpec) : _root_.Go.OpenSpec := { _root_.Go.OpenSpec.ofChange s with cond := some uptoSmall }

/-- 'galoislaw09.PolymodPrimes', WHERE WHAT IT READS IS OF BULK AT MOST 1048576: true; the input reads as it did. -/
def polymodPrimesUptoRow : OpenClaim := { program := "ytmknclgamadphaa", sum := "f744f044fea94f7e357c37c76b4112f63879f196ac76156da311b65bef22f696", func := "galois/galoislaw09.PolymodPrimes", spec := "polymodPrimes", unfollowed := true, recurses := true, apart := false, narrowed := true }
def PolymodPrimesUptoSaid : Prop := polymodPrimesUptoRow.holds Try.pinned (OpenSpec.upto polymodPrimesSpec)

/-- 'galoislaw09.PolymodRabin', WHERE WHAT IT READS IS OF BULK AT MOST 1048576: true; the input reads as it did. -/
def polymodRabinUptoRow : OpenClaim := { program := "ytmknclgamadphaa", sum := "f744f044fea94f7e357c37c76b4112f63879f196ac76156da311b65bef22f696", func := "galois/galoislaw09.PolymodRabin", spec := "polymodRabin", unfollowed := true, recurses := true, apart := false, narrowed := true }
def PolymodRabinUptoSaid : Prop := polymodRabinUptoRow.holds Try.pinned (OpenSpec.upto polymodRabinSpec)

/-- 'galoislaw09.PolymodPowers', WHERE WHAT IT READS IS OF BULK AT MOST 1048576: true; the input reads as it did. -/
def polymodPowersUptoRow : OpenClaim := { program := "ytmknclgamadphaa", sum := "f744f044fea94f7e357c37c76b4112f63879f196ac76156da311b65bef22f696", func := "galois/galoislaw09.PolymodPowers", spec := "polymodPowers", unfollowed := true, recurses := true, apart := false, narrowed := true }
def PolymodPowersUptoSaid : Prop := polymodPowersUptoRow.holds Try.pinned (OpenSpec.upto polymodPowersSpec)

/-- 'galoislaw09.PolymodDivisions', WHERE WHAT IT READS IS OF BULK AT MOST 1048576: true; the input reads as it did. -/
def polymodDivisionsUptoRow : OpenClaim := { program := "ytmknclgamadphaa", sum := "f744f044fea94f7e357c37c76b4112f63879f196ac76156da311b65bef22f696", func := "galois/galoislaw09.PolymodDivisions", spec := "polymodDivisions", unfollowed := true, recurses := true, apart := false, narrowed := true }
def PolymodDivisionsUptoSaid : Prop := polymodDivisionsUptoRow.holds Try.pinned (OpenSpec.upto polymodDivisionsSpec)

/-- 'galoislaw09.PolymodRing', WHERE WHAT IT READS IS OF BULK AT MOST 1048576: true; the input reads as it did. -/
def polymodRingUptoRow : OpenClaim := { program := "ytmknclgamadphaa", sum := "f744f044fea94f7e357c37c76b4112f63879f196ac76156da311b65bef22f696", func := "galois/galoislaw09.PolymodRing", spec := "polymodRing", unfollowed := true, recurses := true, apart := false, narrowed := true }
def PolymodRingUptoSaid : Prop := polymodRingUptoRow.holds Try.pinned (OpenSpec.upto polymodRingSpec)

/-- 'galoislaw09.PolymodBezout', WHERE WHAT IT READS IS OF BULK AT MOST 1048576: true; the input reads as it did. -/
def polymodBezoutUptoRow : OpenClaim := { program := "ytmknclgamadphaa", sum := "f744f044fea94f7e357c37c76b4112f63879f196ac76156da311b65bef22f696", func := "galois/galoislaw09.PolymodBezout", spec := "polymodBezout", unfollowed := true, recurses := true, apart := false, narrowed := true }
def PolymodBezoutUptoSaid : Prop := polymodBezoutUptoRow.holds Try.pinned (OpenSpec.upto polymodBezoutSpec)

/-- 'galoislaw09.PolymodFrobenius', WHERE WHAT IT READS IS OF BULK AT MOST 1048576: true; the input reads as it did. -/
def polymodFrobeniusUptoRow : OpenClaim := { program := "ytmknclgamadphaa", sum := "f744f044fea94f7e357c37c76b4112f63879f196ac76156da311b65bef22f696", func := "galois/galoislaw09.PolymodFrobenius", spec := "polymodFrobenius", unfollowed := true, recurses := true, apart := false, narrowed := true }
def PolymodFrobeniusUptoSaid : Prop := polymodFrobeniusUptoRow.holds Try.pinned (OpenSpec.upto polymodFrobeniusSpec)

/-- 'galoislaw09.PolymodValues', WHERE WHAT IT READS IS OF BULK AT MOST 1048576: true; the input reads as it did. -/
def polymodValuesUptoRow : OpenClaim := { program := "ytmknclgamadphaa", sum := "f744f044fea94f7e357c37c76b4112f63879f196ac76156da311b65bef22f696", func := "galois/galoislaw09.PolymodValues", spec := "polymodValues", unfollowed := true, recurses := true, apart := false, narrowed := true }
def PolymodValuesUptoSaid : Prop := polymodValuesUptoRow.holds Try.pinned (OpenSpec.upto polymodValuesSpec)

/-- 'galoislaw09.PolymodSums', WHERE WHAT IT READS IS OF BULK AT MOST 1048576: true; the input reads as it did. -/
def polymodSumsUptoRow : OpenClaim := { program := "ytmknclgamadphaa", sum := "f744f044fea94f7e357c37c76b4112f63879f196ac76156da311b65bef22f696", func := "galois/galoislaw09.PolymodSums", spec := "polymodSums", unfollowed := true, recurses := true, apart := false, narrowed := true }
def PolymodSumsUptoSaid : Prop := polymodSumsUptoRow.holds Try.pinned (OpenSpec.upto polymodSumsSpec)

/-- 'galoislaw09.PolymodReduces', WHERE WHAT IT READS IS OF BULK AT MOST 1048576: true; the input reads as it did. -/
def polymodReducesUptoRow : OpenClaim := { program := "ytmknclgamadphaa", sum := "f744f044fea94f7e357c37c76b4112f63879f196ac76156da311b65bef22f696", func := "galois/galoislaw09.PolymodReduces", spec := "polymodReduces", inPlace := ["math/bits.Add64", "math/bits.Sub64"], unfollowed := true, recurses := true, named := ["math/bits.divideError", "math/bits.overflowError"], apart := false, narrowed := true }
def PolymodReducesUptoSaid : Prop := polymodReducesUptoRow.holds Try.pinned (OpenSpec.upto polymodReducesSpec)

end Rows
end Go.Proofs.Ytmknclgamadphaa
