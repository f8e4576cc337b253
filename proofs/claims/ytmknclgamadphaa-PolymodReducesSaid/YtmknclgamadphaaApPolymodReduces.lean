import Derived.Test.YtmknclgamadphaaPPolymodReducesx5
import Derived.Deep.SlicePairs
namespace Go.Proofs.Ytmknclgamadphaa.PPolymodReduces
open Go Go.RowKit Go.ChangeShapes Go.WideShapes Go.Proofs.YtmknclgamadphaaW.PrintWords Go.Proofs.YtmknclgamadphaaW.PrintLast Go.Proofs.YtmknclgamadphaaW.PrintMore
set_option linter.unusedVariables false
def galoislaw09_PolymodReduces.Pure : Prop := ∀ (a0 : Int) (l1 : List Int) (l2 : List S72), (Lit.int .i64 a0).wf = true → l1.length ≤ maxLen → l1.length * 8 ≤ 140737488351232 → (∀ x ∈ l1, (Lit.int .i64 x).wf = true) → ∃ k, galoislaw09_PolymodReduces.f k a0 l1 l2 = some true
theorem galoislaw09_PolymodReduces.walk (P : galoislaw09_PolymodReduces.Pure) (a0 : Int) (a1 : Option Addr) (len1 cap1 : Nat) (z1 : List Int) (a2 : Option Addr) (cap2 : Nat) (l2 : List S72) (w : World) (w0 : (Lit.int .i64 a0).wf = true) (w1 : (a1 = none ∧ len1 = 0 ∧ cap1 = 0 ∧ z1 = []) ∨ ∃ x, a1 = some x ∧ len1 ≤ cap1 ∧ cap1 ≤ maxLen ∧ z1.length = cap1 ∧ (∀ i, i < z1.length → w.cell? (x.add i) = some (.int .i64 (z1.getD i 0))) ∧ ∀ n ∈ z1, (Lit.int .i64 n).wf = true) (y1 : len1 * 8 ≤ 140737488351232) (w2 : Kd.C k72 w a2 l2.length l2) (c2 : l2.length ≤ cap2) :
    Calls Try.prog 12 #[.int .i64 a0, .slice a1 len1 cap1, .slice a2 l2.length cap2] w fun e w' => e = .returned (.bool true) ∧ Below w.heap.size w w' := by
  obtain ⟨l1, rfl, hr1, hm1, hw1, hc1⟩ := ReadsInt.ofRowC w1
  obtain ⟨k, h⟩ := P a0 l1 l2 w0 hm1 y1 hw1
  exact galoislaw09_PolymodReduces.calls k a0 _ _ l1 _ _ l2 true w (Kd.C_of_reads (d := (0 : Int)) (h1 := fun _ => rfl) hr1) hc1 w2 c2 h
instance : Inhabited S72 := ⟨z72⟩
theorem pairs_row {H : Type} {enc : TypeId × Value → H} {P : Program} {W : World} {held : Bool} {t e : TypeId} {f0 f1 : Field} {a : Option Addr} {len cap : Nat} {d : DataW H} {ps : List MemPlace}
    (ht : P.underlying t = some (.slice e)) (he : P.underlying e = some (.struct #[f0, f1])) (ce : P.cellsOf e = 2) (o0 : f0.offset = 0) (o1 : f1.offset = 1) (c0 : P.cellsOf f0.type = 1) (c1 : P.cellsOf f1.type = 1) (u0 : P.underlying f0.type = some .bool) (u1 : P.underlying f1.type = some .string)
    (h : DataW.Trod enc P W 0 (fun _ => true) held t (.slice a len cap) d ps) : ∃ l : List S72, len = l.length ∧ Kd.C k72 W a l.length l ∧ l.length ≤ cap := by
  obtain ⟨fuel, hf⟩ := h
  rcases Go.Deep.open_slice_pairs ht he ce o0 o1 c0 c1 hf with ⟨hcs, _⟩ | ⟨x, l, c, m, n, V0, V1, D0, D1, P0, P1, hcs, hb, hl, hm, hmm, _, hi⟩
  · simp [Value.cells] at hcs
    obtain ⟨rfl, rfl, rfl⟩ := hcs
    exact ⟨[], rfl, ⟨rfl, by decide, fun h => absurd h (Nat.lt_irrefl _)⟩, Nat.le_refl _⟩
  · simp [Value.cells] at hcs
    obtain ⟨rfl, rfl, rfl⟩ := hcs
    have each : ∀ i, i < len → ∃ s : S72, W.cell? (x.add (i * 2)) = some (.bool s.f0) ∧ W.cell? (x.add (i * 2 + 1)) = some (.string s.f1) := fun i h => by
      obtain ⟨e1, e2, e3, e4⟩ := hi i (by rw [hmm]; split <;> omega)
      obtain ⟨b, hb1, _⟩ := DataW.trod_bool u0 e3
      obtain ⟨s, hs1, _⟩ := DataW.trod_string u1 e4
      refine ⟨⟨b, s⟩, ?_, ?_⟩
      · rw [e1, List.cons.inj hb1 |>.1]
      · rw [e2, List.cons.inj hs1 |>.1]
    obtain ⟨F, hF⟩ := Go.Deep.choose_lt each
    have hlen : ((List.range len).map F).length = len := by simp
    refine ⟨(List.range len).map F, hlen.symm, ⟨rfl, ?_, fun _ => ⟨x, rfl, fun j p hj => ?_⟩⟩, by rw [hlen]; exact hl⟩
    · rw [hlen]; exact Nat.le_trans hl (Nat.le_trans hm (by decide))
    · obtain ⟨hjl, hjp⟩ := List.getElem?_eq_some_iff.1 hj
      have hjl2 : j < len := by rw [hlen] at hjl; exact hjl
      have hp : p = F j := by rw [← hjp]; simp
      obtain ⟨g0, g1⟩ := hF j hjl2
      rw [← hp] at g0 g1
      refine ⟨[.bool p.f0, .string p.f1], rfl, k72_mk W p, fun i u hu => ?_⟩
      match i, hu with
      | 0, hu => obtain rfl := Option.some.inj hu; exact g0
      | 1, hu => obtain rfl := Option.some.inj hu; exact g1
      | i + 2, hu => simp at hu
end Go.Proofs.Ytmknclgamadphaa.PPolymodReduces
