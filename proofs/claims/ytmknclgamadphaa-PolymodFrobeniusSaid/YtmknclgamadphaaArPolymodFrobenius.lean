/- A law's parameter that is an array of two slices of whole numbers, or of two whole numbers: opened. -/
import Derived.SizedLaws
import Derived.ChangeSlices
import Derived.OpenShut
namespace Go.Proofs.Ytmknclgamadphaa.MPolymodFrobenius
open Go Go.ChangeShapes Go.WideShapes
set_option linter.unusedVariables false
theorem cells_two {v : Value} (h : v.cells.toList.length = 2) : ∃ x y, v = .agg #[x, y] ∧ v.cells.toList = [x, y] := by
  cases v with
  | agg cs =>
    have h : cs.toList.length = 2 := h
    obtain ⟨l⟩ := cs
    match l, h with
    | [x, y], _ => exact ⟨x, y, rfl, rfl⟩
  | _ => exact absurd h (by simp [Value.cells])
theorem two_of_len {α : Type} {l : List α} (h : l.length = 2) : ∃ x y, l = [x, y] := by
  match l, h with
  | [x, y], _ => exact ⟨x, y, rfl⟩
theorem weights_all {H : Type} {P : Program} {e : TypeId} {l : List (DataW H)} {d : DataW H} {n : Nat} (hd : d ∈ l) (hn : n ∈ d.weights P e) : n ∈ DataW.weightsAll P e l := by
  induction l with
  | nil => cases hd
  | cons a l ih =>
    simp only [DataW.weightsAll, List.mem_append]
    rcases List.mem_cons.1 hd with rfl | h
    · exact .inl hn
    · exact .inr (ih h)
section
variable {H : Type} {enc : TypeId × Value → H} {P : Program} {W : World} {base : Nat} {held : Bool} {t e i : TypeId} {k : IntKind} {v : Value} {d : DataW H} {ps : List MemPlace}
theorem row_of {a : Value} {fuel : Nat} {x : DataW H × List MemPlace} {ts : List TypeId} {ds : List (DataW H)} {B : Nat} (hu : P.underlying e = some (.slice i)) (hi : P.underlying i = some (.int k)) (hc : P.cellsOf i = 1) (hB : P.bytesOf i = B)
    (hs : ∀ n ∈ x.1.weights P e, n ≤ reachBytes) (hf : DataW.trod enc P W base (fun _ => true) held fuel e [a] = some x) :
    ∃ (a0 : Option Addr) (len cap : Nat) (zs : List Int), a = .slice a0 len cap ∧
      ((a0 = none ∧ len = 0 ∧ cap = 0 ∧ zs = []) ∨ ∃ x, a0 = some x ∧ len ≤ cap ∧ cap ≤ maxLen ∧ zs.length = cap ∧ (∀ i, i < zs.length → W.cell? (x.add i) = some (.int k (zs.getD i 0))) ∧ ∀ n ∈ zs, (Lit.int k n).wf = true) ∧ len * B ≤ 140737488351232 := by
  rcases open_ints hu hi hc hf with ⟨hcs, _⟩ | ⟨y, l, c, zs, hcs, _, hl, hm, hz, hx, hcell, hwz⟩
  · obtain rfl : a = .slice none 0 0 := by simpa using hcs
    exact ⟨none, 0, 0, [], rfl, .inl ⟨rfl, rfl, rfl, rfl⟩, by simp⟩
  · obtain rfl : a = .slice (some y) l c := by simpa using hcs
    have hz' : zs.length = c := by simpa using hz
    refine ⟨some y, l, c, zs, rfl, .inr ⟨y, rfl, hl, hm, hz', hcell, hwz⟩, ?_⟩
    subst hx
    have z := hs (((lits (H := H) k (zs.take l)).length + (lits (H := H) k (zs.drop l)).length) * P.bytesOf i) (by simp [DataW.weights, hu])
    rw [hB] at z
    have h1 : (lits (H := H) k (zs.take l)).length + (lits (H := H) k (zs.drop l)).length = zs.length := by
      simp [lits]
      omega
    rw [h1] at z
    exact Nat.le_trans (Nat.mul_le_mul_right _ (by omega)) z
theorem arr2_ints {ts : List TypeId} {ds : List (DataW H)} {j B : Nat} (hsz : (DataW.weightsEach P ts ds).all (· ≤ reachBytes) = true) (ht : ts[j]? = some t) (hd : ds[j]? = some d) (hu : P.underlying t = some (.array 2 e)) (he : P.underlying e = some (.slice i)) (hi : P.underlying i = some (.int k))
    (hct : P.cellsOf t = 2) (hce : P.cellsOf e = 1) (hc : P.cellsOf i = 1) (hB : P.bytesOf i = B) (h : DataW.Trod enc P W base (fun _ => true) held t v d ps) :
    ∃ (a0 : Option Addr) (len0 cap0 : Nat) (z0 : List Int) (a1 : Option Addr) (len1 cap1 : Nat) (z1 : List Int), v = .agg #[.slice a0 len0 cap0, .slice a1 len1 cap1] ∧
      ((a0 = none ∧ len0 = 0 ∧ cap0 = 0 ∧ z0 = []) ∨ ∃ x, a0 = some x ∧ len0 ≤ cap0 ∧ cap0 ≤ maxLen ∧ z0.length = cap0 ∧ (∀ i, i < z0.length → W.cell? (x.add i) = some (.int k (z0.getD i 0))) ∧ ∀ n ∈ z0, (Lit.int k n).wf = true) ∧ len0 * B ≤ 140737488351232 ∧
      ((a1 = none ∧ len1 = 0 ∧ cap1 = 0 ∧ z1 = []) ∨ ∃ x, a1 = some x ∧ len1 ≤ cap1 ∧ cap1 ≤ maxLen ∧ z1.length = cap1 ∧ (∀ i, i < z1.length → W.cell? (x.add i) = some (.int k (z1.getD i 0))) ∧ ∀ n ∈ z1, (Lit.int k n).wf = true) ∧ len1 * B ≤ 140737488351232 := by
  obtain ⟨fuel, hf⟩ := h
  obtain ⟨xs, m, _, hx, hl, hn, hel⟩ := DataW.trod_array hu hf
  rw [hct] at hl
  obtain ⟨x, y, rfl, hxy⟩ := cells_two hl
  obtain ⟨⟨d0, p0⟩, ⟨d1, p1⟩, rfl⟩ := two_of_len hn
  have e0 := hel 0 (by omega)
  have e1 := hel 1 (by omega)
  rw [hxy, hce] at e0 e1
  obtain ⟨hdd, _⟩ := Prod.mk.inj hx
  have hw : ∀ d' ∈ [d0, d1], ∀ n ∈ d'.weights P e, n ≤ reachBytes := fun d' hd' n hn' => by
    have := List.all_eq_true.1 hsz _ (DataW.weights_mem_each ht hd n (by
      subst hdd
      simp only [DataW.weights, hu]
      exact weights_all (by simpa using hd') hn'))
    simpa using this
  obtain ⟨a0, l0, c0, z0, rfl, w0, y0⟩ := row_of (ts := ts) (ds := ds) (x := (d0, p0)) he hi hc hB (hw d0 (by simp)) e0
  obtain ⟨a1, l1, c1, z1, rfl, w1, y1⟩ := row_of (ts := ts) (ds := ds) (x := (d1, p1)) he hi hc hB (hw d1 (by simp)) e1
  exact ⟨a0, l0, c0, z0, a1, l1, c1, z1, rfl, w0, y0, w1, y1⟩
theorem arr2_int (hu : P.underlying t = some (.array 2 e)) (he : P.underlying e = some (.int k)) (hct : P.cellsOf t = 2) (hce : P.cellsOf e = 1) (h : DataW.Trod enc P W base (fun _ => true) held t v d ps) :
    ∃ a0 a1 : Int, v = .agg #[.int k a0, .int k a1] ∧ (Lit.int k a0).wf = true ∧ (Lit.int k a1).wf = true := by
  obtain ⟨fuel, hf⟩ := h
  obtain ⟨xs, m, _, hx, hl, hn, hel⟩ := DataW.trod_array hu hf
  rw [hct] at hl
  obtain ⟨x, y, rfl, hxy⟩ := cells_two hl
  obtain ⟨x0, x1, rfl⟩ := two_of_len hn
  have e0 := hel 0 (by omega)
  have e1 := hel 1 (by omega)
  rw [hxy, hce] at e0 e1
  obtain ⟨a0, h0, _, w0⟩ := DataW.trod_int he e0
  obtain ⟨a1, h1, _, w1⟩ := DataW.trod_int he e1
  obtain rfl : x = .int k a0 := by simpa using h0
  obtain rfl : y = .int k a1 := by simpa using h1
  exact ⟨a0, a1, rfl, w0, w1⟩
end
end Go.Proofs.Ytmknclgamadphaa.MPolymodFrobenius
