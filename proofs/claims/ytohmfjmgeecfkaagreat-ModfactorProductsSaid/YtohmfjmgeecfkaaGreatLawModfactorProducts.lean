/- For all arguments of the kinds that the law takes it returns true; nothing is asked of them. -/
import Derived.Test.YtohmfjmgeecfkaaGreatRows
import Derived.Test.YtohmfjmgeecfkaaGreatVLX
import Derived.WalkKit
import Derived.ProofKit
import Derived.OpenShut
import Derived.ShutString
import Derived.ChangeOld
import Derived.Below
import Derived.SizedLaws
import Derived.Deep.Slices
namespace Go.Proofs.YtohmfjmgeecfkaaGreat.modfactorProducts
open Go.ChangeShapes Go.WideShapes Go.ChangeAt Go.RowKit
open Go.ChangeMaps (open_string shut_string)
set_option linter.unusedVariables false
theorem own : ownKnob Tryz.prog.godebug = none := by kernel_rfl
theorem laidOut : laidOutB Tryz.prog = true := by kernel_rfl
theorem c3 : Tryz.prog.cellsOf 3 = 1 := by kernel_rfl
theorem c39 : Tryz.prog.cellsOf 39 = 1 := by kernel_rfl
theorem c43 : Tryz.prog.cellsOf 43 = 1 := by kernel_rfl
theorem c45 : Tryz.prog.cellsOf 45 = 2 := by kernel_rfl
theorem c50 : Tryz.prog.cellsOf 50 = 2 := by kernel_rfl
theorem ml : maxLen = 9223372036854775807 := by decide
theorem two_list {α : Type} {l : List α} (h : l.length = 2) : ∃ a b, l = [a, b] := by
  match l, h with
  | [a, b], _ => exact ⟨a, b, rfl⟩
theorem two_array {α : Type} {l : Array α} (h : l.size = 2) : ∃ a b, l = #[a, b] := by
  obtain ⟨a, b, e⟩ := two_list (l := l.toList) (by simpa using h)
  exact ⟨a, b, by cases l; simp_all⟩
/-- a row, as it lies in the heap -/
theorem row_of {H : Type} {enc : TypeId × Value → H} {W : World} {n : Nat} {x : Addr} {cs : List Value} {y : DataW H × List MemPlace} (hc : W.cells? 0 x 2 = some cs) (h : DataW.trod enc Tryz.prog W 0 (fun _ => true) true n 50 cs = some y) :
    ∃ r : Go.AM.RD, W.cell? x = some (.slice r.a r.len r.cap) ∧ W.cell? (x.add 1) = some (.int .i64 r.z) ∧ (Lit.int .i64 r.z).wf = true ∧ Go.AM.IsInts W r.a r.len r.cap r.zs := by
  obtain ⟨_, hlen, hat⟩ := World.cells?_some hc
  obtain ⟨y0, y1, m, _, _, h0, h1⟩ := trod_struct2 Tryz.underlying50 h
  obtain ⟨v0, v1, rfl⟩ := two_list hlen
  have e0 : W.cell? (x.add 0) = some v0 := hat 0 (by omega)
  have e1 : W.cell? (x.add 1) = some v1 := hat 1 (by omega)
  rw [Go.AM.add_zero] at e0
  have h0 : DataW.trod enc Tryz.prog W 0 (fun _ => true) true m 39 (List.take (Tryz.prog.cellsOf 39) (List.drop 0 [v0, v1])) = some y0 := h0
  have h1 : DataW.trod enc Tryz.prog W 0 (fun _ => true) true m 3 (List.take (Tryz.prog.cellsOf 3) (List.drop 1 [v0, v1])) = some y1 := h1
  rw [c39] at h0
  rw [c3] at h1
  have h0 : DataW.trod enc Tryz.prog W 0 (fun _ => true) true m 39 [v0] = some y0 := h0
  have h1 : DataW.trod enc Tryz.prog W 0 (fun _ => true) true m 3 [v1] = some y1 := h1
  obtain ⟨z, f1, _, wz⟩ := DataW.trod_int Tryz.underlying3 h1
  cases f1
  rcases open_ints Tryz.underlying39 Tryz.underlying3 c3 h0 with ⟨hcs, _⟩ | ⟨y, l, c, zs, hcs, _, hl, hm, hz, _, hcell, hwz⟩
  · cases hcs
    exact ⟨⟨none, 0, 0, [], z⟩, e0, e1, wz, .inl ⟨rfl, rfl, rfl, rfl⟩⟩
  · cases hcs
    exact ⟨⟨some y, l, c, zs, z⟩, e0, e1, wz, .inr ⟨y, rfl, hl, by rw [← ml]; exact hm, by simpa using hz, hcell, hwz⟩⟩
theorem rows_of {H : Type} {enc : TypeId × Value → H} {W : World} {n : Nat} {v : Value} {y : DataW H × List MemPlace} (h : DataW.trod enc Tryz.prog W 0 (fun _ => true) true n 43 [v] = some y) :
    ∃ a len cap f, v = .slice a len cap ∧ Go.AM.IsRows W a len cap f := by
  rcases Go.Deep.open_slice Tryz.underlying43 h with ⟨e, _⟩ | ⟨x, len, cap, m, n', D, Pl, e, _, hlc, hcm, hm, _, hel⟩
  · cases e
    exact ⟨none, 0, 0, fun _ => ⟨none, 0, 0, [], 0⟩, rfl, .inl ⟨rfl, rfl, rfl⟩⟩
  · cases e
    have hm : m = cap := hm
    subst hm
    have key : ∀ i, ∃ r : Go.AM.RD, i < m → W.cell? (x.add (i * 2)) = some (.slice r.a r.len r.cap) ∧ W.cell? (x.add (i * 2 + 1)) = some (.int .i64 r.z) ∧ (Lit.int .i64 r.z).wf = true ∧ Go.AM.IsInts W r.a r.len r.cap r.zs := fun i => by
      by_cases hi : i < m
      · obtain ⟨cs, h1, h2⟩ := hel i hi
        rw [c50] at h1
        obtain ⟨r, g1, g2, g3, g4⟩ := row_of h1 h2
        rw [Go.Deep.add_add] at g2
        exact ⟨r, fun _ => ⟨g1, g2, g3, g4⟩⟩
      · exact ⟨⟨none, 0, 0, [], 0⟩, fun h => absurd h hi⟩
    obtain ⟨f, hf⟩ := Classical.skolem.1 key
    exact ⟨some x, len, m, f, rfl, .inr ⟨x, rfl, hlc, by rw [← ml]; exact hcm, hf⟩⟩
set_option maxRecDepth 100000 in
theorem lifted (os : Os) (started : os.Started) (H : Type) (enc : TypeId × Value → H) :
    ReturnsInHanded {} Tryz.checked os 6 .any (Rows.modfactorProductsSpec.pre6 enc Tryz.prog Tryz.f6 Rows.modfactorProductsRow.domain false) (Rows.modfactorProductsSpec.post enc Tryz.prog Tryz.f6 false true false false) := by
  refine returnsInHanded_of_change_sized (C := Tryz.checked) own started (by kernel_rfl) Tryz.func6
    (ChangeSpec.witness6 (enc := enc) (C := Tryz.checked) false ⟨#[], #[.int .i64 0, .agg #[.int .i64 0, .slice none 0 0]], []⟩ 8 (by kernel_rfl) (by kernel_rfl) (by kernel_rfl) (by kernel_rfl)) ?_
  intro W base args ds gs before hval0 hW hcnd hsz0 _
  have hval : ∀ (j : Nat) t v, Tryz.f6.params[j]? = some t → args[j]? = some v → Value.okWide Tryz.prog W .any base t v := hval0
  have hW' := hW
  obtain ⟨p, q, hA0, hV, rfl, hfz, hnd⟩ := hW
  have hA : DataW.TrodAll enc Tryz.prog W 0 (fun _ => true) true Tryz.f6.params.toList args.toList ds p := hA0
  rw [Tryz.params6] at hA hval
  obtain ⟨v0, vs0, d0, ds0, p0, q0, hargs, rfl, rfl, h0, r0⟩ := trodAll_cons hA
  obtain ⟨v1, vs1, d1, ds1, p1, q1, rfl, rfl, rfl, h1, r1⟩ := trodAll_cons r0
  obtain ⟨rfl, rfl, rfl⟩ := trodAll_nil r1
  obtain rfl : args = #[v0, v1] := by cases args; simp_all
  obtain ⟨rfl, rfl⟩ := trodVars_none hV
  obtain ⟨a0, rfl, rfl, rfl, w0⟩ := open_int Tryz.underlying3 (hval 0 3 v0 rfl rfl) h0
  obtain ⟨cs, rfl, hcs⟩ := okWide_struct Tryz.underlying45 (hval 1 45 v1 rfl rfl)
  have k1 := h1
  have lt1 : ∀ x ∈ p1, x.block < W.heap.size := by obtain ⟨m, hm⟩ := k1; exact DataW.trod_lt m _ _ _ hm
  obtain ⟨a1, a, len, cap, f, e1, w1, hR⟩ : ∃ a1 a len cap f, cs = #[.int .i64 a1, .slice a len cap] ∧ (Lit.int .i64 a1).wf = true ∧ Go.AM.IsRows W a len cap f := by
    obtain ⟨fuel, hf⟩ := h1
    obtain ⟨y0, y1, n, _, _, g0, g1⟩ := trod_struct2 Tryz.underlying45 hf
    rw [c45] at hcs
    obtain ⟨c0, c1, rfl⟩ := two_array hcs
    have g0 : DataW.trod enc Tryz.prog W 0 (fun _ => true) true n 3 (List.take (Tryz.prog.cellsOf 3) (List.drop 0 [c0, c1])) = some y0 := g0
    have g1 : DataW.trod enc Tryz.prog W 0 (fun _ => true) true n 43 (List.take (Tryz.prog.cellsOf 43) (List.drop 1 [c0, c1])) = some y1 := g1
    rw [c3] at g0
    rw [c43] at g1
    have g0 : DataW.trod enc Tryz.prog W 0 (fun _ => true) true n 3 [c0] = some y0 := g0
    obtain ⟨z, f0, _, wz⟩ := DataW.trod_int Tryz.underlying3 g0
    cases f0
    obtain ⟨a, len, cap, f, rfl, hR⟩ := rows_of (show DataW.trod enc Tryz.prog W 0 (fun _ => true) true n 43 [c1] = some y1 from g1)
    exact ⟨z, a, len, cap, f, rfl, wz, hR⟩
  subst e1
  clear hA0 hval0 hsz0
  refine (Go.AM.walkModfactorProducts a0 a1 a len cap f W w0 w1 hR).mono fun e W' ⟨he, bel⟩ => ?_
  subst he
  exact ⟨_, rfl, _, _, _, [], _, [], hW', trodAll_mk1 (shut_bool Tryz.underlying4 _), (trodAll_cons_mk (shut_int Tryz.underlying3 w0) (trodAll_cons_mk (Below.trod laidOut (by kernel_rfl) (of_decide_eq_true (by kernel_rfl)) k1 bel lt1) trodAll_mk0)), rfl, bel.frame _, fun h => by cases h⟩
theorem over : Rows.modfactorProductsRow.holds Tryz.pinned (OpenSpec.ofChange Rows.modfactorProductsSpec) :=
  OpenClaim.holds_of_wide 6 Tryz.f6 rfl rfl rfl rfl rfl rfl rfl ⟨rfl, rfl, rfl, rfl, rfl⟩ rfl rfl rfl rfl rfl (by kernel_rfl) Tryz.func6 (by kernel_rfl)
    (of_decide_eq_true (by kernel_rfl)) (by unfold Func.isWrapper; first | (rw [if_pos (by decide +kernel)]; kernel_rfl) | (rw [if_neg (by decide +kernel)]; exact ⟨rfl, rfl⟩))
    (fun os started H enc _ => lifted os started H enc)
theorem proved : Rows.ModfactorProductsSaid := over
#print axioms proved
end Go.Proofs.YtohmfjmgeecfkaaGreat.modfactorProducts
namespace Go.Proofs.YtohmfjmgeecfkaaGreat
/-- The row, under a short name, for the claim. -/
theorem modfactorProducts_holds : Rows.ModfactorProductsSaid := modfactorProducts.proved
end Go.Proofs.YtohmfjmgeecfkaaGreat
