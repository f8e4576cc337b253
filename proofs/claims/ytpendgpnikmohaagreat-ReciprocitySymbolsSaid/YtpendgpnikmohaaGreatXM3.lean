/- A run at literal arguments in a literal memory, carried over to any memory that reads the same. -/
import Derived.Test.YtpendgpnikmohaaGreatXM2
namespace Go.AM
set_option linter.unusedVariables false
variable {P : Program}
theorem HB.unren {ρ ρ1 : Ren} {π : Pos → Pos} {p : Pos → Bool} (h : ∀ id, p id = true → ρ1 id = ρ (π id)) {L : Loc} {cs : List V} {w : World} (hb : HB ρ L (renL π cs) w) (hp : okL p cs = true) : HB ρ1 L cs w := by
  obtain ⟨c, e, fr, h1, h2, h3, h4, h5⟩ := hb
  refine ⟨c, e, fr, h1, h2, h3, by rwa [renL_len] at h4, fun i v hv => ?_⟩
  obtain ⟨u, a, b, d⟩ := h5 i (renV π v) (by rw [renL_get, hv]; rfl)
  exact ⟨u, a, b.unren h (okL_get hp hv), by rwa [renV_one] at d⟩
theorem HB.ren {ρ ρ1 : Ren} {π : Pos → Pos} {p : Pos → Bool} (h : ∀ id, p id = true → ρ (π id) = ρ1 id) {L : Loc} {cs : List V} {w : World} (hb : HB ρ1 L cs w) (hp : okL p cs = true) : HB ρ L (renL π cs) w := by
  obtain ⟨c, e, fr, h1, h2, h3, h4, h5⟩ := hb
  refine ⟨c, e, fr, h1, h2, h3, by rwa [renL_len], fun i v hv => ?_⟩
  rw [renL_get] at hv
  cases hq : cs[i]? with
  | none => rw [hq] at hv; cases hv
  | some v0 =>
    rw [hq] at hv; cases hv
    obtain ⟨u, a, b, d⟩ := h5 i v0 hq
    exact ⟨u, a, b.ren h (okL_get hp hq), by rwa [renV_one]⟩
theorem transplant {f : FuncId} {vs1 : List V} {S1 S2 : St} {v1 : V} (hc : CallOK P f vs1 S1 v1 S2) (ok1 : SOK S1) (hfl : S1.fl = S1.cnt)
    {S : St} (ok : SOK S) {π : Pos → Pos} {p : Pos → Bool} (hvs : okL p vs1 = true) (hpl : ∀ id, p id = true → id.num < S1.cnt)
    (hblk : ∀ id, p id = true → ∃ b b', S1.h.get id = some b ∧ S.h.get (π id) = some b' ∧ b'.born ≠ 0 ∧ b'.cs = renL π b.cs ∧ okL p b.cs = true)
    (hnone : ∀ id b, S1.h.get id = some b → p id = true)
    (hinj : ∀ id id', p id = true → p id' = true → π id = π id' → id = id')
    {outs : List (Pos × List V)} (hnd : ∀ (i j : Nat) (x y : Pos × List V), outs[i]? = some x → outs[j]? = some y → x.1 = y.1 → i = j)
    (hout : ∀ x ∈ outs, S1.cnt ≤ x.1.num ∧ ∃ b, S2.h.get x.1 = some b ∧ b.cs = x.2 ∧ b.born ≠ 0)
    {π2 : Pos → Pos} {p2 : Pos → Bool} (hp2 : ∀ id, p2 id = true → p id = true ∧ π2 id = π id ∨ ∃ j x, outs[j]? = some x ∧ x.1 = id ∧ (π2 id).num = S.cnt + j)
    (hv1 : okV p2 v1 = true) (hcs : ∀ x ∈ outs, okL p2 x.2 = true) :
    CallOK P f (renL π vs1) S (renV π2 v1) (layS (outs.map fun x => renL π2 x.2) S) := by
  obtain ⟨o1, o2, o3, o4, o5⟩ := layS_ok (outs.map fun x => renL π2 x.2) S ok
  rw [List.length_map] at o2
  refine ⟨⟨by omega, o3, fun _ => o1, fun id hid => o4 id (Nat.lt_of_lt_of_le hid ok.le)⟩, fun ρ w args hargs hh hfr => ?_⟩
  let ρ1 : Ren := fun id => if p id = true then ρ (π id) else none
  have e1 : ∀ id, p id = true → ρ1 id = ρ (π id) := fun id h => if_pos h
  have e0 : ∀ id L, ρ1 id = some L → p id = true ∧ ρ (π id) = some L := fun id L h => by
    by_cases hp : p id = true
    · exact ⟨hp, (e1 id hp).symm.trans h⟩
    · rw [show ρ1 id = none from if_neg hp] at h; cases h
  have hh1 : HRel ρ1 S1 w := by
    refine ⟨fun id L h => hh.at_ _ L (e0 id L h).2, fun id L b h hb h0 => ?_, fun id id' L L' b b' h h' hb hb' h0 h0' he => ?_⟩
    · obtain ⟨hp, hL⟩ := e0 id L h
      obtain ⟨b1, b2, c1, c2, c3, c4, c5⟩ := hblk id hp
      rw [hb] at c1; cases c1
      have := hh.cells _ L b2 hL c2 c3
      rw [c4] at this
      exact this.unren e1 c5
    · obtain ⟨hp, hL⟩ := e0 id L h
      obtain ⟨hp', hL'⟩ := e0 id' L' h'
      obtain ⟨b1, b2, c1, c2, c3, c4, c5⟩ := hblk id hp
      obtain ⟨b1', b2', c1', c2', c3', c4', c5'⟩ := hblk id' hp'
      exact hinj id id' hp hp' (hh.inj _ _ L L' b2 b2' hL hL' c2 c2' c3 c3' he)
  have hf1 : Fresh ρ1 S1.cnt S2.cnt := fun id h1 h2 => by
    cases h : ρ1 id with
    | none => rfl
    | some L => have := hpl id (e0 id L h).1; omega
  refine (hc.2 ρ1 w args (hargs.unren e1 hvs) hh1 hf1).mono fun u w' ⟨ρ1', post, vr⟩ => ?_
  have hold : ∀ k, k < w.heap.size → w'.heap[k]? = w.heap[k]? := fun k hk => post.frame k hk fun id L h1 h2 h3 => by omega
  have hm1 := post.mono hf1
  let ρ2 : Ren := fun q => if S.cnt ≤ q.num then (match outs[q.num - S.cnt]? with | some x => ρ1' x.1 | none => ρ q) else ρ q
  have r_old : ∀ q : Pos, q.num < S.cnt → ρ2 q = ρ q := fun q hq => if_neg (by omega)
  have r_new : ∀ (q : Pos) (j : Nat) x, q.num = S.cnt + j → outs[j]? = some x → ρ2 q = ρ1' x.1 := fun q j x hq hx => by
    show (if S.cnt ≤ q.num then _ else _) = _
    rw [if_pos (by omega), show q.num - S.cnt = j by omega, hx]
  have r_far : ∀ q : Pos, S.cnt + outs.length ≤ q.num → ρ2 q = ρ q := fun q hq => by
    show (if S.cnt ≤ q.num then _ else _) = _
    rw [if_pos (by omega), List.getElem?_eq_none (by omega)]
  have r_mono : ∀ q L, ρ q = some L → ρ2 q = some L := fun q L h => by
    rcases Nat.lt_or_ge q.num S.cnt with h1 | h1
    · rw [r_old q h1]; exact h
    · rcases Nat.lt_or_ge q.num (S.cnt + outs.length) with h2 | h2
      · rw [hfr q h1 (by omega)] at h; cases h
      · rw [r_far q h2]; exact h
  have e2 : ∀ id, p2 id = true → ρ2 (π2 id) = ρ1' id := fun id h => by
    rcases hp2 id h with ⟨hp, he⟩ | ⟨j, x, hx, rfl, hn⟩
    · obtain ⟨b1, b2, c1, c2, _⟩ := hblk id hp
      rw [he, r_old _ (ok.blk _ _ c2).1, ← e1 id hp, post.ext id (.inl (hpl id hp))]
    · exact r_new _ j x hn hx
  have new_b : ∀ x ∈ outs, ∀ L, ρ1' x.1 = some L → w.heap.size ≤ L.b := fun x hx L hL => by
    obtain ⟨h1, b, h2, _, _⟩ := hout x hx
    have hok2 := hc.1.ok ok1
    rcases post.new x.1 L h1 (hok2.blk _ _ h2).1 hL with h | ⟨id0, L0, _, h3, h4, _⟩
    · exact h
    · omega
  have cls : ∀ (q : Pos) b, (layS (outs.map fun x => renL π2 x.2) S).h.get q = some b → q.num < S.cnt ∧ S.h.get q = some b ∨ ∃ j x, outs[j]? = some x ∧ q.num = S.cnt + j ∧ b.cs = renL π2 x.2 := fun q b hb => by
    rcases Nat.lt_or_ge q.num S.cnt with h1 | h1
    · rw [o4 q h1] at hb; exact .inl ⟨h1, hb⟩
    · have h2 := (o1.blk q b hb).1
      obtain ⟨x, hx⟩ : ∃ x, outs[q.num - S.cnt]? = some x := ⟨_, List.getElem?_eq_getElem (by omega)⟩
      rw [o5 (q.num - S.cnt) (renL π2 x.2) (by rw [List.getElem?_map, hx]; rfl) q (by omega)] at hb
      cases hb
      exact .inr ⟨_, x, hx, by omega, rfl⟩
  refine ⟨ρ2, ⟨fun q hq => ?_, ⟨fun q L hL => ?_, fun q L b hL hb h0 => ?_, fun q q' L L' b b' hL hL' hb hb' h0 h0' he => ?_⟩, post.os, post.tape, post.output, post.size, fun k hk _ => hold k hk, fun q L h1 h2 hL => ?_⟩, vr.ren e2 hv1⟩
  · rcases hq with h | h
    · exact r_old q h
    · exact r_far q (by omega)
  · rcases Nat.lt_or_ge q.num S.cnt with h1 | h1
    · rw [r_old q h1] at hL; exact Nat.lt_of_lt_of_le (hh.at_ q L hL) post.size
    · rcases Nat.lt_or_ge q.num (S.cnt + outs.length) with h2 | h2
      · rw [r_new q (q.num - S.cnt) _ (by omega) (List.getElem?_eq_getElem (by omega))] at hL
        exact post.heap.at_ _ L hL
      · rw [r_far q h2] at hL; exact Nat.lt_of_lt_of_le (hh.at_ q L hL) post.size
  · rcases cls q b hb with ⟨h1, h2⟩ | ⟨j, x, hx, hq, hbc⟩
    · rw [r_old q h1] at hL
      obtain ⟨c, e, fr, a1, a2, a3, a4, a5⟩ := hh.cells q L b hL h2 h0
      refine ⟨c, e, fr, (hold _ (hh.at_ q L hL)).trans a1, a2, a3, a4, fun i v hv => ?_⟩
      obtain ⟨u', b1, b2, b3⟩ := a5 i v hv
      exact ⟨u', b1, b2.mono r_mono, b3⟩
    · rw [r_new q j x hq hx] at hL
      have hm := List.mem_of_getElem? hx
      obtain ⟨_, b2, h2, h3, h4⟩ := hout x hm
      have := post.heap.cells x.1 L b2 hL h2 h4
      rw [h3] at this
      rw [hbc]; exact this.ren e2 (hcs x hm)
  · rcases cls q b hb with ⟨h1, h2⟩ | ⟨j, x, hx, hq, hbc⟩ <;> rcases cls q' b' hb' with ⟨h1', h2'⟩ | ⟨j', x', hx', hq', hbc'⟩
    · rw [r_old q h1] at hL; rw [r_old q' h1'] at hL'
      exact hh.inj q q' L L' b b' hL hL' h2 h2' h0 h0' he
    · rw [r_old q h1] at hL; rw [r_new q' j' x' hq' hx'] at hL'
      have := hh.at_ q L hL; have := new_b x' (List.mem_of_getElem? hx') L' hL'; omega
    · rw [r_new q j x hq hx] at hL; rw [r_old q' h1'] at hL'
      have := hh.at_ q' L' hL'; have := new_b x (List.mem_of_getElem? hx) L hL; omega
    · rw [r_new q j x hq hx] at hL; rw [r_new q' j' x' hq' hx'] at hL'
      obtain ⟨_, b2, c2, c3, c4⟩ := hout x (List.mem_of_getElem? hx)
      obtain ⟨_, b2', c2', c3', c4'⟩ := hout x' (List.mem_of_getElem? hx')
      have h := post.heap.inj x.1 x'.1 L L' b2 b2' hL hL' c2 c2' c4 c4' he
      have := hnd j j' x x' hx hx' h
      exact Pos.num_inj _ _ (by omega)
  · have hlt : q.num < S.cnt + outs.length := by omega
    obtain ⟨x, hx⟩ : ∃ x, outs[q.num - S.cnt]? = some x := ⟨_, List.getElem?_eq_getElem (by omega)⟩
    rw [r_new q _ x (by omega) hx] at hL
    exact .inl (new_b x (List.mem_of_getElem? hx) L hL)
end Go.AM
