/- Renaming the places in a value. -/
import Derived.Test.YtohmfjmgeecfkaaGreatVLD
namespace Go.AM
set_option linter.unusedVariables false
set_option linter.unusedSimpArgs false
mutual
def renV (π : Pos → Pos) : V → V
  | .p id off => .p (π id) off
  | .sl id a b c => .sl (π id) a b c
  | .so id a b c d => .so (π id) a b c d
  | .m id => .m (π id)
  | .mn => .mn
  | .ag l => .ag (renL π l)
  | .tu l => .tu (renL π l)
  | .f id cs => .f id (renL π cs)
  | .u => .u
  | .b x => .b x
  | .i k n => .i k n
  | .s l => .s l
  | .pn => .pn
  | .sn => .sn
  | .fn0 => .fn0
  | .other => .other
def renL (π : Pos → Pos) : List V → List V
  | [] => []
  | v :: l => renV π v :: renL π l
end
mutual
def okV (p : Pos → Bool) : V → Bool
  | .p id off => p id
  | .sl id a b c => p id
  | .so id a b c d => p id
  | .m id => p id
  | .mn => true
  | .ag l => okL p l
  | .tu l => okL p l
  | .f id cs => okL p cs
  | _ => true
def okL (p : Pos → Bool) : List V → Bool
  | [] => true
  | v :: l => okV p v && okL p l
end
theorem renV_one (π : Pos → Pos) (v : V) : (renV π v).one = v.one := by cases v <;> rfl
theorem renL_one (π : Pos → Pos) : ∀ (l : List V), (∀ v ∈ l, v.one = true) → ∀ v ∈ renL π l, v.one = true
  | [], h, v, hv => by simp [renL] at hv
  | w :: l, h, v, hv => by
    simp only [renL, List.mem_cons] at hv
    rcases hv with rfl | hv
    · rw [renV_one]; exact h w (by simp)
    · exact renL_one π l (fun v hv => h v (by simp [hv])) v hv
theorem renL_len (π : Pos → Pos) : ∀ l : List V, (renL π l).length = l.length
  | [] => rfl
  | v :: l => by simp [renL, renL_len π l]
theorem renL_get (π : Pos → Pos) : ∀ (l : List V) (i : Nat), (renL π l)[i]? = (l[i]?).map (renV π)
  | [], i => by simp [renL]
  | v :: l, 0 => by simp [renL]
  | v :: l, i + 1 => by simp only [renL, List.getElem?_cons_succ]; exact renL_get π l i
theorem okL_get {p : Pos → Bool} : ∀ {l : List V}, okL p l = true → ∀ {i : Nat} {v : V}, l[i]? = some v → okV p v = true
  | [], h, i, v, hv => by simp at hv
  | w :: l, h, 0, v, hv => by simp at hv; subst hv; simp only [okL, Bool.and_eq_true] at h; exact h.1
  | w :: l, h, i + 1, v, hv => by simp only [okL, Bool.and_eq_true] at h; exact okL_get h.2 (by simpa using hv)
section
variable {ρ ρ' : Ren} {π : Pos → Pos} {p : Pos → Bool}
mutual
theorem VR.ren (h : ∀ id, p id = true → ρ' (π id) = ρ id) : ∀ {v : V} {u : Value}, VR ρ v u → okV p v = true → VR ρ' (renV π v) u
  | _, _, .other u, _ => .other u
  | _, _, .u, _ => .u
  | _, _, .b x, _ => .b x
  | _, _, .i k n z a b, _ => .i k n z a b
  | _, _, .s l t a, _ => .s l t a
  | _, _, .p id off o L a x b, k => .p _ off o L ((h _ k).trans a) x b
  | _, _, .m id L a b, k => .m _ L ((h _ k).trans a) b
  | _, _, .mn, _ => .mn
  | _, _, .pn, _ => .pn
  | _, _, .sl id off len cap o L a x b c, k => .sl _ off len cap o L ((h _ k).trans a) x b c
  | _, _, .so id off len cap sz o c L a x b d e f, k => .so _ off len cap sz o c L ((h _ k).trans a) x b d e f
  | _, _, .sn, _ => .sn
  | _, _, .ag l cs b a, k => .ag _ cs (renL_one π l b) (VRs.ren h a k)
  | _, _, .tu l cs a, k => .tu _ cs (VRs.ren h a k)
  | _, _, .f id cs us a, k => .f id _ us (VRs.ren h a k)
  | _, _, .fn0, _ => .fn0
theorem VRs.ren (h : ∀ id, p id = true → ρ' (π id) = ρ id) : ∀ {l : List V} {m : List Value}, VRs ρ l m → okL p l = true → VRs ρ' (renL π l) m
  | _, _, .nil, _ => .nil
  | _, _, .cons v u l m a b, k => by
    simp only [okL, Bool.and_eq_true] at k
    exact .cons _ u _ m (VR.ren h a k.1) (VRs.ren h b k.2)
end
mutual
theorem VR.unren (h : ∀ id, p id = true → ρ id = ρ' (π id)) : ∀ {v : V} {u : Value}, VR ρ' (renV π v) u → okV p v = true → VR ρ v u
  | .other, _, a, _ => .other _
  | .u, _, .u, _ => .u
  | .b x, _, .b _, _ => .b x
  | .i k n, _, .i _ _ z a b, _ => .i k n z a b
  | .s l, _, .s _ t a, _ => .s l t a
  | .p id off, _, .p _ _ o L a x b, k => .p id off o L ((h _ k).trans a) x b
  | .m id, _, .m _ L a b, k => .m id L ((h _ k).trans a) b
  | .mn, _, .mn, _ => .mn
  | .pn, _, .pn, _ => .pn
  | .sl id off len cap, _, .sl _ _ _ _ o L a x b c, k => .sl id off len cap o L ((h _ k).trans a) x b c
  | .so id off len cap sz, _, .so _ _ _ _ _ o c L a x b d e f, k => .so id off len cap sz o c L ((h _ k).trans a) x b d e f
  | .sn, _, .sn, _ => .sn
  | .ag l, _, .ag _ cs b a, k => .ag l cs (fun v hv => by
      obtain ⟨i, hi⟩ := List.getElem?_of_mem hv
      have : renV π v ∈ renL π l := List.mem_of_getElem? (i := i) (by rw [renL_get, hi]; rfl)
      rw [← renV_one π]; exact b _ this) (VRs.unren h a k)
  | .tu l, _, .tu _ cs a, k => .tu l cs (VRs.unren h a k)
  | .f id cs, _, .f _ _ us a, k => .f id cs us (VRs.unren h a k)
  | .fn0, _, .fn0, _ => .fn0
theorem VRs.unren (h : ∀ id, p id = true → ρ id = ρ' (π id)) : ∀ {l : List V} {m : List Value}, VRs ρ' (renL π l) m → okL p l = true → VRs ρ l m
  | [], _, .nil, _ => .nil
  | v :: l, _, .cons _ u _ m a b, k => by
    simp only [okL, Bool.and_eq_true] at k
    exact .cons v u l m (VR.unren h a k.1) (VRs.unren h b k.2)
end
end
end Go.AM

/- Blocks laid one after the other. -/
namespace Go.AM
set_option linter.unusedVariables false
def layS : List (List V) → St → St
  | [], S => S
  | cs :: r, S => layS r (S.new cs)
theorem layS_ok : ∀ (l : List (List V)) (S : St), SOK S → SOK (layS l S) ∧ (layS l S).cnt = S.cnt + l.length ∧ (layS l S).fl = S.fl ∧ (∀ q : Pos, q.num < S.cnt → (layS l S).h.get q = S.h.get q) ∧
    (∀ (j : Nat) (cs : List V), l[j]? = some cs → ∀ q : Pos, q.num = S.cnt + j → (layS l S).h.get q = some ⟨S.cnt + j, cs⟩)
  | [], S, ok => ⟨ok, rfl, rfl, fun _ _ => rfl, fun j cs h => by simp at h⟩
  | c :: r, S, ok => by
    obtain ⟨h1, h2, h3, h4, h5⟩ := layS_ok r (S.new c) (ok.new c)
    have hc : (S.new c).cnt = S.cnt + 1 := rfl
    refine ⟨h1, by simp only [layS, h2, hc, List.length_cons]; omega, h3, fun q hq => ?_, fun j cs hj q hq => ?_⟩
    · show (layS r (S.new c)).h.get q = _
      rw [h4 q (by omega), St.new_get_ne c fun e => by rw [e, ok.nx] at hq; omega]
    · show (layS r (S.new c)).h.get q = _
      cases j with
      | zero =>
        simp at hj; subst hj
        have : q = S.nx := Pos.num_inj _ _ (by rw [hq, ok.nx]; rfl)
        rw [h4 q (by omega), this, St.new_get]; rfl
      | succ j =>
        rw [h5 j cs (by simpa using hj) q (by omega), hc]
        congr 2; omega
end Go.AM

/- A run at literal arguments in a literal memory, carried over to any memory that reads the same. -/
namespace Go.AM
set_option linter.unusedVariables false
variable {P : Program}
theorem Ent.unren {ρ ρ1 : Ren} {π : Pos → Pos} {p : Pos → Bool} (h : ∀ id, p id = true → ρ1 id = ρ (π id)) : ∀ {cs : List V} {es : List MapEntry}, Ent ρ (renL π cs) es → okL p cs = true → Ent ρ1 cs es
  | [], _, .nil, _ => .nil
  | .tu [k, v] :: cs, _, .cons _ _ e _ es a b c, hp => by
    simp only [okL, okV, Bool.and_eq_true] at hp
    exact .cons k v e cs es (a.unren h hp.1.1) (b.unren h hp.1.2.1) (Ent.unren h c hp.2)
theorem Ent.ren {ρ ρ1 : Ren} {π : Pos → Pos} {p : Pos → Bool} (h : ∀ id, p id = true → ρ (π id) = ρ1 id) : ∀ {cs : List V} {es : List MapEntry}, Ent ρ1 cs es → okL p cs = true → Ent ρ (renL π cs) es
  | _, _, .nil, _ => .nil
  | _, _, .cons k v e cs es a b c, hp => by
    simp only [okL, okV, Bool.and_eq_true] at hp
    exact .cons _ _ e _ es (a.ren h hp.1.1) (b.ren h hp.1.2.1) (Ent.ren h c hp.2)
theorem HB.unren {ρ ρ1 : Ren} {π : Pos → Pos} {p : Pos → Bool} (h : ∀ id, p id = true → ρ1 id = ρ (π id)) {L : Loc} {cs : List V} {w : World} (hb : HB ρ L (renL π cs) w) (hp : okL p cs = true) : HB ρ1 L cs w := by
  rcases hb with ⟨c, e, fr, h1, h2, h3, h4, h5⟩ | ⟨h1, es, k, h2, h3⟩
  case inr => exact .inr ⟨h1, es, k, h2, h3.unren h hp⟩
  refine .inl ⟨c, e, fr, h1, h2, h3, by rwa [renL_len] at h4, fun i v hv => ?_⟩
  obtain ⟨u, a, b, d⟩ := h5 i (renV π v) (by rw [renL_get, hv]; rfl)
  exact ⟨u, a, b.unren h (okL_get hp hv), by rwa [renV_one] at d⟩
theorem HB.ren {ρ ρ1 : Ren} {π : Pos → Pos} {p : Pos → Bool} (h : ∀ id, p id = true → ρ (π id) = ρ1 id) {L : Loc} {cs : List V} {w : World} (hb : HB ρ1 L cs w) (hp : okL p cs = true) : HB ρ L (renL π cs) w := by
  rcases hb with ⟨c, e, fr, h1, h2, h3, h4, h5⟩ | ⟨h1, es, k, h2, h3⟩
  case inr => exact .inr ⟨h1, es, k, h2, h3.ren h hp⟩
  refine .inl ⟨c, e, fr, h1, h2, h3, by rwa [renL_len], fun i v hv => ?_⟩
  rw [renL_get] at hv
  cases hq : cs[i]? with
  | none => rw [hq] at hv; cases hv
  | some v0 =>
    rw [hq] at hv; cases hv
    obtain ⟨u, a, b, d⟩ := h5 i v0 hq
    exact ⟨u, a, b.ren h (okL_get hp hq), by rwa [renV_one]⟩
theorem transplant {f : FuncId} {vs1 : List V} {S1 S2 : St} {v1 : V} (hc : CallOK P f vs1 S1 v1 S2) (ok1 : SOK S1) (hfl : S1.fl = S1.cnt)
    {S : St} (ok : SOK S) {π : Pos → Pos} {p : Pos → Bool} (hvs : okL p vs1 = true) (hpl : ∀ id, p id = true → id.num < S1.cnt)
    (hblk : ∀ id, p id = true → ∃ b b', S1.h.get id = some b ∧ S.h.get (π id) = some b' ∧ b'.born ≠ 0 ∧ b'.cs = renL π b.cs ∧ okL p b.cs = true)
    (hnone : ∀ id b, S1.h.get id = some b → p id = true)
    (hinj : ∀ id id', p id = true → p id' = true → π id = π id' → id = id')
    {outs : List (Pos × List V)} (hnd : ∀ (i j : Nat) (x y : Pos × List V), outs[i]? = some x → outs[j]? = some y → x.1 = y.1 → i = j)
    (hout : ∀ x ∈ outs, S1.cnt ≤ x.1.num ∧ ∃ b, S2.h.get x.1 = some b ∧ b.cs = x.2 ∧ b.born ≠ 0)
    {π2 : Pos → Pos} {p2 : Pos → Bool} (hp2 : ∀ id, p2 id = true → p id = true ∧ π2 id = π id ∨ ∃ j x, outs[j]? = some x ∧ x.1 = id ∧ (π2 id).num = S.cnt + j)
    (hv1 : okV p2 v1 = true) (hcs : ∀ x ∈ outs, okL p2 x.2 = true) :
    CallOK P f (renL π vs1) S (renV π2 v1) (layS (outs.map fun x => renL π2 x.2) S) := by
  obtain ⟨o1, o2, o3, o4, o5⟩ := layS_ok (outs.map fun x => renL π2 x.2) S ok
  rw [List.length_map] at o2
  refine ⟨⟨by omega, o3, fun _ => o1, fun id hid => o4 id (Nat.lt_of_lt_of_le hid ok.le)⟩, fun ρ w args hargs hh hfr => ?_⟩
  let ρ1 : Ren := fun id => if p id = true then ρ (π id) else none
  have e1 : ∀ id, p id = true → ρ1 id = ρ (π id) := fun id h => if_pos h
  have e0 : ∀ id L, ρ1 id = some L → p id = true ∧ ρ (π id) = some L := fun id L h => by
    by_cases hp : p id = true
    · exact ⟨hp, (e1 id hp).symm.trans h⟩
    · rw [show ρ1 id = none from if_neg hp] at h; cases h
  have hh1 : HRel ρ1 S1 w := by
    refine ⟨fun id L b h hb h0 => ?_, fun id id' L L' b b' h h' hb hb' h0 h0' he hq => ?_, fun id L h _ => by rw [hfl]; exact hpl id (e0 id L h).1⟩
    · obtain ⟨hp, hL⟩ := e0 id L h
      obtain ⟨b1, b2, c1, c2, c3, c4, c5⟩ := hblk id hp
      rw [hb] at c1; cases c1
      have := hh.cells _ L b2 hL c2 c3
      rw [c4] at this
      exact this.unren e1 c5
    · obtain ⟨hp, hL⟩ := e0 id L h
      obtain ⟨hp', hL'⟩ := e0 id' L' h'
      obtain ⟨b1, b2, c1, c2, c3, c4, c5⟩ := hblk id hp
      obtain ⟨b1', b2', c1', c2', c3', c4', c5'⟩ := hblk id' hp'
      exact hinj id id' hp hp' (hh.inj _ _ L L' b2 b2' hL hL' c2 c2' c3 c3' he hq)
  have hf1 : Fresh ρ1 S1.cnt S2.cnt := fun id h1 h2 => by
    cases h : ρ1 id with
    | none => rfl
    | some L => have := hpl id (e0 id L h).1; omega
  refine (hc.2 ρ1 w args (hargs.unren e1 hvs) hh1 hf1).mono fun u w' ⟨ρ1', post, vr⟩ => ?_
  have hold : ∀ k, k < w.heap.size → w'.heap[k]? = w.heap[k]? := fun k hk => post.frame k hk fun id L h1 h2 h3 => by omega
  have hm1 := post.mono hf1
  let ρ2 : Ren := fun q => if S.cnt ≤ q.num then (match outs[q.num - S.cnt]? with | some x => ρ1' x.1 | none => ρ q) else ρ q
  have r_old : ∀ q : Pos, q.num < S.cnt → ρ2 q = ρ q := fun q hq => if_neg (by omega)
  have r_new : ∀ (q : Pos) (j : Nat) x, q.num = S.cnt + j → outs[j]? = some x → ρ2 q = ρ1' x.1 := fun q j x hq hx => by
    show (if S.cnt ≤ q.num then _ else _) = _
    rw [if_pos (by omega), show q.num - S.cnt = j by omega, hx]
  have r_far : ∀ q : Pos, S.cnt + outs.length ≤ q.num → ρ2 q = ρ q := fun q hq => by
    show (if S.cnt ≤ q.num then _ else _) = _
    rw [if_pos (by omega), List.getElem?_eq_none (by omega)]
  have r_mono : ∀ q L, ρ q = some L → ρ2 q = some L := fun q L h => by
    rcases Nat.lt_or_ge q.num S.cnt with h1 | h1
    · rw [r_old q h1]; exact h
    · rcases Nat.lt_or_ge q.num (S.cnt + outs.length) with h2 | h2
      · rw [hfr q h1 (by omega)] at h; cases h
      · rw [r_far q h2]; exact h
  have e2 : ∀ id, p2 id = true → ρ2 (π2 id) = ρ1' id := fun id h => by
    rcases hp2 id h with ⟨hp, he⟩ | ⟨j, x, hx, rfl, hn⟩
    · obtain ⟨b1, b2, c1, c2, _⟩ := hblk id hp
      rw [he, r_old _ (ok.blk _ _ c2).1, ← e1 id hp, post.ext id (.inl (hpl id hp))]
    · exact r_new _ j x hn hx
  have new_b : ∀ x ∈ outs, ∀ L, ρ1' x.1 = some L → w.heap.size ≤ L.b := fun x hx L hL => by
    obtain ⟨h1, b, h2, _, _⟩ := hout x hx
    have hok2 := hc.1.ok ok1
    rcases post.new x.1 L h1 (hok2.blk _ _ h2).1 hL with h | ⟨id0, L0, _, h3, h4, _⟩
    · exact h
    · omega
  have cls : ∀ (q : Pos) b, (layS (outs.map fun x => renL π2 x.2) S).h.get q = some b → q.num < S.cnt ∧ S.h.get q = some b ∨ ∃ j x, outs[j]? = some x ∧ q.num = S.cnt + j ∧ b.cs = renL π2 x.2 := fun q b hb => by
    rcases Nat.lt_or_ge q.num S.cnt with h1 | h1
    · rw [o4 q h1] at hb; exact .inl ⟨h1, hb⟩
    · have h2 := (o1.blk q b hb).1
      obtain ⟨x, hx⟩ : ∃ x, outs[q.num - S.cnt]? = some x := ⟨_, List.getElem?_eq_getElem (by omega)⟩
      rw [o5 (q.num - S.cnt) (renL π2 x.2) (by rw [List.getElem?_map, hx]; rfl) q (by omega)] at hb
      cases hb
      exact .inr ⟨_, x, hx, by omega, rfl⟩
  refine ⟨ρ2, ⟨fun q hq => ?_, ⟨fun q L b hL hb h0 => ?_, fun q q' L L' b b' hL hL' hb hb' h0 h0' he hq8 => ?_, fun q L hL hr => ?_⟩, post.os, post.tape, post.output, post.size, fun k hk _ => hold k hk, fun q L h1 h2 hL => ?_⟩, vr.ren e2 hv1⟩
  · rcases hq with h | h
    · exact r_old q h
    · exact r_far q (by omega)
  · rcases cls q b hb with ⟨h1, h2⟩ | ⟨j, x, hx, hq, hbc⟩
    · rw [r_old q h1] at hL
      exact (hh.cells q L b hL h2 h0).mono r_mono (hold _ (hh.at_ hL h2 h0))
    · rw [r_new q j x hq hx] at hL
      have hm := List.mem_of_getElem? hx
      obtain ⟨_, b2, h2, h3, h4⟩ := hout x hm
      have := post.heap.cells x.1 L b2 hL h2 h4
      rw [h3] at this
      rw [hbc]; exact this.ren e2 (hcs x hm)
  · rcases cls q b hb with ⟨h1, h2⟩ | ⟨j, x, hx, hq, hbc⟩ <;> rcases cls q' b' hb' with ⟨h1', h2'⟩ | ⟨j', x', hx', hq', hbc'⟩
    · rw [r_old q h1] at hL; rw [r_old q' h1'] at hL'
      exact hh.inj q q' L L' b b' hL hL' h2 h2' h0 h0' he hq8
    · rw [r_old q h1] at hL; rw [r_new q' j' x' hq' hx'] at hL'
      have := hh.at_ hL h2 h0; have := new_b x' (List.mem_of_getElem? hx') L' hL'; omega
    · rw [r_new q j x hq hx] at hL; rw [r_old q' h1'] at hL'
      have := hh.at_ hL' h2' h0'; have := new_b x (List.mem_of_getElem? hx) L hL; omega
    · rw [r_new q j x hq hx] at hL; rw [r_new q' j' x' hq' hx'] at hL'
      obtain ⟨_, b2, c2, c3, c4⟩ := hout x (List.mem_of_getElem? hx)
      obtain ⟨_, b2', c2', c3', c4'⟩ := hout x' (List.mem_of_getElem? hx')
      have h := post.heap.inj x.1 x'.1 L L' b2 b2' hL hL' c2 c2' c4 c4' he hq8
      have := hnd j j' x x' hx hx' h
      exact Pos.num_inj _ _ (by omega)
  · rw [o3]
    rcases Nat.lt_or_ge q.num S.cnt with h1 | h1
    · rw [r_old q h1] at hL; exact hh.ro q L hL hr
    · rcases Nat.lt_or_ge q.num (S.cnt + outs.length) with h2 | h2
      · rw [r_new q (q.num - S.cnt) _ (by omega) (List.getElem?_eq_getElem (by omega))] at hL
        have h3 := post.heap.ro _ L hL hr
        rw [hc.1.fl_] at h3
        have h4 := (hout _ (List.getElem_mem (show q.num - S.cnt < outs.length by omega))).1
        exact absurd (Nat.lt_of_lt_of_le h3 (Nat.le_of_eq hfl)) (Nat.not_lt.2 h4)
      · rw [r_far q h2] at hL; exact hh.ro q L hL hr
  · have hlt : q.num < S.cnt + outs.length := by omega
    obtain ⟨x, hx⟩ : ∃ x, outs[q.num - S.cnt]? = some x := ⟨_, List.getElem?_eq_getElem (by omega)⟩
    rw [r_new q _ x (by omega) hx] at hL
    exact .inl (new_b x (List.mem_of_getElem? hx) L hL)
end Go.AM

/- A literal run as a function's text: the look at the arguments. -/
namespace Go.AM
set_option linter.unusedVariables false
set_option linter.constructorNameAsVariable false
noncomputable section
def eqN : List Nat → List Nat → Bool
  | [], [] => true
  | a :: l, b :: m => Nat.beq a b && eqN l m
  | _, _ => false
theorem eqN_eq : ∀ {l m : List Nat}, eqN l m = true → l = m
  | [], [], _ => rfl
  | a :: l, b :: m, h => by simp only [eqN, Bool.and_eq_true] at h; rw [Nat.eq_of_beq_eq_true h.1, eqN_eq h.2]
  | [], _ :: _, h => by cases h
  | _ :: _, [], h => by cases h
def eqP (a b : Pos) : Bool := Nat.beq a.num b.num
theorem eqP_eq {a b : Pos} (h : eqP a b = true) : a = b := Pos.num_inj _ _ (Nat.eq_of_beq_eq_true h)
def eqK (a b : IntKind) : Bool := Nat.beq (kNo a) (kNo b)
mutual
def eqV : V → V → Bool
  | .u, .u => true
  | .b x, .b y => x == y
  | .i k n, .i k' n' => eqK k k' && Nat.beq n n'
  | .s l, .s m => eqN l m
  | .p a x, .p b y => eqP a b && Nat.beq x y
  | .pn, .pn => true
  | .sl a x y z, .sl b x' y' z' => eqP a b && Nat.beq x x' && Nat.beq y y' && Nat.beq z z'
  | .so a x y z t, .so b x' y' z' t' => eqP a b && Nat.beq x x' && Nat.beq y y' && Nat.beq z z' && Nat.beq t t'
  | .sn, .sn => true
  | .ag l, .ag m => eqL l m
  | .tu l, .tu m => eqL l m
  | .f i l, .f j m => Nat.beq i j && eqL l m
  | .fn0, .fn0 => true
  | _, _ => false
def eqL : List V → List V → Bool
  | [], [] => true
  | a :: l, b :: m => eqV a b && eqL l m
  | _, _ => false
end
mutual
theorem eqV_eq : ∀ (v u : V), eqV v u = true → v = u
  | .u, u, h => by cases u <;> first | rfl | simp [eqV] at h
  | .b x, u, h => by cases u <;> simp [eqV] at h; rw [h]
  | .i k n, u, h => by
    cases u <;> try (simp [eqV] at h; done)
    simp only [eqV, eqK, Bool.and_eq_true] at h
    rw [kNo_inj h.1, Nat.eq_of_beq_eq_true h.2]
  | .s l, u, h => by cases u <;> simp [eqV] at h; rw [eqN_eq h]
  | .p a x, u, h => by cases u <;> simp [eqV] at h; rw [eqP_eq h.1, h.2]
  | .pn, u, h => by cases u <;> first | rfl | simp [eqV] at h
  | .sl a x y z, u, h => by cases u <;> simp [eqV] at h; rw [eqP_eq h.1.1.1, h.1.1.2, h.1.2, h.2]
  | .so a x y z w, u, h => by cases u <;> simp [eqV] at h; rw [eqP_eq h.1.1.1.1, h.1.1.1.2, h.1.1.2, h.1.2, h.2]
  | .sn, u, h => by cases u <;> first | rfl | simp [eqV] at h
  | .ag l, u, h => by cases u <;> simp [eqV] at h; rw [eqL_eq _ _ h]
  | .tu l, u, h => by cases u <;> simp [eqV] at h; rw [eqL_eq _ _ h]
  | .f i l, u, h => by cases u <;> simp [eqV] at h; rw [h.1, eqL_eq _ _ h.2]
  | .fn0, u, h => by cases u <;> first | rfl | simp [eqV] at h
  | .other, u, h => by cases u <;> simp [eqV] at h
theorem eqL_eq : ∀ (l m : List V), eqL l m = true → l = m
  | [], m, h => by cases m <;> first | rfl | simp [eqL] at h
  | v :: l, m, h => by
    cases m with
    | nil => simp [eqL] at h
    | cons u m => simp only [eqL, Bool.and_eq_true] at h; rw [eqV_eq v u h.1, eqL_eq l m h.2]
end
/-- places by number -/
def lk : List (Nat × Pos) → Nat → Option Pos
  | [], _ => none
  | (a, q) :: r, n => cond (Nat.beq a n) (some q) (lk r n)
def envF (l : List (Nat × Pos)) (id : Pos) : Pos := match lk l id.num with | some q => q | none => .h
abbrev PE := List (Nat × Pos)
def bindP (id id' : Pos) (e : PE) : PE := match lk e id.num with | some _ => e | none => (id.num, id') :: e
mutual
def mtV : V → V → PE → PE
  | .p a _, .p b _, e => bindP a b e
  | .sl a _ _ _, .sl b _ _ _, e => bindP a b e
  | .so a _ _ _ _, .so b _ _ _ _, e => bindP a b e
  | .ag l, .ag m, e => mtL l m e
  | .tu l, .tu m, e => mtL l m e
  | .f _ l, .f _ m, e => mtL l m e
  | _, _, e => e
def mtL : List V → List V → PE → PE
  | v :: l, u :: m, e => mtL l m (mtV v u e)
  | _, _, e => e
end
/-- the places of the literal memory's blocks, found from the arguments -/
def findE (S : St) : List (List V) → Nat → PE → PE
  | [], _, e => e
  | cs :: r, n, e => match lk e n with
    | some q => (match S.h.get q with | some b => findE S r (n + 1) (mtL cs b.cs e) | none => e)
    | none => e
def blkOk (S : St) (π : Pos → Pos) (q : Pos) (cs : List V) : Bool := match S.h.get q with
  | some b => !Nat.beq b.born 0 && eqL b.cs (renL π cs)
  | none => false
def blksOk (S : St) (e : PE) : List (List V) → Nat → Bool
  | [], _ => true
  | cs :: r, n => (match lk e n with | some q => blkOk S (envF e) q cs | none => false) && blksOk S e r (n + 1)
def notIn (e : PE) (q : Pos) : Nat → Nat → Bool
  | 0, _ => true
  | m + 1, n => (match lk e n with | some q' => !eqP q q' | none => false) && notIn e q m (n + 1)
def injOk (e : PE) : Nat → Nat → Bool
  | 0, _ => true
  | m + 1, n => (match lk e n with | some q => notIn e q m (n + 1) | none => false) && injOk e m (n + 1)
def argsOk (bl : List (List V)) (vs1 vs : List V) (S : St) (e : PE) : Bool := eqL vs (renL (envF e) vs1) && blksOk S e bl 1 && injOk e bl.length 1
theorem blksOk_get {S : St} {e : PE} : ∀ (bl : List (List V)) (n : Nat), blksOk S e bl n = true → ∀ (j : Nat) (cs : List V), bl[j]? = some cs → ∃ q b, lk e (n + j) = some q ∧ S.h.get q = some b ∧ b.born ≠ 0 ∧ b.cs = renL (envF e) cs
  | [], n, h, j, cs, hj => by simp at hj
  | c :: r, n, h, j, cs, hj => by
    simp only [blksOk, Bool.and_eq_true] at h
    cases j with
    | zero =>
      simp at hj; subst hj
      cases hq : lk e n with
      | none => rw [hq] at h; simp at h
      | some q =>
        rw [hq] at h
        simp only [blkOk] at h
        cases hb : S.h.get q with
        | none => rw [hb] at h; simp at h
        | some b =>
          rw [hb] at h
          simp only [Bool.and_eq_true] at h
          refine ⟨q, b, rfl, hb, fun e0 => ?_, eqL_eq _ _ h.1.2⟩
          rw [e0] at h; simp at h
    | succ j =>
      obtain ⟨q, b, h1⟩ := blksOk_get r (n + 1) h.2 j cs (by simpa using hj)
      exact ⟨q, b, by rw [show n + (j + 1) = n + 1 + j by omega]; exact h1.1, h1.2⟩
theorem notIn_get {e : PE} {q : Pos} : ∀ (m n : Nat), notIn e q m n = true → ∀ j, j < m → ∀ q', lk e (n + j) = some q' → q ≠ q'
  | 0, n, h, j, hj, _, _ => by omega
  | m + 1, n, h, j, hj, q', hq => by
    simp only [notIn, Bool.and_eq_true] at h
    cases j with
    | zero =>
      rw [show n + 0 = n from rfl] at hq
      rw [hq] at h
      intro e0; subst e0
      simp [eqP] at h
    | succ j => exact notIn_get m (n + 1) h.2 j (by omega) q' (by rw [← hq]; congr 1; omega)
theorem injOk_get {e : PE} : ∀ (m n : Nat), injOk e m n = true → ∀ i j, i < j → j < m → ∀ q q', lk e (n + i) = some q → lk e (n + j) = some q' → q ≠ q'
  | 0, n, h, i, j, _, hj, _, _, _, _ => by omega
  | m + 1, n, h, i, j, hij, hj, q, q', hq, hq' => by
    simp only [injOk, Bool.and_eq_true] at h
    cases i with
    | zero =>
      rw [show n + 0 = n from rfl] at hq
      rw [hq] at h
      exact notIn_get m (n + 1) h.1 (j - 1) (by omega) q' (by rw [← hq']; congr 1; omega)
    | succ i => exact injOk_get m (n + 1) h.2 i (j - 1) (by omega) (by omega) q q' (by rw [← hq]; congr 1; omega) (by rw [← hq']; congr 1; omega)
end
end Go.AM

/- A literal run as a function's text. -/
namespace Go.AM
set_option linter.unusedVariables false
noncomputable section
variable {P : Program} {out : V × St}
def forceP (p : Pos) (k : Pos → R) : R := Pos.rec (motive := fun _ => (Pos → R) → R) (fun k => k .h) (fun _ ih k => ih fun q => k (.o q)) (fun _ ih k => ih fun q => k (.i q)) p k
theorem forceP_eq : ∀ (p : Pos) (k : Pos → R), forceP p k = k p
  | .h, k => rfl
  | .o p, k => forceP_eq p _
  | .i p, k => forceP_eq p _
def forceV (v : V) (k : V → R) : R := match v with
  | .p id a => forceP id fun q => k (.p q a)
  | .sl id a b c => forceP id fun q => k (.sl q a b c)
  | .so id a b c d => forceP id fun q => k (.so q a b c d)
  | v => k v
theorem forceV_eq (v : V) (k : V → R) : forceV v k = k v := by cases v <;> first | rfl | exact forceP_eq _ _
def forceL : List V → (List V → R) → R
  | [], k => k []
  | v :: l, k => forceV v fun v => forceL l fun l => k (v :: l)
theorem forceL_eq : ∀ (l : List V) (k : List V → R), forceL l k = k l
  | [], k => rfl
  | v :: l, k => by simp only [forceL, forceV_eq, forceL_eq l]
def forceT (v : V) (k : V → R) : R := match v with
  | .tu l => forceL l fun l => k (.tu l)
  | v => forceV v k
theorem forceT_eq (v : V) (k : V → R) : forceT v k = k v := by cases v <;> simp [forceT, forceV_eq, forceL_eq]
def layK (π : Pos → Pos) : List (Pos × List V) → St → (St → R) → R
  | [], S, k => k S
  | x :: r, S, k => forceL (renL π x.2) fun cs => newK cs S fun _ S => layK π r S k
theorem layK_eq (π : Pos → Pos) : ∀ (l : List (Pos × List V)) (S : St) (k : St → R), layK π l S k = k (layS (l.map fun x => renL π x.2) S)
  | [], S, k => rfl
  | x :: r, S, k => by simp only [layK, forceL_eq, newK_eq, layK_eq π r, List.map_cons, layS]
def outE : List (Pos × List V) → Pos → PE
  | [], _ => []
  | x :: r, q => (x.1.num, q) :: outE r q.succ
theorem lk_out : ∀ (outs : List (Pos × List V)) (q : Pos) (n : Nat) (q' : Pos), lk (outE outs q) n = some q' → ∃ j x, outs[j]? = some x ∧ x.1.num = n ∧ q'.num = q.num + j
  | [], q, n, q', h => by cases h
  | x :: r, q, n, q', h => by
    simp only [outE, lk] at h
    cases hb : Nat.beq x.1.num n <;> rw [hb] at h
    · obtain ⟨j, y, h1, h2, h3⟩ := lk_out r q.succ n q' h
      exact ⟨j + 1, y, by simpa using h1, h2, by rw [h3, Pos.num_succ]; omega⟩
    · cases h; exact ⟨0, x, rfl, Nat.eq_of_beq_eq_true hb, rfl⟩
theorem lk_out_none : ∀ (outs : List (Pos × List V)) (q : Pos) (n : Nat), lk (outE outs q) n = none → ∀ x ∈ outs, x.1.num ≠ n
  | [], q, n, h, x, hx => by cases hx
  | y :: r, q, n, h, x, hx => by
    simp only [outE, lk] at h
    cases hb : Nat.beq y.1.num n <;> rw [hb] at h
    · rcases List.mem_cons.1 hx with rfl | hx
      · intro e; rw [e, Nat.beq_refl] at hb; cases hb
      · exact lk_out_none r q.succ n h x hx
    · cases h
theorem lk_append : ∀ (a b : PE) (n : Nat), lk (a ++ b) n = match lk a n with | some q => some q | none => lk b n
  | [], b, n => rfl
  | (m, q) :: a, b, n => by
    simp only [List.cons_append, lk]
    cases Nat.beq m n
    · exact lk_append a b n
    · rfl
def mkS (bl : List (List V)) : St := ⟨(layS bl S0).h, (layS bl S0).nx, (layS bl S0).cnt, (layS bl S0).cnt⟩
def pm (m : Nat) (id : Pos) : Bool := Nat.ble id.num m
def pm2 (m : Nat) (outs : List (Pos × List V)) (id : Pos) : Bool := Nat.ble id.num m || outs.any fun x => Nat.beq x.1.num id.num
def nd : List (Pos × List V) → Bool
  | [] => true
  | x :: r => r.all (fun y => !Nat.beq x.1.num y.1.num) && nd r
def stat (bl : List (List V)) (vs1 : List V) (v1 : V) (outs : List (Pos × List V)) : Bool :=
  okL (pm bl.length) vs1 && bl.all (okL (pm bl.length)) && okV (pm2 bl.length outs) v1 && outs.all (fun x => okL (pm2 bl.length outs) x.2 && Nat.blt bl.length x.1.num) && nd outs
def runOk (r : R) (v1 : V) (outs : List (Pos × List V)) : Bool := match r with
  | some (v, S2) => eqV v v1 && outs.all fun x => match S2.h.get x.1 with | some b => !Nat.beq b.born 0 && eqL b.cs x.2 | none => false
  | none => false
/-- look whether the arguments read so; if they do, lay the result -/
def memoF (bl : List (List V)) (vs1 : List V) (v1 : V) (outs : List (Pos × List V)) : Fun := fun vs S k =>
  (fun e => cond (argsOk bl vs1 vs S e) ((fun π => layK π outs S fun S' => forceT (renV π v1) fun v => k v S') (envF (outE outs S.nx ++ e))) none) (findE S bl 1 (mtL vs1 vs []))
theorem nd_ok : ∀ (outs : List (Pos × List V)), nd outs = true → ∀ (i j : Nat) (x y : Pos × List V), outs[i]? = some x → outs[j]? = some y → x.1 = y.1 → i = j
  | [], h, i, j, x, y, hx, hy, he => by simp at hx
  | z :: r, h, i, j, x, y, hx, hy, he => by
    simp only [nd, Bool.and_eq_true, List.all_eq_true] at h
    have no : ∀ y, y ∈ r → z.1 ≠ y.1 := fun y hy e => by have := h.1 y hy; rw [e] at this; simp at this
    cases i <;> cases j
    · rfl
    · simp at hx hy; subst hx; exact absurd he (no y (List.mem_of_getElem? hy))
    · simp at hx hy; subst hy; exact absurd he.symm (no x (List.mem_of_getElem? hx))
    · rename_i i j; simp at hx hy; rw [nd_ok r h.2 i j x y hx hy he]
theorem memo_ok {f : FuncId} {F : Fun} (hF : FOK P f F) {bl : List (List V)} {vs1 : List V} {v1 : V} {outs : List (Pos × List V)} (hs : stat bl vs1 v1 outs = true)
    (hr : runOk (F vs1 (mkS bl) fun v S => some (v, S)) v1 outs = true) : FOK P f (memoF bl vs1 v1 outs) := by
  intro vs S k out ok h
  simp only [memoF] at h
  revert h
  generalize findE S bl 1 (mtL vs1 vs []) = e
  intro h
  cases ha : argsOk bl vs1 vs S e with
  | false => rw [ha] at h; cases h
  | true =>
    rw [ha] at h
    simp only [cond_true, layK_eq, forceT_eq] at h
    simp only [argsOk, Bool.and_eq_true] at ha
    obtain ⟨⟨ha1, ha2⟩, ha3⟩ := ha
    have ha1 := eqL_eq _ _ ha1
    simp only [stat, Bool.and_eq_true, List.all_eq_true] at hs
    obtain ⟨⟨⟨⟨hs1, hs2⟩, hs3⟩, hs4⟩, hs5⟩ := hs
    obtain ⟨o1, o2, o3, o4, o5⟩ := layS_ok bl S0 S0_ok
    have hcnt : (mkS bl).cnt = 1 + bl.length := o2
    have ok1 : SOK (mkS bl) := ⟨o1.nx, by show 1 ≤ (layS bl S0).cnt; rw [o2]; show 1 ≤ 1 + _; omega, Nat.le_refl _, o1.blk⟩
    cases hq : F vs1 (mkS bl) fun v S => some (v, S) with
    | none => rw [hq] at hr; cases hr
    | some r =>
      obtain ⟨v, S2⟩ := r
      obtain ⟨v', S2', h1, h2⟩ := hF vs1 (mkS bl) _ _ ok1 hq
      cases h1
      rw [hq] at hr
      simp only [runOk, Bool.and_eq_true, List.all_eq_true] at hr
      have hv := eqV_eq _ _ hr.1
      subst hv
      refine ⟨_, _, h, ?_⟩
      rw [ha1]
      have blk : ∀ id : Pos, pm bl.length id = true → ∃ cs, bl[id.num - 1]? = some cs ∧ id.num = 1 + (id.num - 1) := fun id hp => by
        have h1 := Nat.le_of_ble_eq_true hp
        have h2 := Pos.num_pos id
        exact ⟨_, List.getElem?_eq_getElem (by omega), by omega⟩
      have lke : ∀ id : Pos, pm bl.length id = true → ∃ cs q b, bl[id.num - 1]? = some cs ∧ lk e id.num = some q ∧ envF e id = q ∧ S.h.get q = some b ∧ b.born ≠ 0 ∧ b.cs = renL (envF e) cs := fun id hp => by
        obtain ⟨cs, h3, h4⟩ := blk id hp
        obtain ⟨q, b, h5, h6, h7, h8⟩ := blksOk_get bl 1 ha2 _ cs h3
        rw [← h4] at h5
        exact ⟨cs, q, b, h3, h5, by simp only [envF, h5], h6, h7, h8⟩
      refine transplant h2 ok1 rfl ok (p := pm bl.length) (p2 := pm2 bl.length outs) hs1 (fun id hp => ?_) (fun id hp => ?_) (fun id b hb => ?_) (fun id id' hp hp' he => ?_) (nd_ok outs hs5) (fun x hx => ?_) (fun id hp => ?_) hs3 (fun x hx => ?_)
      · have := Nat.le_of_ble_eq_true hp; rw [hcnt]; omega
      · obtain ⟨cs, q, b, h3, h4, h5, h6, h7, h8⟩ := lke id hp
        obtain ⟨_, _, h9⟩ := blk id hp
        refine ⟨⟨S0.cnt + (id.num - 1), cs⟩, b, o5 _ cs h3 id (show id.num = 1 + _ from h9), by rw [h5]; exact h6, h7, h8, hs2 cs (List.mem_of_getElem? h3)⟩
      · have := (ok1.blk id b hb).1; rw [hcnt] at this
        exact Nat.ble_eq_true_of_le (by omega)
      · obtain ⟨cs, q, b, h3, h4, h5, _⟩ := lke id hp
        obtain ⟨cs', q', b', h3', h4', h5', _⟩ := lke id' hp'
        have l1 := Nat.le_of_ble_eq_true hp
        have l1' := Nat.le_of_ble_eq_true hp'
        have p1 := Pos.num_pos id
        have p1' := Pos.num_pos id'
        have hqq : q = q' := by rw [← h5, ← h5', he]
        apply Pos.num_inj
        rcases Nat.lt_trichotomy id.num id'.num with hl | hl | hl
        · exact absurd hqq (injOk_get bl.length 1 ha3 (id.num - 1) (id'.num - 1) (by omega) (by omega) q q' (by rw [← h4]; congr 1; omega) (by rw [← h4']; congr 1; omega))
        · exact hl
        · exact absurd hqq.symm (injOk_get bl.length 1 ha3 (id'.num - 1) (id.num - 1) (by omega) (by omega) q' q (by rw [← h4']; congr 1; omega) (by rw [← h4]; congr 1; omega))
      · have h3 := (hs4 x hx).2
        have h4 := hr.2 x hx
        refine ⟨by have := Nat.le_of_ble_eq_true h3; rw [hcnt]; omega, ?_⟩
        cases hg : S2.h.get x.1 with
        | none => rw [hg] at h4; simp at h4
        | some b =>
          rw [hg] at h4
          simp only [Bool.and_eq_true] at h4
          refine ⟨b, rfl, eqL_eq _ _ h4.2, fun e0 => ?_⟩
          rw [e0] at h4; simp at h4
      · cases hl : lk (outE outs S.nx) id.num with
        | some q' =>
          obtain ⟨j, x, h3, h4, h5⟩ := lk_out outs S.nx id.num q' hl
          refine .inr ⟨j, x, h3, Pos.num_inj _ _ h4, ?_⟩
          simp only [envF, lk_append, hl]
          rw [h5, ok.nx]
        | none =>
          have hno := lk_out_none outs S.nx id.num hl
          simp only [pm2, Bool.or_eq_true, List.any_eq_true] at hp
          rcases hp with hp | ⟨x, hx, hb⟩
          · exact .inl ⟨hp, by simp only [envF, lk_append, hl]⟩
          · exact absurd (Nat.eq_of_beq_eq_true hb) (hno x hx)
      · exact (hs4 x hx).1
end
end Go.AM

/- One text or another. -/
namespace Go.AM
variable {P : Program}
noncomputable section
def orF (A B : Fun) : Fun := fun vs S k => match A vs S k with | some r => some r | none => B vs S k
theorem orF_ok {f : FuncId} {A B : Fun} (hA : FOK P f A) (hB : FOK P f B) : FOK P f (orF A B) := by
  intro vs S k out ok h
  simp only [orF] at h
  cases hq : A vs S k with
  | none => rw [hq] at h; exact hB vs S k out ok h
  | some r => rw [hq] at h; cases h; exact hA vs S k _ ok hq
theorem cur_ok {f : FuncId} {A : Fun} (n : Nat) (hA : FOK P f A) : FOK P f (un n (cur n A)) := fun vs S k out ok h => hA vs S k out ok (un_cur n A vs S k h).2
end
end Go.AM

/- Literal runs over flat memory, looked up fast. -/
namespace Go.AM
set_option linter.unusedVariables false
set_option linter.constructorNameAsVariable false
noncomputable section
variable {P : Program}
/-- a value that names no place -/
def flatV : V → Bool
  | .b _ | .i _ _ | .s _ | .u | .pn | .sn | .fn0 => true
  | _ => false
def flatL : List V → Bool
  | [] => true
  | v :: l => flatV v && flatL l
theorem flat_renV (π : Pos → Pos) {v : V} (h : flatV v = true) : renV π v = v := by cases v <;> first | rfl | cases h
theorem flat_renL (π : Pos → Pos) : ∀ {l : List V}, flatL l = true → renL π l = l
  | [], _ => rfl
  | v :: l, h => by
    simp only [flatL, Bool.and_eq_true] at h
    simp only [renL, flat_renV π h.1, flat_renL π h.2]
theorem flat_mt : ∀ {l : List V} (m : List V) (e : PE), flatL l = true → mtL l m e = e
  | [], m, e, _ => by cases m <;> rfl
  | v :: l, [], e, _ => rfl
  | v :: l, u :: m, e, h => by
    simp only [flatL, Bool.and_eq_true] at h
    have hv : mtV v u e = e := by cases v <;> first | cases u <;> rfl | cases h.1
    simp only [mtL, hv, flat_mt m e h.2]
theorem flat_find (S : St) : ∀ (bl : List (List V)) (n : Nat) (e : PE), bl.all flatL = true → findE S bl n e = e
  | [], n, e, _ => rfl
  | cs :: r, n, e, h => by
    simp only [List.all_cons, Bool.and_eq_true] at h
    simp only [findE]
    split
    · split
      · rw [flat_mt _ _ h.1]; exact flat_find S r (n + 1) e h.2
      · rfl
    · rfl
/-- equality of two values, fast where they are flat -/
def fV (a b : V) : Bool :=
  @V.rec (fun _ => Bool) (fun _ => Unit) (eqV a b)
    (fun y => @V.rec (fun _ => Bool) (fun _ => Unit) false (fun x => Bool.rec (Bool.not y) y x) (fun _ _ => false) (fun _ => false) (fun _ _ => false) false (fun _ _ _ _ => false) (fun _ _ _ _ _ => false) false (fun _ _ => false) (fun _ _ => false) (fun _ _ _ => false) false false (fun _ => false) false () (fun _ _ _ _ => ()) a)
    (fun _ _ => eqV a b)
    (fun m => @V.rec (fun _ => Bool) (fun _ => Unit) false (fun _ => false) (fun _ _ => false) (fun l => eqB l m) (fun _ _ => false) false (fun _ _ _ _ => false) (fun _ _ _ _ _ => false) false (fun _ _ => false) (fun _ _ => false) (fun _ _ _ => false) false false (fun _ => false) false () (fun _ _ _ _ => ()) a)
    (fun _ _ => eqV a b) (eqV a b) (fun _ _ _ _ => eqV a b) (fun _ _ _ _ _ => eqV a b) (eqV a b) (fun _ _ => eqV a b) (fun _ _ => eqV a b) (fun _ _ _ => eqV a b) (eqV a b) (eqV a b) (fun _ => eqV a b) (eqV a b) () (fun _ _ _ _ => ()) b
def fL (l : List V) : List V → Bool :=
  List.rec (fun m => List.rec true (fun _ _ _ => false) m) (fun a _ ih m => List.rec false (fun b t _ => Bool.rec false (ih t) (fV a b)) m) l
theorem fV_eq (a b : V) (h : fV a b = true) : a = b := by
  cases b <;> first
    | exact eqV_eq _ _ h
    | (cases a <;> first
        | (cases h; done)
        | (rename_i y x; revert h; cases x <;> cases y <;> intro h <;> first | rfl | cases h)
        | (rename_i m l; rw [eq_of_beq ((eqB_eq l m).symm.trans h)]))
theorem fL_eq : ∀ (l m : List V), fL l m = true → l = m
  | [], [], _ => rfl
  | [], _ :: _, h => by cases h
  | _ :: _, [], h => by cases h
  | a :: l, b :: m, h => by
    have e : fL (a :: l) (b :: m) = Bool.rec false (fL l m) (fV a b) := by rfl
    rw [e] at h
    cases hb : fV a b
    · rw [hb] at h; cases h
    · rw [hb] at h; rw [fV_eq a b hb, fL_eq l m h]
mutual
theorem eqV_refl : ∀ v : V, v ≠ .other → flatV v = true → eqV v v = true
  | .b x, _, _ => by simp [eqV]
  | .i k n, _, _ => by simp [eqV, eqK]
  | .s l, _, _ => by simp only [eqV]; exact eqN_refl l
  | .u, _, _ => rfl
  | .pn, _, _ => rfl
  | .sn, _, _ => rfl
  | .fn0, _, _ => rfl
  | .p _ _, _, h => by cases h
  | .sl _ _ _ _, _, h => by cases h
  | .so _ _ _ _ _, _, h => by cases h
  | .ag _, _, h => by cases h
  | .tu _, _, h => by cases h
  | .f _ _, _, h => by cases h
  | .other, h, _ => absurd rfl h
theorem eqN_refl : ∀ l : List Nat, eqN l l = true
  | [] => rfl
  | a :: l => by simp only [eqN, Nat.beq_refl, eqN_refl l, Bool.and_self]
end
theorem eqL_refl : ∀ {l : List V}, flatL l = true → eqL l l = true
  | [], _ => rfl
  | v :: l, h => by
    simp only [flatL, Bool.and_eq_true] at h
    simp only [eqL, eqL_refl h.2, Bool.and_true]
    exact eqV_refl v (fun e => by subst e; cases h.1) h.1
/-- what tells two rows of arguments apart at once -/
def shV (a b : V) : Bool :=
  @V.rec (fun _ => Bool) (fun _ => Unit) true (fun _ => true)
    (fun _ n => @V.rec (fun _ => Bool) (fun _ => Unit) true (fun _ => true) (fun _ m => Nat.beq n m) (fun _ => true) (fun _ _ => true) true (fun _ _ _ _ => true) (fun _ _ _ _ _ => true) true (fun _ _ => true) (fun _ _ => true) (fun _ _ _ => true) true true (fun _ => true) true () (fun _ _ _ _ => ()) b)
    (fun _ => true) (fun _ _ => true) true
    (fun _ _ n _ => @V.rec (fun _ => Bool) (fun _ => Unit) true (fun _ => true) (fun _ _ => true) (fun _ => true) (fun _ _ => true) true (fun _ _ m _ => Nat.beq n m) (fun _ _ _ _ _ => true) true (fun _ _ => true) (fun _ _ => true) (fun _ _ _ => true) true true (fun _ => true) true () (fun _ _ _ _ => ()) b)
    (fun _ _ _ _ _ => true) true (fun _ _ => true) (fun _ _ => true) (fun _ _ _ => true) true true (fun _ => true) true () (fun _ _ _ _ => ()) a
def shL (l : List V) : List V → Bool := List.rec (fun _ => true) (fun a _ ih m => List.rec true (fun b t _ => Bool.rec false (ih t) (shV a b)) m) l
def blkQ (S : St) (q : Pos) (cs : List V) : Bool := match S.h.get q with
  | some b => !Nat.beq b.born 0 && fL b.cs cs
  | none => false
def blksQ (S : St) (e : PE) : List (List V) → Nat → Bool
  | [], _ => true
  | cs :: r, n => (match lk e n with | some q => blkQ S q cs | none => false) && blksQ S e r (n + 1)
theorem blksQ_ok {S : St} {e : PE} : ∀ (bl : List (List V)) (n : Nat), bl.all flatL = true → blksQ S e bl n = true → blksOk S e bl n = true
  | [], n, _, _ => rfl
  | cs :: r, n, hf, h => by
    simp only [List.all_cons, Bool.and_eq_true] at hf
    simp only [blksQ, Bool.and_eq_true] at h
    simp only [blksOk, Bool.and_eq_true]
    refine ⟨?_, blksQ_ok r (n + 1) hf.2 h.2⟩
    cases hq : lk e n with
    | none => rw [hq] at h; simp at h
    | some q =>
      rw [hq] at h
      have h1 := h.1
      simp only [blkQ] at h1
      simp only [blkOk]
      cases hb : S.h.get q with
      | none => rw [hb] at h1; simp at h1
      | some b =>
        rw [hb] at h1
        simp only [Bool.and_eq_true] at h1 ⊢
        refine ⟨h1.1, ?_⟩
        rw [fL_eq _ _ h1.2, flat_renL _ hf.1]
        exact eqL_refl hf.1
def layQ : List (Pos × List V) → St → (St → R) → R
  | [], S, k => k S
  | x :: r, S, k => newK x.2 S fun _ S => layQ r S k
theorem layQ_eq (π : Pos → Pos) : ∀ (l : List (Pos × List V)) (S : St) (k : St → R), l.all (fun x => flatL x.2) = true → layQ l S k = layK π l S k
  | [], S, k, _ => rfl
  | x :: r, S, k, h => by
    simp only [List.all_cons, Bool.and_eq_true] at h
    simp only [layQ, layK, forceL_eq, flat_renL π h.1]
    congr 1; funext _ S; exact layQ_eq π r S k h.2
def argsQ (bl : List (List V)) (vs1 vs : List V) (S : St) (e : PE) : Bool := eqL vs (renL (envF e) vs1) && blksQ S e bl 1 && injOk e bl.length 1
def memoQ (bl : List (List V)) (vs1 : List V) (v1 : V) (outs : List (Pos × List V)) : Fun := fun vs S k =>
  iF (shL vs1 vs) ((fun e => cond (argsQ bl vs1 vs S e) (layQ outs S fun S' => forceT (renV (envF (outE outs S.nx ++ e)) v1) fun v => k v S') none) (mtL vs1 vs [])) none
theorem memoQ_ok {f : FuncId} {bl : List (List V)} {vs1 : List V} {v1 : V} {outs : List (Pos × List V)} (h : FOK P f (memoF bl vs1 v1 outs)) (hb : bl.all flatL = true) (ho : outs.all (fun x => flatL x.2) = true) : FOK P f (memoQ bl vs1 v1 outs) := by
  intro vs S k out ok h'
  refine h vs S k out ok ?_
  simp only [memoQ] at h'
  cases hs : shL vs1 vs
  · rw [hs] at h'; cases h'
  · rw [hs] at h'
    have h' : cond (argsQ bl vs1 vs S (mtL vs1 vs [])) (layQ outs S fun S' => forceT (renV (envF (outE outs S.nx ++ mtL vs1 vs [])) v1) fun v => k v S') none = some out := h'
    cases ha : argsQ bl vs1 vs S (mtL vs1 vs [])
    · rw [ha] at h'; cases h'
    · rw [ha, cond_true] at h'
      simp only [memoF, flat_find S bl 1 _ hb]
      have : argsOk bl vs1 vs S (mtL vs1 vs []) = true := by
        simp only [argsQ, Bool.and_eq_true] at ha
        simp only [argsOk, Bool.and_eq_true]
        exact ⟨⟨ha.1.1, blksQ_ok bl 1 hb ha.1.2⟩, ha.2⟩
      rw [this, cond_true, ← layQ_eq _ _ _ _ ho]
      exact h'
/-- a row of such literal runs before another text: the first whose arguments these are -/
def memoO (bl : List (List V)) (vs1 : List V) (v1 : V) (outs : List (Pos × List V)) (B : Fun) : Fun := fun vs S k =>
  iF (shL vs1 vs) ((fun e => iF (argsQ bl vs1 vs S e) (layQ outs S fun S' => forceT (renV (envF (outE outs S.nx ++ e)) v1) fun v => k v S') (B vs S k)) (mtL vs1 vs [])) (B vs S k)
theorem memoO_ok {f : FuncId} {bl : List (List V)} {vs1 : List V} {v1 : V} {outs : List (Pos × List V)} {B : Fun} (h : FOK P f (memoF bl vs1 v1 outs)) (hb : bl.all flatL = true) (ho : outs.all (fun x => flatL x.2) = true) (hB : FOK P f B) : FOK P f (memoO bl vs1 v1 outs B) := by
  intro vs S k out ok h'
  simp only [memoO] at h'
  cases hs : shL vs1 vs
  · rw [hs] at h'; exact hB vs S k out ok h'
  · rw [hs] at h'
    have h' : iF (argsQ bl vs1 vs S (mtL vs1 vs [])) (layQ outs S fun S' => forceT (renV (envF (outE outs S.nx ++ mtL vs1 vs [])) v1) fun v => k v S') (B vs S k) = some out := h'
    cases ha : argsQ bl vs1 vs S (mtL vs1 vs [])
    · rw [ha] at h'; exact hB vs S k out ok h'
    · refine memoQ_ok h hb ho vs S k out ok ?_
      rw [ha] at h'
      simp only [memoQ, hs]
      show cond (argsQ bl vs1 vs S (mtL vs1 vs [])) _ none = some out
      rw [ha]; exact h'
end
end Go.AM

/- A function of flat values that was run at one of them in the empty memory, told as pure. -/
namespace Go.AM
set_option linter.unusedVariables false
set_option linter.unusedSimpArgs false
noncomputable section
variable {P : Program}
def flatT : V → Bool
  | .tu l => flatL l
  | v => flatV v
theorem flatV_ok (p : Pos → Bool) {v : V} (h : flatV v = true) : okV p v = true := by cases v <;> first | rfl | cases h
theorem flatL_ok (p : Pos → Bool) : ∀ {l : List V}, flatL l = true → okL p l = true
  | [], _ => rfl
  | v :: l, h => by
    simp only [flatL, Bool.and_eq_true] at h
    simp only [okL, flatV_ok p h.1, flatL_ok p h.2, Bool.and_self]
theorem flatT_ok (p : Pos → Bool) {v : V} (h : flatT v = true) : okV p v = true := by
  cases v <;> first | rfl | cases h | skip
  simp only [okV]; exact flatL_ok p h
theorem flatT_ren (π : Pos → Pos) {v : V} (h : flatT v = true) : renV π v = v := by
  cases v <;> first | rfl | cases h | skip
  simp only [renV]; rw [flat_renL π h]
theorem flatT_eq {v : V} (h : flatT v = true) : eqV v v = true := by
  cases v <;> first | cases h | skip
  all_goals first
    | exact eqV_refl _ (fun e => by cases e) (by rfl)
    | (simp only [eqV]; exact eqL_refl h)
/-- what a table of flat values tells -/
def pureF (D : List V → Option V) : Fun := fun vs S k => match D vs with
  | some v => k v S
  | none => none
theorem pure_ok {f : FuncId} {F : Fun} (hF : FOK P f F) (D : List V → Option V)
    (h : ∀ vs v, D vs = some v → flatL vs = true ∧ flatT v = true ∧ ∃ S2, F vs (mkS []) (fun v S => some (v, S)) = some (v, S2)) : FOK P f (pureF D) := by
  intro vs S k out ok h'
  simp only [pureF] at h'
  cases hd : D vs with
  | none => rw [hd] at h'; cases h'
  | some v =>
    rw [hd] at h'
    obtain ⟨h1, h2, S2, h3⟩ := h vs v hd
    have hs : stat [] vs v [] = true := by
      simp only [stat, flatL_ok _ h1, flatT_ok _ h2, List.all_nil, nd, Bool.and_self]
    have hr : runOk (F vs (mkS []) fun v S => some (v, S)) v [] = true := by
      rw [h3]; simp only [runOk, flatT_eq h2, List.all_nil, Bool.and_self]
    refine memo_ok hF hs hr vs S k out ok ?_
    have ha : ∀ e, argsOk [] vs vs S e = true := fun e => by
      simp only [argsOk, flat_renL _ h1, eqL_refl h1, blksOk, List.length_nil, injOk, Bool.and_self]
    simp only [memoF, ha, cond_true, layK_eq, forceT_eq, flatT_ren _ h2, List.map_nil, layS]
    exact h'
end
end Go.AM
