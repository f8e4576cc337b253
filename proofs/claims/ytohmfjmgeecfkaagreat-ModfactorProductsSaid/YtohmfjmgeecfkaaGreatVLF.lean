/- A run that writes into nothing old, told by its result alone: what else it laid is forgotten. -/
import Derived.Test.YtohmfjmgeecfkaaGreatVLM
namespace Go.AM
set_option linter.unusedVariables false
set_option linter.unusedSimpArgs false
variable {P : Program}
/-- the memory with all that is in it locked -/
def St.lock (S : St) : St := ⟨S.h, S.nx, S.cnt, S.cnt⟩
theorem SOK.lock {S : St} (ok : SOK S) : SOK S.lock := ⟨ok.nx, Nat.le_trans ok.fl ok.le, Nat.le_refl _, ok.blk⟩
mutual
theorem renV_id : ∀ v : V, renV (fun q => q) v = v
  | .u => rfl
  | .b _ => rfl
  | .i _ _ => rfl
  | .s _ => rfl
  | .p _ _ => rfl
  | .pn => rfl
  | .sl _ _ _ _ => rfl
  | .so _ _ _ _ _ => rfl
  | .sn => rfl
  | .ag l => by simp only [renV, renL_id l]
  | .tu l => by simp only [renV, renL_id l]
  | .f _ l => by simp only [renV, renL_id l]
  | .fn0 => rfl
  | .other => rfl
  | .m _ => rfl
  | .mn => rfl
theorem renL_id : ∀ l : List V, renL (fun q => q) l = l
  | [] => rfl
  | v :: l => by simp only [renL, renV_id v, renL_id l]
end
theorem HB.pre {ρ : Ren} {L : Loc} {cs t : List V} {w : World} (hb : HB ρ L (cs ++ t) w) (hf : flatL (cs ++ t) = true) : HB ρ L cs w := by
  rcases hb with ⟨c, e, fr, h1, h2, h3, h4, h5⟩ | ⟨h1, es, k, h2, h3⟩
  case inr =>
    cases cs with
    | nil =>
      cases t with
      | nil => exact .inr ⟨h1, es, k, h2, h3⟩
      | cons v t =>
        rw [List.nil_append] at h3 hf
        generalize es.toList = l at h3
        cases h3 with | cons a b e cs es _ _ _ => cases hf
    | cons v cs =>
      rw [List.cons_append] at h3 hf
      generalize es.toList = l at h3
      cases h3 with | cons a b e cs es _ _ _ => cases hf
  refine .inl ⟨c, e, fr, h1, h2, h3, by rw [List.length_append] at h4; omega, fun i v hv => h5 i v ?_⟩
  have := (List.getElem?_eq_some_iff.1 hv).1
  rw [List.getElem?_append_left this]; exact hv
theorem forget {f : FuncId} {vs : List V} {S S2 : St} {v1 : V} (hc : CallOK P f vs S.lock v1 S2) (ok : SOK S)
    {p : Pos → Bool} (hvs : okL p vs = true) (hpl : ∀ id, p id = true → id.num < S.cnt) (hblk : ∀ id b, p id = true → S.h.get id = some b → okL p b.cs = true)
    {outs : List (Pos × List V)} (hnd : ∀ (i j : Nat) (x y : Pos × List V), outs[i]? = some x → outs[j]? = some y → x.1 = y.1 → i = j)
    (hout : ∀ x ∈ outs, S.cnt ≤ x.1.num ∧ ∃ b t, S2.h.get x.1 = some b ∧ b.cs = x.2 ++ t ∧ b.born ≠ 0 ∧ flatL b.cs = true)
    {π2 : Pos → Pos} {p2 : Pos → Bool} (hp2 : ∀ id, p2 id = true → p id = true ∧ π2 id = id ∨ ∃ j x, outs[j]? = some x ∧ x.1 = id ∧ (π2 id).num = S.cnt + j)
    (hv1 : okV p2 v1 = true) (hcs : ∀ x ∈ outs, okL p2 x.2 = true) :
    CallOK P f vs S (renV π2 v1) (layS (outs.map fun x => renL π2 x.2) S) := by
  obtain ⟨o1, o2, o3, o4, o5⟩ := layS_ok (outs.map fun x => renL π2 x.2) S ok
  rw [List.length_map] at o2
  have ok1 := ok.lock
  refine ⟨⟨by omega, o3, fun _ => o1, fun id hid => o4 id (Nat.lt_of_lt_of_le hid ok.le)⟩, fun ρ w args hargs hh hfr => ?_⟩
  let ρ1 : Ren := fun id => if p id = true then ρ id else none
  have e1 : ∀ id, p id = true → ρ1 id = ρ ((fun q => q) id) := fun id h => if_pos h
  have e0 : ∀ id L, ρ1 id = some L → p id = true ∧ ρ id = some L := fun id L h => by
    by_cases hp : p id = true
    · exact ⟨hp, (e1 id hp).symm.trans h⟩
    · rw [show ρ1 id = none from if_neg hp] at h; cases h
  have hh1 : HRel ρ1 S.lock w := by
    refine ⟨fun id L b h hb h0 => ?_, fun id id' L L' b b' h h' hb hb' h0 h0' he hq => ?_, fun id L h _ => hpl id (e0 id L h).1⟩
    · obtain ⟨hp, hL⟩ := e0 id L h
      have := hh.cells _ L b hL hb h0
      rw [← renL_id b.cs] at this
      exact this.unren e1 (hblk id b hp hb)
    · exact hh.inj _ _ L L' b b' (e0 id L h).2 (e0 id' L' h').2 hb hb' h0 h0' he hq
  have hf1 : Fresh ρ1 S.lock.cnt S2.cnt := fun id h1 h2 => by
    cases h : ρ1 id with
    | none => rfl
    | some L => have := hpl id (e0 id L h).1; have h1 : S.cnt ≤ id.num := h1; omega
  rw [← renL_id vs] at hargs
  refine (hc.2 ρ1 w args (hargs.unren e1 hvs) hh1 hf1).mono fun u w' ⟨ρ1', post, vr⟩ => ?_
  have hold : ∀ k, k < w.heap.size → w'.heap[k]? = w.heap[k]? := fun k hk => post.frame k hk fun id L h1 h2 h3 => by
    have h2 : S.cnt ≤ id.num := h2
    have h3 : id.num < S.cnt := h3
    omega
  have hm1 := post.mono hf1
  let ρ2 : Ren := fun q => if S.cnt ≤ q.num then (match outs[q.num - S.cnt]? with | some x => ρ1' x.1 | none => ρ q) else ρ q
  have r_old : ∀ q : Pos, q.num < S.cnt → ρ2 q = ρ q := fun q hq => if_neg (by omega)
  have r_new : ∀ (q : Pos) (j : Nat) x, q.num = S.cnt + j → outs[j]? = some x → ρ2 q = ρ1' x.1 := fun q j x hq hx => by
    show (if S.cnt ≤ q.num then _ else _) = _
    rw [if_pos (by omega), show q.num - S.cnt = j by omega, hx]
  have r_far : ∀ q : Pos, S.cnt + outs.length ≤ q.num → ρ2 q = ρ q := fun q hq => by
    show (if S.cnt ≤ q.num then _ else _) = _
    rw [if_pos (by omega), List.getElem?_eq_none (by omega)]
  have r_mono : ∀ q L, ρ q = some L → ρ2 q = some L := fun q L h => by
    rcases Nat.lt_or_ge q.num S.cnt with h1 | h1
    · rw [r_old q h1]; exact h
    · rcases Nat.lt_or_ge q.num (S.cnt + outs.length) with h2 | h2
      · rw [hfr q h1 (by omega)] at h; cases h
      · rw [r_far q h2]; exact h
  have e2 : ∀ id, p2 id = true → ρ2 (π2 id) = ρ1' id := fun id h => by
    rcases hp2 id h with ⟨hp, he⟩ | ⟨j, x, hx, rfl, hn⟩
    · have h1 : ρ1' id = ρ1 id := post.ext id (.inl (hpl id hp))
      rw [he, r_old _ (hpl id hp), h1]; exact (e1 id hp).symm
    · exact r_new _ j x hn hx
  have new_b : ∀ x ∈ outs, ∀ L, ρ1' x.1 = some L → w.heap.size ≤ L.b := fun x hx L hL => by
    obtain ⟨h1, b, t, h2, _, _⟩ := hout x hx
    have hok2 := hc.1.ok ok1
    rcases post.new x.1 L h1 (hok2.blk _ _ h2).1 hL with h | ⟨id0, L0, _, h3, h4, _⟩
    · exact h
    · have h3 : S.cnt ≤ id0.num := h3
      have h4 : id0.num < S.cnt := h4
      omega
  have cls : ∀ (q : Pos) b, (layS (outs.map fun x => renL π2 x.2) S).h.get q = some b → q.num < S.cnt ∧ S.h.get q = some b ∨ ∃ j x, outs[j]? = some x ∧ q.num = S.cnt + j ∧ b.cs = renL π2 x.2 := fun q b hb => by
    rcases Nat.lt_or_ge q.num S.cnt with h1 | h1
    · rw [o4 q h1] at hb; exact .inl ⟨h1, hb⟩
    · have h2 := (o1.blk q b hb).1
      obtain ⟨x, hx⟩ : ∃ x, outs[q.num - S.cnt]? = some x := ⟨_, List.getElem?_eq_getElem (by omega)⟩
      rw [o5 (q.num - S.cnt) (renL π2 x.2) (by rw [List.getElem?_map, hx]; rfl) q (by omega)] at hb
      cases hb
      exact .inr ⟨_, x, hx, by omega, rfl⟩
  refine ⟨ρ2, ⟨fun q hq => ?_, ⟨fun q L b hL hb h0 => ?_, fun q q' L L' b b' hL hL' hb hb' h0 h0' he hq8 => ?_, fun q L hL hr => ?_⟩, post.os, post.tape, post.output, post.size, fun k hk _ => hold k hk, fun q L h1 h2 hL => ?_⟩, vr.ren e2 hv1⟩
  · rcases hq with h | h
    · exact r_old q h
    · exact r_far q (by omega)
  · rcases cls q b hb with ⟨h1, h2⟩ | ⟨j, x, hx, hq, hbc⟩
    · rw [r_old q h1] at hL
      exact (hh.cells q L b hL h2 h0).mono r_mono (hold _ (hh.at_ hL h2 h0))
    · rw [r_new q j x hq hx] at hL
      have hm := List.mem_of_getElem? hx
      obtain ⟨_, b2, t, h2, h3, h4, h9⟩ := hout x hm
      have := post.heap.cells x.1 L b2 hL h2 h4
      rw [h3] at this h9
      rw [hbc]; exact (this.pre h9).ren e2 (hcs x hm)
  · rcases cls q b hb with ⟨h1, h2⟩ | ⟨j, x, hx, hq, hbc⟩ <;> rcases cls q' b' hb' with ⟨h1', h2'⟩ | ⟨j', x', hx', hq', hbc'⟩
    · rw [r_old q h1] at hL; rw [r_old q' h1'] at hL'
      exact hh.inj q q' L L' b b' hL hL' h2 h2' h0 h0' he hq8
    · rw [r_old q h1] at hL; rw [r_new q' j' x' hq' hx'] at hL'
      have := hh.at_ hL h2 h0; have := new_b x' (List.mem_of_getElem? hx') L' hL'; omega
    · rw [r_new q j x hq hx] at hL; rw [r_old q' h1'] at hL'
      have := hh.at_ hL' h2' h0'; have := new_b x (List.mem_of_getElem? hx) L hL; omega
    · rw [r_new q j x hq hx] at hL; rw [r_new q' j' x' hq' hx'] at hL'
      obtain ⟨_, b2, t, c2, c3, c4, _⟩ := hout x (List.mem_of_getElem? hx)
      obtain ⟨_, b2', t', c2', c3', c4', _⟩ := hout x' (List.mem_of_getElem? hx')
      have h := post.heap.inj x.1 x'.1 L L' b2 b2' hL hL' c2 c2' c4 c4' he hq8
      have := hnd j j' x x' hx hx' h
      exact Pos.num_inj _ _ (by omega)
  · rw [o3]
    rcases Nat.lt_or_ge q.num S.cnt with h1 | h1
    · rw [r_old q h1] at hL; exact hh.ro q L hL hr
    · rcases Nat.lt_or_ge q.num (S.cnt + outs.length) with h2 | h2
      · rw [r_new q (q.num - S.cnt) _ (by omega) (List.getElem?_eq_getElem (by omega))] at hL
        have h3 := post.heap.ro _ L hL hr
        rw [hc.1.fl_] at h3
        have h4 := (hout _ (List.getElem_mem (show q.num - S.cnt < outs.length by omega))).1
        exact absurd (Nat.lt_of_lt_of_le h3 (Nat.le_refl _)) (Nat.not_lt.2 h4)
      · rw [r_far q h2] at hL; exact hh.ro q L hL hr
  · have hlt : q.num < S.cnt + outs.length := by omega
    obtain ⟨x, hx⟩ : ∃ x, outs[q.num - S.cnt]? = some x := ⟨_, List.getElem?_eq_getElem (by omega)⟩
    rw [r_new q _ x (by omega) hx] at hL
    exact .inl (new_b x (List.mem_of_getElem? hx) L hL)
end Go.AM

/- Rows of numbers in memory. -/
namespace Go.AM
set_option linter.unusedVariables false
set_option linter.unusedSimpArgs false
abbrev nn (n : Nat) : V := .i .i64 n
variable {S S0 : St} {v : V} {l : List Nat}
def Old (S0 S : St) : Prop := ∀ id : Pos, id.num < S0.cnt → S.h.get id = S0.h.get id
/-- a block of one's own that holds numbers -/
def Has (S : St) (id : Pos) (L : List Nat) : Prop := ∃ n, S.h.get id = some ⟨n, L.map nn⟩ ∧ S.fl ≤ n ∧ n ≠ 0
/-- a slice of numbers, as it reads -/
def Row (S : St) (v : V) (l : List Nat) : Prop := match v with
  | .sl id off len cap => len = l.length ∧ ∃ b : Blk, S.h.get id = some b ∧ ∃ t, b.cs.drop off = l.map nn ++ t
  | .so id off len cap sz => sz = 1 ∧ len = l.length ∧ ∃ b : Blk, S.h.get id = some b ∧ ∃ t, b.cs.drop off = l.map nn ++ t
  | .sn => l = []
  | _ => False
theorem Row.old (ok : SOK S0) (h : Row S0 v l) (o : Old S0 S) : Row S v l := by
  unfold Row at h ⊢
  split at h
  · obtain ⟨h1, b, h2, h3⟩ := h
    exact ⟨h1, b, by rw [o _ (ok.blk _ _ h2).1]; exact h2, h3⟩
  · obtain ⟨h0, h1, b, h2, h3⟩ := h
    exact ⟨h0, h1, b, by rw [o _ (ok.blk _ _ h2).1]; exact h2, h3⟩
  · exact h
  · exact h.elim
theorem Row.len (h : Row S v l) (hl : l.length ≤ 9223372036854775807) (c : V → R) : pLen v c = c (nn l.length) := by
  unfold Row at h
  split at h
  · obtain ⟨rfl, _⟩ := h
    show gu (Nat.ble l.length 9223372036854775807) (retI c .i64 l.length) = _
    rw [Nat.ble_eq_true_of_le hl, gu_true, retI_eq]
  · obtain ⟨_, rfl, _⟩ := h
    show gu (Nat.ble l.length 9223372036854775807) (retI c .i64 l.length) = _
    rw [Nat.ble_eq_true_of_le hl, gu_true, retI_eq]
  · subst h; rfl
  · exact h.elim
theorem drop_get {cs t : List V} {off i x : Nat} (h : cs.drop off = l.map nn ++ t) (hi : l[i]? = some x) : cs[off + i]? = some (nn x) := by
  have h1 := (List.getElem?_eq_some_iff.1 hi).1
  have : (cs.drop off)[i]? = some (nn x) := by rw [h, List.getElem?_append_left (by simpa using h1), List.getElem?_map, hi]; rfl
  rwa [List.getElem?_drop] at this
theorem Row.get (h : Row S v l) {i x : Nat} (hi : l[i]? = some x) (hl : l.length ≤ 1073741824) : ∃ q, (∀ c, pIdx 1 v (nn i) c = c q) ∧ ∀ c, pLd q S c = c (nn x) := by
  have h1 := (List.getElem?_eq_some_iff.1 hi).1
  unfold Row at h
  split at h
  · rename_i id off len cap
    obtain ⟨rfl, b, h2, t, h3⟩ := h
    refine ⟨.p id (off + i * 1), fun c => ?_, fun c => pLd_eq h2 (by rw [Nat.mul_one]; exact drop_get h3 hi) c⟩
    show gu (Bool.not (neg .i64 i)) (gu (Nat.blt i l.length) (fN (Nat.add off (Nat.mul i 1)) (fun o => c (.p id o)))) = _
    rw [neg_n (by omega), blt_eq, decide_eq_true h1, fN_eq]; rfl
  · rename_i id off len cap sz
    obtain ⟨rfl, rfl, b, h2, t, h3⟩ := h
    refine ⟨.p id (off + i * 1), fun c => ?_, fun c => pLd_eq h2 (by rw [Nat.mul_one]; exact drop_get h3 hi) c⟩
    show gu (Bool.not (neg .i64 i)) (gu (Nat.blt i l.length) (fN (Nat.add off (Nat.mul i 1)) (fun o => c (.p id o)))) = _
    rw [neg_n (by omega), blt_eq, decide_eq_true h1, fN_eq]; rfl
  · subst h; simp at hi
  · exact h.elim
theorem Has.row {id : Pos} {L t : List Nat} (h : Has S id (L ++ t)) (cap : Nat) : Row S (.sl id 0 L.length cap) L := by
  obtain ⟨n, h1, h2⟩ := h
  exact ⟨rfl, _, h1, t.map nn, by simp⟩
theorem putK_one : ∀ (l : List V) (n : Nat) (x : V) (k : List V → R), n < l.length → putK l n [x] k = k (l.set n x)
  | [], n, x, k, h => by simp at h
  | y :: l, 0, x, k, h => rfl
  | y :: l, n + 1, x, k, h => by
    show putK l n [x] (fun t => k (y :: t)) = _
    rw [putK_one l n x _ (by simpa using h)]; rfl
theorem pStn_eq {id : Pos} {b n : Nat} {cs : List V} {x : V} (h : S.h.get id = some ⟨b, cs⟩) (hb : S.fl ≤ b) (hx : ∀ k, cellsK x k = k [x]) (hn : n < cs.length) (c : St → R) : pSt 1 (.p id n) x S c = c (S.upd id ⟨b, cs.set n x⟩) := by
  show cellsK x (fun ys => lenL ys 0 (fun m => gu (Nat.beq m 1) (updK id S n ys c))) = _
  rw [hx]
  show updK id S n [x] c = _
  show getBK id S.h _ = _
  rw [getBK_eq _ _ _ _ h]
  show gu (Nat.ble S.fl b) _ = _
  rw [Nat.ble_eq_true_of_le hb]
  show putK cs n [x] (fun cs' => setBK id (.mk b cs') S.h (fun h' => c (.mk h' S.nx S.cnt S.fl))) = _
  rw [putK_one _ _ _ _ hn, setBK_eq]; rfl
theorem Has.get {id : Pos} {L : List Nat} (h : Has S id L) {i x : Nat} (hi : L[i]? = some x) (c : V → R) : pLd (.p id i) S c = c (nn x) := by
  obtain ⟨n, h1, h2⟩ := h
  exact pLd_eq h1 (by rw [List.getElem?_map, hi]; rfl) c
theorem Has.idx (id : Pos) {m k i : Nat} (hi : i < m) (hm : m ≤ 1073741824) (c : V → R) : pIdx 1 (.sl id 0 m k) (nn i) c = c (.p id i) := by
  show gu (Bool.not (neg .i64 i)) (gu (Nat.blt i m) (fN (Nat.add 0 (Nat.mul i 1)) (fun o => c (.p id o)))) = _
  rw [neg_n (by omega), blt_eq, decide_eq_true hi, fN_eq]
  show c (.p id (0 + i * 1)) = _
  rw [Nat.mul_one, Nat.zero_add]
theorem Has.idxo (id : Pos) {m k z i : Nat} (hi : i < m) (hm : m ≤ 1073741824) (c : V → R) : pIdx 1 (.so id 0 m k z) (nn i) c = c (.p id i) := by
  show gu (Bool.not (neg .i64 i)) (gu (Nat.blt i m) (fN (Nat.add 0 (Nat.mul i 1)) (fun o => c (.p id o)))) = _
  rw [neg_n (by omega), blt_eq, decide_eq_true hi, fN_eq]
  show c (.p id (0 + i * 1)) = _
  rw [Nat.mul_one, Nat.zero_add]
/-- what stays when one's own block is written -/
structure Kept (S S' : St) (id : Pos) : Prop where
  has : ∀ b B, b ≠ id → Has S b B → Has S' b B
  old : ∀ S0 : St, S0.cnt ≤ id.num → Old S0 S → Old S0 S'
  ok : SOK S → SOK S'
  fl : S'.fl = S.fl
theorem Kept.refl (id : Pos) : Kept S S id := ⟨fun _ _ _ h => h, fun _ _ h => h, fun h => h, rfl⟩
theorem Kept.trans {S1 S2 : St} {id : Pos} (a : Kept S S1 id) (b : Kept S1 S2 id) : Kept S S2 id :=
  ⟨fun c C h1 h2 => b.has c C h1 (a.has c C h1 h2), fun T h1 h2 => b.old T h1 (a.old T h1 h2), fun h => b.ok (a.ok h), b.fl.trans a.fl⟩
theorem Has.set {id : Pos} {L : List Nat} (h : Has S id L) {i : Nat} (hi : i < L.length) (x : Nat) : ∃ S', Has S' id (L.set i x) ∧ Kept S S' id ∧ ∀ c : St → R, pSt 1 (.p id i) (nn x) S c = c S' := by
  obtain ⟨n, h1, h2⟩ := h
  refine ⟨S.upd id ⟨n, (L.map nn).set i (nn x)⟩, ⟨n, by rw [St.upd_get, List.map_set], h2⟩, ⟨fun b B hb ⟨m, g1, g2⟩ => ⟨m, by rw [St.upd_get_ne _ hb]; exact g1, g2⟩, fun T hT ho q hq => ?_, fun ok => ?_, rfl⟩, fun c => pStn_eq h1 h2.1 (fun k => rfl) (by simpa using hi) c⟩
  · rw [St.upd_get_ne _ (fun e => by rw [e] at hq; omega)]; exact ho q hq
  · exact ok.upd h1 (.inl ⟨rfl, h2.2⟩)
theorem Has.new (ok : SOK S) (L : List Nat) : Has (S.new (L.map nn)) S.nx L := ⟨S.cnt, St.new_get _ _, ok.le, by have := ok.fl; have := ok.le; omega⟩
theorem Old.new (ok : SOK S) (cs : List V) (h : Old S0 S) (hc : S0.cnt ≤ S.cnt) : Old S0 (S.new cs) := fun id hi => by
  rw [St.new_get_ne _ (fun e => by rw [e, ok.nx] at hi; omega)]; exact h id hi
theorem Old.refl (S : St) : Old S S := fun _ _ => rfl
theorem Has.keep_new {id : Pos} {L : List Nat} (ok : SOK S) (cs : List V) (h : Has S id L) : Has (S.new cs) id L := by
  obtain ⟨n, h1, h2⟩ := h
  exact ⟨n, by rw [St.new_get_ne _ (ok.ne_nx h1)]; exact h1, h2⟩
theorem repK_one (z : V) : ∀ (n : Nat) (k : List V → R), repK [z] n k = k (List.replicate n z)
  | 0, k => rfl
  | n + 1, k => by
    show repK [z] n (fun t => appK [z] t k) = _
    rw [repK_one z n]; rfl
theorem pMks_eq {n : Nat} (hn : n ≤ 16777216) (S : St) (c : Cont) : pMks [.i .i64 0] (nn n) (nn n) S c = c (.sl S.nx 0 n n) (S.new ((List.replicate n 0).map nn)) := by
  show gu (Bool.and (Bool.and (Bool.not (neg .i64 n)) (Bool.not (neg .i64 n))) (Bool.and (Nat.ble n n) (Nat.ble n 16777216))) (repK [.i .i64 0] n (fun cs => newK cs S (fun nx S' => c (.sl nx 0 n n) S'))) = _
  rw [neg_n (by omega), Nat.ble_eq_true_of_le hn, Nat.ble_eq_true_of_le (Nat.le_refl n), repK_one, newK_eq, List.map_replicate]; rfl
theorem pDraw_eq (v : V) (S : St) (k : Cont) : pDraw (fun S k => k v S) S k = k v S := by cases S; rfl
theorem pDraw_of {f : Sem3} {v : V} (h : ∀ S k, f S k = k v S) (S : St) (k : Cont) : pDraw f S k = k v S := by
  rw [show f = fun S k => k v S from funext fun S => funext fun k => h S k]; exact pDraw_eq v S k
theorem pSlc_hm (id : Pos) {m c n : Nat} (hn : n ≤ m) (hm : m ≤ c) (hc : c ≤ 1073741824) (k : V → R) : pSlc 1 (.sl id 0 m c) none (some (nn n)) (some (nn n)) k = k (.sl id 0 n n) := by
  show gu (Bool.not (neg .i64 n)) (gu (Nat.ble n c) (gu (Bool.not (neg .i64 n)) (gu (Nat.ble n n) (gu (Nat.ble 0 n) (fN (cut 1 0 0 n) (fun o => fN (Nat.sub n 0) (fun n' => fN (Nat.sub n 0) (fun q => k (.sl id o n' q))))))))) = _
  rw [neg_n (by omega), Nat.ble_eq_true_of_le (by omega), Nat.ble_eq_true_of_le (Nat.le_refl n), Nat.ble_eq_true_of_le (Nat.zero_le n)]
  simp only [fN_eq]
  show k (.sl id (cut 1 0 0 n) (n - 0) (n - 0)) = _
  rw [show cut 1 0 0 n = 0 by unfold cut; cases Nat.beq n 0 <;> rfl, Nat.sub_zero]
/-- the length without the zeros at the end -/
def trimN (l : List Nat) : Nat → Nat
  | 0 => 0
  | n + 1 => bif Nat.beq (l.getD n 0) 0 then trimN l n else n + 1
theorem trimN_le (l : List Nat) : ∀ n, trimN l n ≤ n
  | 0 => Nat.le_refl _
  | n + 1 => by
    have := trimN_le l n
    unfold trimN; cases Nat.beq (l.getD n 0) 0 <;> simp <;> omega
/-- small numbers -/
def Sm (l : List Nat) : Prop := ∀ x ∈ l, x < 65536
theorem Sm.get {l : List Nat} (h : Sm l) {i x : Nat} (hi : l[i]? = some x) : x < 65536 := h x (List.mem_of_getElem? hi)
theorem Sm.set {l : List Nat} (h : Sm l) (i : Nat) {x : Nat} (hx : x < 65536) : Sm (l.set i x) := fun y hy => by
  rcases List.mem_or_eq_of_mem_set hy with h1 | h1
  · exact h y h1
  · rw [h1]; exact hx
theorem getD_of {l : List Nat} {i : Nat} (h : i < l.length) : l[i]? = some (l.getD i 0) := by
  rw [List.getD_eq_getElem?_getD, List.getElem?_eq_getElem h]; rfl
end Go.AM

/- A law whose arguments lie in memory: the machine reads a copy of what the rows show. -/
namespace Go.AM
set_option linter.unusedVariables false
set_option linter.unusedSimpArgs false
noncomputable section
variable {P : Program} {out : V × St}
/-- where the blocks of the arguments lie -/
def rhoM (locs : List Loc) : Ren := fun id => locs[id.num - 1]?
theorem rhoM_some {locs : List Loc} {id : Pos} {L : Loc} (h : rhoM locs id = some L) : ∃ j, id.num = j + 1 ∧ locs[j]? = some L := by
  have := Pos.num_pos id
  exact ⟨id.num - 1, by omega, h⟩
theorem S0_cnt : S0.cnt = 1 := rfl
theorem mkS_sok' (bl : List (List V)) : SOK (mkS bl) ∧ (mkS bl).cnt = 1 + bl.length ∧ (mkS bl).fl = 1 + bl.length ∧ ∀ (j : Nat) (cs : List V), bl[j]? = some cs → ∀ q : Pos, q.num = j + 1 → (mkS bl).h.get q = some ⟨j + 1, cs⟩ := by
  obtain ⟨h1, h2, h3, h4, h5⟩ := layS_ok bl S0 S0_ok
  rw [S0_cnt] at h2 h5
  refine ⟨⟨h1.nx, Nat.le_trans h1.fl h1.le, Nat.le_refl _, h1.blk⟩, h2, h2, fun j cs hj q hq => ?_⟩
  have := h5 j cs hj q (by omega)
  rw [Nat.add_comm 1 j] at this
  exact this
/-- plain calls of a function whose arguments lie in memory -/
theorem top_callsM {f : Nat} {fn : Func} {np : Nat} {F : Gn np} (hf : P.funcs[f]? = some fn) (hb : fn.body.isSome = true) (hnm : (fn.name == "runtime.NumGoroutine") = false) (h : FOK P f (un np F)) (vs : List V) (args : Array Value) (w : World)
    (bl : List (List V)) (locs : List Loc) (hl : bl.length = locs.length) (hro : ∀ (j : Nat) (L : Loc), locs[j]? = some L → L.ro = true)
    (hc : ∀ (j : Nat) (cs : List V) (L : Loc), bl[j]? = some cs → locs[j]? = some L → HB (rhoM locs) L cs w)
    (ha : VRs (rhoM locs) vs args.toList) (hr : yesB (un np F vs (mkS bl) fun v S => some (v, S)) = true) : Calls P f args w fun e w' => e = .returned (.bool true) ∧ Go.RowKit.Below w.heap.size w w' := by
  obtain ⟨S, hS⟩ := yesB_some hr
  obtain ⟨ok, cnt, fl, get⟩ := mkS_sok' bl
  obtain ⟨v, S', h1, h2, h3⟩ := h vs (mkS bl) _ _ ok hS
  cases h1
  have hh : HRel (rhoM locs) (mkS bl) w := by
    refine ⟨fun id L b h hb h0 => ?_, fun id id' L L' b b' h h' _ _ _ _ _ hq => ?_, fun id L h _ => ?_⟩
    · obtain ⟨j, hn, hj⟩ := rhoM_some h
      have hlt := (List.getElem?_eq_some_iff.1 hj).1
      obtain ⟨cs, hcs⟩ : ∃ cs, bl[j]? = some cs := ⟨_, List.getElem?_eq_getElem (by omega)⟩
      rw [get j cs hcs id hn] at hb
      cases hb
      exact hc j cs L hcs hj
    · obtain ⟨j, _, hj⟩ := rhoM_some h
      obtain ⟨j', _, hj'⟩ := rhoM_some h'
      rw [hro j L hj, hro j' L' hj'] at hq
      cases hq
    · obtain ⟨j, hn, hj⟩ := rhoM_some h
      have hlt := (List.getElem?_eq_some_iff.1 hj).1
      omega
  have hfr : Fresh (rhoM locs) (mkS bl).cnt S.cnt := fun id h1 _ => by
    rw [cnt] at h1
    exact List.getElem?_eq_none (by omega)
  have := h3 (rhoM locs) w args ha hh hfr
  rcases this with ⟨h4, h5⟩ | ⟨u, w', h4, h5⟩
  · exact h5.mono fun e w' ⟨u, he, ρ', p, q⟩ => ⟨by rw [he, q.b_inv], p.os, p.tape, p.output, p.size, fun k hk => p.frame k hk fun id L h h1 h2 => by rw [fl] at h1; rw [cnt] at h2; omega⟩
  · exfalso
    simp only [callFunc, Sem.run_bind, run_program, Result.andThen_ok, hf, hnm, Bool.false_eq_true, if_false] at h4
    obtain ⟨c, hc⟩ : ∃ c, fn.body = some c := by cases h : fn.body; rw [h] at hb; cases hb; exact ⟨_, rfl⟩
    simp only [hc, Option.isNone_some] at h4
    cases h4
end
end Go.AM
