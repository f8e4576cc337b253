/- The machine's memory: a new block, a load, a store, and the append in place, against the model's heap. -/
import Derived.Test.YtpendgpnikmohaaGreatX4
import Derived.Laws.Tables
namespace Go.AM
set_option linter.unusedVariables false
set_option linter.unusedSimpArgs false
variable {out : V × St} {ρ : Ren} {fl : Nat} {S : St} {w w' : World} {id : Pos} {L : Loc} {P : Program}
def St.new (S : St) (cs : List V) : St := ⟨S.h.set S.nx ⟨S.cnt, cs⟩, S.nx.succ, S.cnt + 1, S.fl⟩
def St.upd (S : St) (id : Pos) (b : Blk) : St := ⟨S.h.set id b, S.nx, S.cnt, S.fl⟩
theorem newK_eq (cs : List V) (S : St) (k : Pos → St → R) : newK cs S k = k S.nx (S.new cs) := by
  show setBK S.nx (.mk S.cnt cs) S.h _ = _
  rw [setBK_eq, succK_eq]; rfl
theorem cellsAt_some {k : List V → R} (h : cellsAt id S k = some out) : ∃ b, S.h.get id = some b ∧ k b.cs = some out := getBK_some id S.h _ h
theorem updK_some {off : Nat} {vs : List V} {k : St → R} (h : updK id S off vs k = some out) :
    ∃ b, S.h.get id = some b ∧ S.fl ≤ b.born ∧ off + vs.length ≤ b.cs.length ∧ k (S.upd id ⟨b.born, b.cs.take off ++ vs ++ b.cs.drop (off + vs.length)⟩) = some out := by
  obtain ⟨b, hb, h1⟩ := getBK_some id S.h _ h
  obtain ⟨h2, h3⟩ := gu_some h1
  obtain ⟨h4, h5⟩ := putK_some _ _ _ _ h3
  rw [setBK_eq] at h5
  exact ⟨b, hb, Nat.le_of_ble_eq_true h2, h4, h5⟩
theorem killK_some {k : St → R} (h : killK id S k = some out) : ∃ b, S.h.get id = some b ∧ S.fl ≤ b.born ∧ k (S.upd id ⟨0, []⟩) = some out := by
  obtain ⟨b, hb, h1⟩ := getBK_some id S.h _ h
  obtain ⟨h2, h3⟩ := gu_some h1
  rw [setBK_eq] at h3
  exact ⟨b, hb, Nat.le_of_ble_eq_true h2, h3⟩
theorem elems_some {sz off n : Nat} {k : List V → R} (h : elems sz id off n S k = some out) :
    ∃ b, S.h.get id = some b ∧ off + n * sz ≤ b.cs.length ∧ k ((b.cs.drop off).take (n * sz)) = some out := by
  obtain ⟨b, hb, h1⟩ := cellsAt_some h
  obtain ⟨h2, h3⟩ := dropK_some _ _ _ h1
  obtain ⟨h4, h5⟩ := takeK_some _ _ _ h3
  refine ⟨b, hb, ?_, h5⟩
  have : Nat.mul n sz = n * sz := rfl
  rw [this, List.length_drop] at h4; omega
noncomputable def Ren.up (ρ : Ren) (id : Pos) (L : Loc) : Ren := fun i => if i.num = id.num then some L else ρ i
theorem Ren.up_same (ρ : Ren) (id : Pos) (L : Loc) : ρ.up id L id = some L := by simp [Ren.up]
theorem Ren.up_ne (ρ : Ren) (L : Loc) {id i : Pos} (h : i.num ≠ id.num) : ρ.up id L i = ρ i := by simp [Ren.up, h]
theorem Ren.up_some {i : Pos} {L' : Loc} (h : ρ.up id L i = some L') : i = id ∧ L' = L ∨ i.num ≠ id.num ∧ ρ i = some L' := by
  unfold Ren.up at h
  split at h
  · exact .inl ⟨Pos.num_inj _ _ ‹_›, (Option.some.inj h).symm⟩
  · exact .inr ⟨‹_›, h⟩
theorem Ren.up_mono (hn : ρ id = none) : ∀ i L', ρ i = some L' → ρ.up id L i = some L' := fun i L' h => by
  rw [Ren.up_ne]; exact h
  intro e; rw [Pos.num_inj _ _ e, hn] at h; cases h
theorem St.new_get (S : St) (cs : List V) : (S.new cs).h.get S.nx = some ⟨S.cnt, cs⟩ := Tr.get_set _ _ _
theorem St.new_get_ne {i : Pos} (cs : List V) (h : i ≠ S.nx) : (S.new cs).h.get i = S.h.get i := Tr.get_set_ne _ _ _ _ (Ne.symm h)
theorem St.upd_get (S : St) (b : Blk) : (S.upd id b).h.get id = some b := Tr.get_set _ _ _
theorem St.upd_get_ne {i : Pos} (b : Blk) (h : i ≠ id) : (S.upd id b).h.get i = S.h.get i := Tr.get_set_ne _ _ _ _ (Ne.symm h)
theorem SOK.new (ok : SOK S) (cs : List V) : SOK (S.new cs) where
  nx := by show S.nx.succ.num = S.cnt + 1; rw [Pos.num_succ, ok.nx]
  fl := ok.fl
  le := Nat.le_succ_of_le ok.le
  blk i b h := by
    by_cases hi : i = S.nx
    · subst hi; rw [St.new_get] at h; cases h; exact ⟨by show S.nx.num < S.cnt + 1; rw [ok.nx]; omega, .inl ok.nx.symm⟩
    · rw [St.new_get_ne cs hi] at h; obtain ⟨h1, h2⟩ := ok.blk i b h; exact ⟨Nat.lt_succ_of_lt h1, h2⟩
theorem SOK.upd (ok : SOK S) {b b' : Blk} (hb : S.h.get id = some b) (hb' : b'.born = b.born ∧ b.born ≠ 0 ∨ b'.born = 0 ∧ b'.cs = []) : SOK (S.upd id b') where
  nx := ok.nx
  fl := ok.fl
  le := ok.le
  blk i x h := by
    by_cases hi : i = id
    · subst hi; rw [St.upd_get] at h; cases h
      obtain ⟨h1, h2⟩ := ok.blk _ _ hb
      refine ⟨h1, ?_⟩
      rcases hb' with ⟨h3, h4⟩ | h3
      · rcases h2 with h2 | ⟨h2, _⟩
        · exact .inl (h3.trans h2)
        · exact absurd h2 h4
      · exact .inr h3
    · rw [St.upd_get_ne b' hi] at h; exact ok.blk i x h
theorem SOK.ne_nx (ok : SOK S) {i : Pos} {b : Blk} (h : S.h.get i = some b) : i ≠ S.nx := fun e => by
  have := (ok.blk i b h).1; rw [e, ok.nx] at this; omega
theorem SOK.born (ok : SOK S) {b : Blk} (h : S.h.get id = some b) (hf : S.fl ≤ b.born) : b.born = id.num ∧ b.born ≠ 0 ∧ S.fl ≤ id.num ∧ id.num < S.cnt := by
  have h1 := ok.fl
  obtain ⟨h2, h3⟩ := ok.blk id b h
  rcases h3 with h3 | ⟨h3, _⟩ <;> omega
theorem Abs.new (hf : fl ≤ S.cnt) (cs : List V) (ok : SOK S) : Abs fl S (S.new cs) :=
  ⟨Nat.le_succ _, rfl, fun ok => ok.new cs, fun i hi => St.new_get_ne cs fun e => by rw [e, ok.nx] at hi; omega⟩
theorem Abs.upd (ok : SOK S) {b b' : Blk} (hb : S.h.get id = some b) (hf : S.fl ≤ b.born) (hb' : b'.born = b.born ∨ b'.born = 0 ∧ b'.cs = []) : Abs S.fl S (S.upd id b') :=
  ⟨Nat.le_refl _, rfl, fun ok => ok.upd hb (hb'.imp (fun h => ⟨h, (ok.born hb hf).2.1⟩) fun h => h), fun i hi => St.upd_get_ne b' fun e => by
    have := (ok.born hb hf).2.2.1; rw [e] at hi; omega⟩
/-- A new block. -/
theorem new_post (ok : SOK S) (h : HRel ρ S w) (hn : ρ S.nx = none) {c : Array Value} {e : TypeId} {fr : Nat × Nat} {cs : List V}
    (hh : w'.heap = w.heap.push (.cells c e fr)) (hos : w'.os = w.os) (htp : w'.tape = w.tape) (hou : w'.output = w.output) (hfr : Thaw c.size fr) (hl : cs.length ≤ c.size)
    (hc : ∀ (i : Nat) (v : V), cs[i]? = some v → ∃ u, c[i]? = some u ∧ VR ρ v u ∧ v.one = true) :
    Post ρ fl S (S.new cs) w w' (ρ.up S.nx ⟨w.heap.size, 0, c.size⟩) where
  ext i hi := Ren.up_ne _ _ (by rw [ok.nx]; have : (S.new cs).cnt = S.cnt + 1 := rfl; omega)
  os := hos
  tape := htp
  output := hou
  size := by rw [hh]; simp
  frame k hk _ := by rw [hh, Array.getElem?_push, if_neg (by omega)]
  new i L' a b hL := by
    rcases Ren.up_some hL with ⟨_, rfl⟩ | ⟨h1, _⟩
    · exact .inl (Nat.le_refl _)
    · rw [ok.nx] at h1; have : (S.new cs).cnt = S.cnt + 1 := rfl; omega
  heap := by
    have mono := Ren.up_mono (L := ⟨w.heap.size, 0, c.size⟩) hn
    refine ⟨fun i L' hL => ?_, fun i L' b hL hb h0 => ?_, fun i i' L1 L2 b b' hL hL' hb hb' h0 h0' he => ?_⟩
    · rcases Ren.up_some hL with ⟨_, rfl⟩ | ⟨_, h2⟩
      · rw [hh]; simp
      · have := h.at_ i L' h2; rw [hh]; simp; omega
    · rcases Ren.up_some hL with ⟨rfl, rfl⟩ | ⟨h1, h2⟩
      · rw [St.new_get] at hb; cases hb
        refine ⟨c, e, fr, by rw [hh]; simp, rfl, hfr, by simpa using hl, fun i v hv => ?_⟩
        obtain ⟨u, h1, h2, h3⟩ := hc i v hv
        exact ⟨u, by simpa using h1, h2.mono mono, h3⟩
      · rw [St.new_get_ne cs (fun e => h1 (by rw [e]))] at hb
        obtain ⟨c', e', fr', h3, h4, h5, h6, h7⟩ := h.cells i L' b h2 hb h0
        refine ⟨c', e', fr', by rw [hh, Array.getElem?_push, if_neg (by have := h.at_ i L' h2; omega)]; exact h3, h4, h5, h6, fun j v hv => ?_⟩
        obtain ⟨u, a1, a2, a3⟩ := h7 j v hv
        exact ⟨u, a1, a2.mono mono, a3⟩
    · rcases Ren.up_some hL with ⟨rfl, rfl⟩ | ⟨h1, h2⟩ <;> rcases Ren.up_some hL' with ⟨rfl, rfl⟩ | ⟨h1', h2'⟩
      · rfl
      · have := h.at_ i' L2 h2'; exact absurd he (by simp; omega)
      · have := h.at_ i L1 h2; exact absurd he (by simp; omega)
      · rw [St.new_get_ne cs (fun e => h1 (by rw [e]))] at hb
        rw [St.new_get_ne cs (fun e => h1' (by rw [e]))] at hb'
        exact h.inj i i' L1 L2 b b' h2 h2' hb hb' h0 h0' he
/-- A cell. -/
theorem load_cell (ok : SOK S) (h : HRel ρ S w) (hL : ρ id = some L) {b : Blk} (hb : S.h.get id = some b) {i : Nat} {v : V} (hi : b.cs[i]? = some v) :
    ∃ u, w.cell? ⟨L.b, L.d + i, none⟩ = some u ∧ VR ρ v u ∧ v.one = true := by
  have h0 : b.born ≠ 0 := fun e => by
    rcases (ok.blk id b hb).2 with h1 | ⟨_, h1⟩
    · have := Pos.num_pos id; omega
    · rw [h1] at hi; simp at hi
  obtain ⟨c, e, fr, h1, h2, h3, h4, h5⟩ := h.cells id L b hL hb h0
  obtain ⟨u, a1, a2, a3⟩ := h5 i v hi
  exact ⟨u, by simp [World.cell?, h1, a1], a2, a3⟩
/-- Some cells in a row. -/
theorem load_cells (ok : SOK S) (h : HRel ρ S w) (hL : ρ id = some L) {b : Blk} (hb : S.h.get id = some b) {off n o : Nat} (hn : off + n ≤ b.cs.length) (ho : 0 < n → o = L.d + off) :
    ∃ us, VRs ρ ((b.cs.drop off).take n) us ∧ us.length = n ∧ (∀ v ∈ (b.cs.drop off).take n, v.one = true) ∧ ∀ j u, us[j]? = some u → w.cell? ((⟨L.b, o, none⟩ : Addr).add j) = some u := by
  have each : ∀ j, j < n → ∃ u, w.cell? ⟨L.b, L.d + (off + j), none⟩ = some u ∧ (∀ v, b.cs[off + j]? = some v → VR ρ v u ∧ v.one = true) := fun j hj => by
    have hlt : off + j < b.cs.length := by omega
    obtain ⟨u, h1, h2, h3⟩ := load_cell ok h hL hb (List.getElem?_eq_getElem hlt)
    refine ⟨u, h1, fun v hv => ?_⟩
    rw [List.getElem?_eq_getElem hlt] at hv; cases hv; exact ⟨h2, h3⟩
  let F : Nat → Value := fun j => (w.cell? ⟨L.b, L.d + (off + j), none⟩).getD undef
  have hF : ∀ j, j < n → w.cell? ⟨L.b, L.d + (off + j), none⟩ = some (F j) ∧ (∀ v, b.cs[off + j]? = some v → VR ρ v (F j) ∧ v.one = true) := fun j hj => by
    obtain ⟨u, h1, h2⟩ := each j hj
    have : F j = u := by simp [F, h1]
    rw [this]; exact ⟨h1, h2⟩
  have hlen : ((b.cs.drop off).take n).length = n := by simp; omega
  have idx : ∀ (j : Nat) (v : V), ((b.cs.drop off).take n)[j]? = some v → j < n ∧ b.cs[off + j]? = some v := fun j v hj => by
    have hlt : j < n := by have := (List.getElem?_eq_some_iff.1 hj).1; omega
    rw [List.getElem?_take_of_lt hlt, List.getElem?_drop] at hj
    exact ⟨hlt, hj⟩
  refine ⟨(List.range n).map F, VRs.of_get (by rw [hlen]; simp) fun j v u hj hu => ?_, by simp, fun v hv => ?_, fun j u hu => ?_⟩
  · obtain ⟨hlt, hj'⟩ := idx j v hj
    have : u = F j := by simpa [List.getElem?_map, List.getElem?_range hlt] using hu.symm
    rw [this]; exact ((hF j hlt).2 v hj').1
  · obtain ⟨j, hj, rfl⟩ := List.getElem_of_mem hv
    obtain ⟨hlt, hj'⟩ := idx j _ (List.getElem?_eq_getElem hj)
    exact ((hF j hlt).2 _ hj').2
  · have hlt : j < n := by have := (List.getElem?_eq_some_iff.1 hu).1; simpa using this
    have : u = F j := by simpa [List.getElem?_map, List.getElem?_range hlt] using hu.symm
    rw [this, ho (by omega)]
    have hadd : (⟨L.b, L.d + off, none⟩ : Addr).add j = ⟨L.b, L.d + (off + j), none⟩ := by
      unfold Addr.add; split
      · subst j; rfl
      · simp; omega
    rw [hadd]; exact (hF j hlt).1
/-- The model's stores into a row. -/
theorem run_stores (b o : Nat) (e : TypeId) (fr : Nat × Nat) : ∀ (us : List Value) (i : Nat) (c : Array Value) (w : World), w.heap[b]? = some (.cells c e fr) → Thaw c.size fr → o + i + us.length ≤ c.size → (∀ u ∈ us, u.oneCell' = true) →
    ∃ (w' : World) (c' : Array Value), (storeCells ⟨b, o, none⟩ us i).run P w = .ok () w' ∧ w'.heap[b]? = some (.cells c' e fr) ∧ (∀ k, k ≠ b → w'.heap[k]? = w.heap[k]?) ∧ w'.heap.size = w.heap.size ∧ w'.os = w.os ∧ w'.tape = w.tape ∧ w'.output = w.output ∧
      c'.size = c.size ∧ (∀ j, j < us.length → c'[o + i + j]? = us[j]?) ∧ ∀ j, (j < o + i ∨ o + i + us.length ≤ j) → c'[j]? = c[j]?
  | [], i, c, w, hb, _, _, _ => ⟨w, c, rfl, hb, fun _ _ => rfl, rfl, rfl, rfl, rfl, rfl, fun j hj => absurd hj (by simp), fun _ _ => rfl⟩
  | u :: us, i, c, w, hb, hfr, hl, h1 => by
    have hi : o + i < c.size := by simp at hl; omega
    have hlt : b < w.heap.size := (Array.getElem?_eq_some_iff.1 hb).1
    have hadd : (⟨b, o, none⟩ : Addr).add i = ⟨b, o + i, none⟩ := by unfold Addr.add; split <;> simp_all
    have hcell : w.cell? ⟨b, o + i, none⟩ = some c[o + i] := by simp [World.cell?, hb, hi]
    have hfro : w.frozen? ⟨b, o + i, none⟩ = false := by
      have := hfr (o + i) hi
      simp only [World.frozen?, hb]
      simp only [Bool.and_eq_false_iff, decide_eq_false_iff_not]
      by_cases h : fr.1 ≤ o + i
      · exact .inr fun h2 => this ⟨h, h2⟩
      · exact .inl h
    have hst : (store ((⟨b, o, none⟩ : Addr).add i) u).run P w = .ok () (w.setCell ⟨b, o + i, none⟩ u) := by
      rw [hadd, run_store P w _ u _ (h1 u (by simp)), hcell]; simp [hfro]
    have hb1 : (w.setCell ⟨b, o + i, none⟩ u).heap[b]? = some (.cells (c.setIfInBounds (o + i) u) e fr) := by
      simp [World.setCell, Array.getElem?_modify, hb]
    obtain ⟨w', c', r1, r2, r3, r4, r5, r6, r7, r8, r9, r10⟩ := run_stores b o e fr us (i + 1) (c.setIfInBounds (o + i) u) (w.setCell ⟨b, o + i, none⟩ u) hb1 (by simpa using hfr) (by simp at hl ⊢; omega) (fun x hx => h1 x (by simp [hx]))
    refine ⟨w', c', ?_, r2, fun k hk => ?_, by rw [r4]; simp [World.setCell], r5, r6, r7, by rw [r8]; simp, fun j hj => ?_, fun j hj => ?_⟩
    · simp only [storeCells, Sem.run_bind, hst, Result.andThen_ok]; exact r1
    · rw [r3 k hk]; simp [World.setCell, Array.getElem?_modify, Ne.symm hk]
    · cases j with
      | zero => rw [r10 (o + i + 0) (.inl (by omega))]; simp [hi]
      | succ j => rw [show o + i + (j + 1) = o + (i + 1) + j by omega, r9 j (by simpa using hj)]; simp
    · rw [r10 j (by simp at hj; omega)]; rw [Array.getElem?_setIfInBounds_ne (by simp at hj; omega)]
/-- A store. -/
theorem store_post (ok : SOK S) (h : HRel ρ S w) (hL : ρ id = some L) {b : Blk} (hb : S.h.get id = some b) (hf : S.fl ≤ b.born) {off o : Nat} {vs : List V} {us : List Value} (hv : VRs ρ vs us) (h1 : ∀ v ∈ vs, v.one = true)
    (hl : off + vs.length ≤ b.cs.length) (ho : 0 < vs.length → o = L.d + off) :
    ∃ w', (storeCells ⟨L.b, o, none⟩ us).run P w = .ok () w' ∧ Post ρ S.fl S (S.upd id ⟨b.born, b.cs.take off ++ vs ++ b.cs.drop (off + vs.length)⟩) w w' ρ := by
  obtain ⟨hbn, h0, hfi, hci⟩ := ok.born hb hf
  have hlen := hv.length
  by_cases hz : vs.length = 0
  · have e1 : vs = [] := List.length_eq_zero_iff.1 hz
    have e2 : us = [] := List.length_eq_zero_iff.1 (by omega)
    subst e1 e2
    refine ⟨w, rfl, fun _ _ => rfl, ⟨h.at_, fun i L' x hL' hx hx0 => ?_, fun i i' L1 L2 x x' a1 a2 a3 a4 a5 a6 a7 => ?_⟩, rfl, rfl, rfl, Nat.le_refl _, fun _ _ _ => rfl, fun i L' a c _ => ?_⟩
    · by_cases hi : i = id
      · subst hi; rw [St.upd_get] at hx; cases hx; simp only [List.append_nil, List.length_nil, Nat.add_zero, List.take_append_drop]; exact h.cells _ _ _ hL' hb h0
      · rw [St.upd_get_ne _ hi] at hx; exact h.cells i L' x hL' hx hx0
    · by_cases hi : i = id <;> by_cases hi' : i' = id
      · rw [hi, hi']
      · subst hi; rw [St.upd_get_ne _ hi'] at a4; exact h.inj _ _ L1 L2 b x' a1 a2 hb a4 h0 a6 a7
      · subst hi'; rw [St.upd_get_ne _ hi] at a3; exact h.inj _ _ L1 L2 x b a1 a2 a3 hb a5 h0 a7
      · rw [St.upd_get_ne _ hi] at a3; rw [St.upd_get_ne _ hi'] at a4; exact h.inj i i' L1 L2 x x' a1 a2 a3 a4 a5 a6 a7
    · have : (S.upd id ⟨b.born, b.cs.take off ++ [] ++ b.cs.drop (off + ([] : List V).length)⟩).cnt = S.cnt := rfl
      omega
  · obtain ⟨c, e, fr, c1, c2, c3, c4, c5⟩ := h.cells id L b hL hb h0
    rw [ho (by omega)]
    obtain ⟨w', c', r1, r2, r3, r4, r5, r6, r7, r8, r9, r10⟩ := run_stores (P := P) L.b (L.d + off) e fr us 0 c w c1 c3 (by omega) (hv.one h1)
    refine ⟨w', r1, fun _ _ => rfl, ⟨fun i L' hL' => by rw [r4]; exact h.at_ i L' hL', fun i L' x hL' hx hx0 => ?_, fun i i' L1 L2 x x' a1 a2 a3 a4 a5 a6 a7 => ?_⟩, r5, r6, r7, by omega, fun k hk hh => r3 k fun e => hh id L hL hfi hci e.symm, fun i L' a d _ => ?_⟩
    · by_cases hi : i = id
      · subst hi; rw [St.upd_get] at hx; cases hx; rw [hL] at hL'; cases hL'
        refine ⟨c', e, fr, r2, r8.trans c2, by rw [r8]; exact c3, by simp; omega, fun j v hj => ?_⟩
        have htl : (b.cs.take off).length = off := by simp; omega
        rcases Nat.lt_or_ge j off with hj1 | hj1
        · rw [List.append_assoc, List.getElem?_append_left (by omega), List.getElem?_take_of_lt hj1] at hj
          obtain ⟨u, a1, a2, a3⟩ := c5 j v hj
          exact ⟨u, by rw [r10 _ (.inl (by omega))]; exact a1, a2, a3⟩
        · rcases Nat.lt_or_ge j (off + vs.length) with hj2 | hj2
          · rw [List.append_assoc, List.getElem?_append_right (by omega), htl, List.getElem?_append_left (by omega)] at hj
            obtain ⟨u, a1, a2⟩ := hv.get hj
            refine ⟨u, ?_, a2, h1 v (List.mem_of_getElem? hj)⟩
            have := r9 (j - off) (by omega)
            rw [show L.d + off + 0 + (j - off) = L.d + j by omega] at this
            rw [this]; exact a1
          · rw [List.getElem?_append_right (by simp; omega), List.getElem?_drop] at hj
            rw [show off + vs.length + (j - (b.cs.take off ++ vs).length) = j by simp; omega] at hj
            obtain ⟨u, a1, a2, a3⟩ := c5 j v hj
            exact ⟨u, by rw [r10 _ (.inr (by omega))]; exact a1, a2, a3⟩
      · rw [St.upd_get_ne _ hi] at hx
        obtain ⟨d, e', fr', d1, d2, d3, d4, d5⟩ := h.cells i L' x hL' hx hx0
        have hne : L'.b ≠ L.b := fun e => hi (h.inj i id L' L x b hL' hL hx hb hx0 h0 e)
        exact ⟨d, e', fr', by rw [r3 _ hne]; exact d1, d2, d3, d4, d5⟩
    · by_cases hi : i = id <;> by_cases hi' : i' = id
      · rw [hi, hi']
      · subst hi; rw [St.upd_get_ne _ hi'] at a4; exact h.inj _ _ L1 L2 b x' a1 a2 hb a4 h0 a6 a7
      · subst hi'; rw [St.upd_get_ne _ hi] at a3; exact h.inj _ _ L1 L2 x b a1 a2 a3 hb a5 h0 a7
      · rw [St.upd_get_ne _ hi] at a3; rw [St.upd_get_ne _ hi'] at a4; exact h.inj i i' L1 L2 x x' a1 a2 a3 a4 a5 a6 a7
    · have : (S.upd id ⟨b.born, b.cs.take off ++ vs ++ b.cs.drop (off + vs.length)⟩).cnt = S.cnt := rfl
      omega
/-- A block given up. -/
theorem kill_post (ok : SOK S) (h : HRel ρ S w) {b : Blk} (hb : S.h.get id = some b) : Post ρ fl S (S.upd id ⟨0, []⟩) w w ρ := by
  refine ⟨fun _ _ => rfl, ⟨h.at_, fun i L' x hL' hx hx0 => ?_, fun i i' L1 L2 x x' a1 a2 a3 a4 a5 a6 a7 => ?_⟩, rfl, rfl, rfl, Nat.le_refl _, fun _ _ _ => rfl, fun i L' a c _ => ?_⟩
  · by_cases hi : i = id
    · subst hi; rw [St.upd_get] at hx; cases hx; exact absurd rfl hx0
    · rw [St.upd_get_ne _ hi] at hx; exact h.cells i L' x hL' hx hx0
  · by_cases hi : i = id
    · subst hi; rw [St.upd_get] at a3; cases a3; exact absurd rfl a5
    · by_cases hi' : i' = id
      · subst hi'; rw [St.upd_get] at a4; cases a4; exact absurd rfl a6
      · rw [St.upd_get_ne _ hi] at a3; rw [St.upd_get_ne _ hi'] at a4; exact h.inj i i' L1 L2 x x' a1 a2 a3 a4 a5 a6 a7
  · have : (S.upd id ⟨0, []⟩).cnt = S.cnt := rfl
    omega
/-- An append in place, behind the end that the machine knows: the old block is given up, the new one lies where it lay. -/
theorem grow_post (ok : SOK S) (h : HRel ρ S w) (hL : ρ id = some L) (hn : ρ S.nx = none) {b : Blk} (hb : S.h.get id = some b) (hf : S.fl ≤ b.born) {off o n : Nat} {vs : List V} {us : List Value} (hv : VRs ρ vs us) (h1 : ∀ v ∈ vs, v.one = true)
    (hl : off + n ≤ b.cs.length) (ho : 0 < n → o = L.d + off) (hroom : o + n + vs.length ≤ L.sz) :
    ∃ w', (storeCells ⟨L.b, o + n, none⟩ us).run P w = .ok () w' ∧ Post ρ S.fl S ((S.upd id ⟨0, []⟩).new ((b.cs.drop off).take n ++ vs)) w w' (ρ.up S.nx ⟨L.b, o, L.sz⟩) := by
  obtain ⟨hbn, h0, hfi, hci⟩ := ok.born hb hf
  obtain ⟨c, e, fr, c1, c2, c3, c4, c5⟩ := h.cells id L b hL hb h0
  have hlen := hv.length
  obtain ⟨w', c', r1, r2, r3, r4, r5, r6, r7, r8, r9, r10⟩ := run_stores (P := P) L.b (o + n) e fr us 0 c w c1 c3 (by omega) (hv.one h1)
  have mono := Ren.up_mono (L := ⟨L.b, o, L.sz⟩) hn
  have hne : id ≠ S.nx := ok.ne_nx hb
  have hcnt : ((S.upd id ⟨0, []⟩).new ((b.cs.drop off).take n ++ vs)).cnt = S.cnt + 1 := rfl
  have hnx : (S.upd id ⟨0, []⟩).nx = S.nx := rfl
  have olds : ∀ i x, i ≠ S.nx → ((S.upd id ⟨0, []⟩).new ((b.cs.drop off).take n ++ vs)).h.get i = some x → x.born ≠ 0 → i ≠ id ∧ S.h.get i = some x := fun i x hi hx hx0 => by
    rw [St.new_get_ne _ (by rw [hnx]; exact hi)] at hx
    by_cases hii : i = id
    · subst hii; rw [St.upd_get] at hx; cases hx; exact absurd rfl hx0
    · rw [St.upd_get_ne _ hii] at hx; exact ⟨hii, hx⟩
  refine ⟨w', r1, fun i hi => Ren.up_ne _ _ (by rw [ok.nx]; omega), ⟨fun i L' hL' => ?_, fun i L' x hL' hx hx0 => ?_, fun i i' L1 L2 x x' a1 a2 a3 a4 a5 a6 a7 => ?_⟩, r5, r6, r7, by omega, fun k hk hh => r3 k fun e => hh id L hL hfi hci e.symm, fun i L' a d hL' => ?_⟩
  · rw [r4]
    rcases Ren.up_some hL' with ⟨_, rfl⟩ | ⟨_, h2⟩
    · exact h.at_ id L hL
    · exact h.at_ i L' h2
  · rcases Ren.up_some hL' with ⟨rfl, rfl⟩ | ⟨h2, h3⟩
    · have hx' := St.new_get (S.upd id ⟨0, []⟩) ((b.cs.drop off).take n ++ vs)
      rw [hnx] at hx'; rw [hx'] at hx; cases hx
      have htl : ((b.cs.drop off).take n).length = n := by simp; omega
      refine ⟨c', e, fr, r2, r8.trans c2, by rw [r8]; exact c3, by simp; omega, fun j v hj => ?_⟩
      rcases Nat.lt_or_ge j n with hj1 | hj1
      · rw [List.getElem?_append_left (by omega), List.getElem?_take_of_lt hj1, List.getElem?_drop] at hj
        obtain ⟨u, a1, a2, a3⟩ := c5 (off + j) v hj
        refine ⟨u, ?_, a2.mono mono, a3⟩
        show c'[o + j]? = some u
        rw [r10 _ (.inl (by omega)), ho (by omega), Nat.add_assoc]; exact a1
      · rw [List.getElem?_append_right (by omega), htl] at hj
        obtain ⟨u, a1, a2⟩ := hv.get hj
        refine ⟨u, ?_, a2.mono mono, h1 v (List.mem_of_getElem? hj)⟩
        have hjl : j - n < us.length := (List.getElem?_eq_some_iff.1 a1).1
        have := r9 (j - n) hjl
        rw [show o + n + 0 + (j - n) = o + j by omega] at this
        show c'[o + j]? = some u
        rw [this]; exact a1
    · obtain ⟨h4, h5⟩ := olds i x (fun e => h2 (by rw [e])) hx hx0
      obtain ⟨d, e', fr', d1, d2, d3, d4, d5⟩ := h.cells i L' x h3 h5 hx0
      have hneb : L'.b ≠ L.b := fun e => h4 (h.inj i id L' L x b h3 hL h5 hb hx0 h0 e)
      refine ⟨d, e', fr', by rw [r3 _ hneb]; exact d1, d2, d3, d4, fun j v hj => ?_⟩
      obtain ⟨u, a1, a2, a3⟩ := d5 j v hj
      exact ⟨u, a1, a2.mono mono, a3⟩
  · rcases Ren.up_some a1 with ⟨rfl, rfl⟩ | ⟨b1, b2⟩ <;> rcases Ren.up_some a2 with ⟨rfl, rfl⟩ | ⟨b1', b2'⟩
    · rfl
    · obtain ⟨h4, h5⟩ := olds i' x' (fun e => b1' (by rw [e])) a4 a6
      exact absurd (h.inj i' id L2 L x' b b2' hL h5 hb a6 h0 a7.symm) h4
    · obtain ⟨h4, h5⟩ := olds i x (fun e => b1 (by rw [e])) a3 a5
      exact absurd (h.inj i id L1 L x b b2 hL h5 hb a5 h0 a7) h4
    · obtain ⟨h4, h5⟩ := olds i x (fun e => b1 (by rw [e])) a3 a5
      obtain ⟨h4', h5'⟩ := olds i' x' (fun e => b1' (by rw [e])) a4 a6
      exact h.inj i i' L1 L2 x x' b2 b2' h5 h5' a5 a6 a7
  · rcases Ren.up_some hL' with ⟨_, rfl⟩ | ⟨b1, _⟩
    · exact .inr ⟨id, L, hL, hfi, hci, rfl⟩
    · rw [ok.nx] at b1; omega
end Go.AM
