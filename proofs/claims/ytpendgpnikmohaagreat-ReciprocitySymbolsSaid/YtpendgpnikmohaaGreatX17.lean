/- A region that draws its order: every order. -/
import Derived.Test.YtpendgpnikmohaaGreatX16
namespace Go.AM
set_option linter.unusedVariables false
set_option linter.unusedSimpArgs false
variable {P : Program} {all : List Oper} {G : Nat → Env} {T : Nat → St} {vv : Nat → V}
/-- what an operation does to the model's memory, without the memory's own relation -/
structure Post0 (ρ : Ren) (fl : Nat) (S S' : St) (w w' : World) (ρ' : Ren) : Prop where
  ext : ∀ id : Pos, id.num < S.cnt ∨ S'.cnt ≤ id.num → ρ' id = ρ id
  os : w'.os = w.os
  tape : w'.tape = w.tape
  output : w'.output = w.output
  size : w.heap.size ≤ w'.heap.size
  frame : ∀ k, k < w.heap.size → (∀ id L, ρ id = some L → fl ≤ id.num → id.num < S.cnt → L.b ≠ k) → w'.heap[k]? = w.heap[k]?
  new : ∀ id L, S.cnt ≤ id.num → id.num < S'.cnt → ρ' id = some L → w.heap.size ≤ L.b ∨ ∃ id0 L0, ρ id0 = some L0 ∧ fl ≤ id0.num ∧ id0.num < S.cnt ∧ L0.b = L.b
theorem Post.p0 {ρ ρ' : Ren} {fl : Nat} {S S' : St} {w w' : World} (p : Post ρ fl S S' w w' ρ') : Post0 ρ fl S S' w w' ρ' := ⟨p.ext, p.os, p.tape, p.output, p.size, p.frame, p.new⟩
theorem Post0.refl {ρ : Ren} {fl : Nat} {S : St} {w : World} : Post0 ρ fl S S w w ρ := ⟨fun _ _ => rfl, rfl, rfl, rfl, Nat.le_refl _, fun _ _ _ => rfl, fun id L a b _ => by omega⟩
theorem Post0.mono {ρ ρ1 : Ren} {fl : Nat} {S S1 : St} {w w1 : World} (p : Post0 ρ fl S S1 w w1 ρ1) (f : Fresh ρ S.cnt S1.cnt) : ∀ id L, ρ id = some L → ρ1 id = some L := fun id L h => by
  rcases Nat.lt_or_ge id.num S.cnt with h1 | h1
  · rw [p.ext id (.inl h1)]; exact h
  · rcases Nat.lt_or_ge id.num S1.cnt with h2 | h2
    · rw [f id h1 h2] at h; cases h
    · rw [p.ext id (.inr h2)]; exact h
def Ls (ls : Array Bool) (j : Nat) : Prop := ls.getD j false = true
theorem Ls.set {ls : Array Bool} {i j : Nat} (hi : i < ls.size) : Ls (ls.setIfInBounds i true) j ↔ j = i ∨ Ls ls j := by
  unfold Ls
  rw [Array.getD_eq_getD_getElem?, Array.getD_eq_getD_getElem?, Array.getElem?_setIfInBounds]
  by_cases h : i = j
  · subst h; simp [hi]
  · have : j ≠ i := fun e => h e.symm
    simp [h, this]
/-- no writer at or behind ν has come up, all before have -/
def At (all : List Oper) (ls : Array Bool) (ν : Nat) : Prop :=
  ν ≤ all.length ∧ (∀ k o, all[k]? = some o → k < ν → writerOp o.op = true → Ls ls k) ∧ (∀ o, all[ν]? = some o → writerOp o.op = true ∧ ¬ Ls ls ν)
structure Inv (P : Program) (all : List Oper) (G : Nat → Env) (T : Nat → St) (vv : Nat → V) (ρ0 : Ren) (a0 : Act) (w0 : World) (ls : Array Bool) (ρ : Ren) (a : Act) (w : World) : Prop where
  size : ls.size = all.length
  closed : ∀ i j, Dir all i j → Ls ls j → Ls ls i
  env1 : ∀ (j : Nat) (o : Oper) (t : Nat), all[j]? = some o → o.dst = some t → Ls ls j → VR ρ (vv j) (a.tmps.getD t undef)
  env0 : ∀ t, (∀ (j : Nat) (o : Oper), all[j]? = some o → o.dst = some t → ¬ Ls ls j) → VR ρ (look (G 0) t) (a.tmps.getD t undef)
  heap : ∀ ν, At all ls ν → HRel ρ (T ν) w
  unb : ∀ j, j < all.length → ¬ Ls ls j → ∀ id : Pos, (T j).cnt ≤ id.num → id.num < (T (j + 1)).cnt → ρ id = none
  ext : ∀ id : Pos, id.num < (T 0).cnt ∨ (T all.length).cnt ≤ id.num → ρ id = ρ0 id
  mono : ∀ id L, ρ0 id = some L → ρ id = some L
  os : w.os = w0.os
  tape : w.tape = w0.tape
  output : w.output = w0.output
  wsize : w0.heap.size ≤ w.heap.size
  frame : ∀ k, k < w0.heap.size → (∀ id L, ρ0 id = some L → (T 0).fl ≤ id.num → id.num < (T 0).cnt → L.b ≠ k) → w.heap[k]? = w0.heap[k]?
  new : ∀ id L, (T 0).cnt ≤ id.num → id.num < (T all.length).cnt → ρ id = some L → w0.heap.size ≤ L.b ∨ ∃ id0 L0, ρ0 id0 = some L0 ∧ (T 0).fl ≤ id0.num ∧ id0.num < (T 0).cnt ∧ L0.b = L.b
  defers : a.defers = a0.defers
  tsize : a.tmps.size = a0.tmps.size
theorem Inv.pre {ρ0 ρ : Ren} {a0 a : Act} {w0 w : World} {ls : Array Bool} (I : Inv P all G T vv ρ0 a0 w0 ls ρ a w) {i j : Nat} (h : Pre all i j) (hj : Ls ls j) : Ls ls i := by
  induction h with
  | one h => exact I.closed _ _ h hj
  | more h1 h2 ih => exact ih (I.closed _ _ h2 hj)
/-- an operation all of whose predecessors have come up -/
theorem Inv.pres {ρ0 ρ : Ren} {a0 a : Act} {w0 w : World} {ls : Array Bool} (I : Inv P all G T vv ρ0 a0 w0 ls ρ a w) {i j : Nat} (h : Pre all i j) (hj : ∀ k, Dir all k j → Ls ls k) : Ls ls i := by
  cases h with
  | one h => exact hj _ h
  | more h1 h2 => exact I.pre h1 (hj _ h2)
/-- what it looks at -/
theorem Inv.envR (X : Lx P all G T vv) {ρ0 ρ : Ren} {a0 a : Act} {w0 w : World} {ls : Array Bool} (I : Inv P all G T vv ρ0 a0 w0 ls ρ a w) {j : Nat} {o : Oper} (ho : all[j]? = some o) (hnl : ¬ Ls ls j) (hj : ∀ k, Dir all k j → Ls ls k) : EnvR ρ (restr (G j) (looks all o)) a := by
  have hjl : j < all.length := (List.getElem?_eq_some_iff.1 ho).1
  refine .restr _ fun t ht => ?_
  by_cases hd : ∃ (i : Nat) (p : Oper), all[i]? = some p ∧ p.dst = some t
  · obtain ⟨i, p, hp, hpt⟩ := hd
    rcases X.chk.look i j p o t hp ho hpt ht with ⟨h1, h2⟩ | ⟨h1, h2⟩
    · rw [X.look_new hp hpt j h1 (by omega)]
      exact I.env1 i p t hp hpt (I.pres h2 hj)
    · have one : ∀ (k : Nat) (q : Oper), all[k]? = some q → q.dst = some t → k = i := fun k q hq hqt => X.chk.dist k i q p t hq hp hqt hpt
      have hni : ¬ Ls ls i := fun hl => by
        rcases h2 with h2 | h2
        · subst h2; exact hnl hl
        · exact hnl (I.pre h2 hl)
      rw [X.look_old j (by omega) (fun k q hk hq e => by have := one k q hq e; omega)]
      exact I.env0 t fun k q hq e => by have := one k q hq e; subst this; exact hni
  · have hn : ∀ (i : Nat) (p : Oper), all[i]? = some p → p.dst ≠ some t := fun i p hp e => hd ⟨i, p, hp, e⟩
    rw [X.look_old j (by omega) (fun i p _ hp => hn i p hp)]
    exact I.env0 t fun i p hp e => absurd e (hn i p hp)
/-- One operation more. -/
theorem Inv.step (X : Lx P all G T vv) {ρ0 ρ : Ren} {a0 a : Act} {w0 w : World} {ls : Array Bool} (I : Inv P all G T vv ρ0 a0 w0 ls ρ a w) {j : Nat} {o : Oper} (ho : all[j]? = some o) (hn : ¬ Ls ls j) (hj : ∀ k, Dir all k j → Ls ls k)
    (hdb : ∀ d, o.dst = some d → d < a.tmps.size) {fl : Nat} (hfl : (T 0).fl ≤ fl) {u : Value} {w' : World} {ρ' : Ren} (p : Post0 ρ fl (T j) (T (j + 1)) w w' ρ') (hv : VR ρ' (vv j) u)
    (hh : ∀ ν, At all (ls.setIfInBounds j true) ν → HRel ρ' (T ν) w') : Inv P all G T vv ρ0 a0 w0 (ls.setIfInBounds j true) ρ' (a.put o.dst u) w' := by
  have hjl : j < all.length := (List.getElem?_eq_some_iff.1 ho).1
  have hjs : j < ls.size := by rw [I.size]; exact hjl
  have hfr : Fresh ρ (T j).cnt (T (j + 1)).cnt := fun id a b => I.unb j hjl hn id a b
  have mono := p.mono hfr
  have c0 := X.cnt j (Nat.zero_le _) (by omega)
  have c1 := X.cnt (j + 1) (Nat.le_succ j) (by omega)
  have c2 := X.cnt all.length (i := j + 1) (by omega) (Nat.le_refl _)
  have slot : ∀ t, (∀ d, o.dst = some d → d ≠ t) → (a.put o.dst u).tmps.getD t undef = a.tmps.getD t undef := fun t ht => by
    cases hd : o.dst with
    | none => rfl
    | some d => simp [Act.put, Array.getD_eq_getD_getElem?, Array.getElem?_setIfInBounds_ne (ht d hd)]
  refine { size := by simp [I.size], closed := ?_, env1 := ?_, env0 := ?_, heap := hh, unb := ?_, ext := ?_, mono := fun id L h => mono id L (I.mono id L h), os := p.os.trans I.os, tape := p.tape.trans I.tape, output := p.output.trans I.output, wsize := Nat.le_trans I.wsize p.size, frame := ?_, new := ?_, defers := (put_size a o.dst u).2.trans I.defers, tsize := (put_size a o.dst u).1.trans I.tsize }
  · intro i k hd hk
    rw [Ls.set hjs] at hk ⊢
    rcases hk with rfl | hk
    · exact .inr (hj i hd)
    · exact .inr (I.closed i k hd hk)
  · intro k q t hq hqt hk
    rw [Ls.set hjs] at hk
    by_cases hkj : k = j
    · subst hkj
      rw [ho] at hq; cases hq
      have hlt := hdb t hqt
      have : (a.put o.dst u).tmps.getD t undef = u := by rw [hqt]; simp [Act.put, Array.getD_eq_getD_getElem?, Array.getElem?_setIfInBounds_self_of_lt hlt]
      rw [this]; exact hv
    · rcases hk with h | hk
      · exact absurd h hkj
      · rw [slot t fun d hd e => hkj (X.chk.dist k j q o t hq ho hqt (by rw [hd, e]))]
        exact (I.env1 k q t hq hqt hk).mono mono
  · intro t ht
    rw [slot t fun d hd e => by subst e; exact ht j o ho hd ((Ls.set hjs).2 (.inl rfl))]
    exact (I.env0 t fun k q hq hqt hk => ht k q hq hqt ((Ls.set hjs).2 (.inr hk))).mono mono
  · intro k hk hnk id h1 h2
    rw [Ls.set hjs] at hnk
    have hne : k ≠ j := fun e => hnk (.inl e)
    have hnl : ¬ Ls ls k := fun e => hnk (.inr e)
    rw [p.ext id ?_]
    · exact I.unb k hk hnl id h1 h2
    · rcases Nat.lt_or_ge k j with h3 | h3
      · have := X.cnt j (i := k + 1) (by omega) (by omega); omega
      · have := X.cnt k (i := j + 1) (by omega) (by omega); omega
  · intro id hid
    rw [p.ext id (by omega)]; exact I.ext id hid
  · intro k hk hh
    rw [p.frame k (Nat.lt_of_lt_of_le hk I.wsize) ?_, I.frame k hk hh]
    intro id L hL h1 h2
    rcases Nat.lt_or_ge id.num (T 0).cnt with h3 | h3
    · rw [I.ext id (.inl h3)] at hL; exact hh id L hL (by omega) h3
    · rcases I.new id L h3 (by omega) hL with h4 | ⟨i0, L0, x1, x2, x3, x4⟩
      · omega
      · rw [← x4]; exact hh i0 L0 x1 x2 x3
  · intro id L h1 h2 hL
    by_cases hnew : (T j).cnt ≤ id.num ∧ id.num < (T (j + 1)).cnt
    · rcases p.new id L hnew.1 hnew.2 hL with h4 | ⟨i0, L0, x1, x2, x3, x4⟩
      · exact .inl (Nat.le_trans I.wsize h4)
      · rcases Nat.lt_or_ge i0.num (T 0).cnt with h5 | h5
        · rw [I.ext i0 (.inl h5)] at x1; exact .inr ⟨i0, L0, x1, by omega, h5, x4⟩
        · rcases I.new i0 L0 h5 (by omega) x1 with h6 | ⟨i1, L1, y1, y2, y3, y4⟩
          · exact .inl (by omega)
          · exact .inr ⟨i1, L1, y1, y2, y3, y4.trans x4⟩
    · rw [p.ext id (by omega)] at hL; exact I.new id L h1 h2 hL
/-- the memory behind an operation that is no writer -/
theorem Inv.quiet (X : Lx P all G T vv) {ρ0 ρ : Ren} {a0 a : Act} {w0 w : World} {ls : Array Bool} (I : Inv P all G T vv ρ0 a0 w0 ls ρ a w) {j : Nat} {o : Oper} (ho : all[j]? = some o) (hn : ¬ Ls ls j) (hj : ∀ k, Dir all k j → Ls ls k)
    (hw : writerOp o.op = false) {w' : World} {ρ' : Ren} (p : Post ρ (T j).cnt (T j) (T (j + 1)) w w' ρ') (hseg : ∀ ν, At all ls ν → j < ν ∧ ∀ id : Pos, id.num < (T (j + 1)).cnt → (T ν).h.get id = (T (j + 1)).h.get id) :
    ∀ ν, At all (ls.setIfInBounds j true) ν → HRel ρ' (T ν) w' := by
  have hjl : j < all.length := (List.getElem?_eq_some_iff.1 ho).1
  have hjs : j < ls.size := by rw [I.size]; exact hjl
  have hfr : Fresh ρ (T j).cnt (T (j + 1)).cnt := fun id a b => I.unb j hjl hn id a b
  have mono := p.mono hfr
  have c1 := X.cnt (j + 1) (Nat.le_succ j) (by omega)
  intro ν hν
  have hν0 : At all ls ν := by
    refine ⟨hν.1, fun k q hq hk hqw => ?_, fun q hq => ⟨(hν.2.2 q hq).1, fun h => (hν.2.2 q hq).2 ((Ls.set hjs).2 (.inr h))⟩⟩
    rcases (Ls.set hjs).1 (hν.2.1 k q hq hk hqw) with e | e
    · subst e; rw [ho] at hq; cases hq; rw [hw] at hqw; cases hqw
    · exact e
  obtain ⟨hlt, hsg⟩ := hseg ν hν0
  have H := I.heap ν hν0
  refine ⟨p.heap.at_, fun id L b hL hb h0 => ?_, fun id id' L L' b b' hL hL' hb hb' h0 h0' he => ?_⟩
  · rcases Nat.lt_or_ge id.num (T (j + 1)).cnt with h1 | h1
    · rw [hsg id h1] at hb; exact p.heap.cells id L b hL hb h0
    · rw [p.ext id (.inr h1)] at hL
      obtain ⟨c, e, fr, k1, k2, k3, k4, k5⟩ := H.cells id L b hL hb h0
      refine ⟨c, e, fr, ?_, k2, k3, k4, fun i v hv => ?_⟩
      · rw [p.frame L.b (H.at_ id L hL) (fun _ _ _ x y => by omega)]; exact k1
      · obtain ⟨u, r1, r2, r3⟩ := k5 i v hv
        exact ⟨u, r1, r2.mono mono, r3⟩
  · have side : ∀ (i : Pos) (M : Loc), ρ' i = some M → (ρ i = some M) ∨ ((T j).cnt ≤ i.num ∧ i.num < (T (j + 1)).cnt ∧ w.heap.size ≤ M.b) := fun i M hM => by
      by_cases hnew : (T j).cnt ≤ i.num ∧ i.num < (T (j + 1)).cnt
      · rcases p.new i M hnew.1 hnew.2 hM with h4 | ⟨_, _, _, x2, x3, _⟩
        · exact .inr ⟨hnew.1, hnew.2, h4⟩
        · omega
      · rw [p.ext i (by omega)] at hM; exact .inl hM
    rcases side id L hL with g1 | ⟨g1, g2, g3⟩ <;> rcases side id' L' hL' with g1' | ⟨g1', g2', g3'⟩
    · exact H.inj id id' L L' b b' g1 g1' hb hb' h0 h0' he
    · have := H.at_ id L g1; omega
    · have := H.at_ id' L' g1'; omega
    · rw [hsg id g2] at hb; rw [hsg id' g2'] at hb'
      exact p.heap.inj id id' L L' b b' hL hL' hb hb' h0 h0' he
end Go.AM
