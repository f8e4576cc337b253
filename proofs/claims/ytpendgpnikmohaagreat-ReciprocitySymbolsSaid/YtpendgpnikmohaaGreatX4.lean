/- The machine's values and memory against the model's: a naming (of some) of the machine's blocks by places of the model's heap. -/
import Derived.Test.YtpendgpnikmohaaGreatX3
namespace Go.AM
set_option linter.unusedVariables false
set_option linter.unusedSimpArgs false
/-- where a block of the machine lies: a block of the model, the first cell there, and that block's size -/
structure Loc where
  b : Nat
  d : Nat
  sz : Nat
abbrev Ren := Pos → Option Loc
mutual
inductive VR (ρ : Ren) : V → Value → Prop
  | other (u : Value) : VR ρ .other u
  | u : VR ρ .u undef
  | b (x : Bool) : VR ρ (.b x) (.bool x)
  | i (k : IntKind) (n : Nat) (z : Int) : n < M k → z = dec k n → VR ρ (.i k n) (.int k z)
  | s (l : List Nat) (t : ByteArray) : t.data.toList.map UInt8.toNat = l → VR ρ (.s l) (.string t)
  | p (id : Pos) (off o : Nat) (L : Loc) : ρ id = some L → o = L.d + off → VR ρ (.p id off) (.pointer (some ⟨L.b, o, none⟩))
  | pn : VR ρ .pn (.pointer none)
  | sl (id : Pos) (off len cap o : Nat) (L : Loc) : ρ id = some L → len ≤ cap → (0 < cap → o = L.d + off) → VR ρ (.sl id off len cap) (.slice (some ⟨L.b, o, none⟩) len cap)
  | so (id : Pos) (off len cap sz o c : Nat) (L : Loc) : ρ id = some L → len ≤ cap → cap ≤ c → o + c * sz ≤ L.sz → (0 < cap → o = L.d + off) → VR ρ (.so id off len cap sz) (.slice (some ⟨L.b, o, none⟩) len c)
  | sn : VR ρ .sn (.slice none 0 0)
  | ag (l : List V) (cs : Array Value) : (∀ v ∈ l, v.one = true) → VRs ρ l cs.toList → VR ρ (.ag l) (.agg cs)
  | tu (l : List V) (cs : Array Value) : VRs ρ l cs.toList → VR ρ (.tu l) (.tuple cs)
  | f (id : Nat) (cs : List V) (us : Array Value) : VRs ρ cs us.toList → VR ρ (.f id cs) (.func (.func id) #[] us)
  | fn0 : VR ρ .fn0 .nilFunc
inductive VRs (ρ : Ren) : List V → List Value → Prop
  | nil : VRs ρ [] []
  | cons (v : V) (u : Value) (l : List V) (m : List Value) : VR ρ v u → VRs ρ l m → VRs ρ (v :: l) (u :: m)
end
section
variable {ρ ρ' : Ren}
mutual
theorem VR.mono (h : ∀ id L, ρ id = some L → ρ' id = some L) : ∀ {v : V} {u : Value}, VR ρ v u → VR ρ' v u
  | _, _, .other u => .other u
  | _, _, .u => .u
  | _, _, .b x => .b x
  | _, _, .i k n z a b => .i k n z a b
  | _, _, .s l t a => .s l t a
  | _, _, .p id off o L a b => .p id off o L (h _ _ a) b
  | _, _, .pn => .pn
  | _, _, .sl id off len cap o L a b c => .sl id off len cap o L (h _ _ a) b c
  | _, _, .so id off len cap sz o c L a b d e f => .so id off len cap sz o c L (h _ _ a) b d e f
  | _, _, .sn => .sn
  | _, _, .ag l cs b a => .ag l cs b (VRs.mono h a)
  | _, _, .tu l cs a => .tu l cs (VRs.mono h a)
  | _, _, .f id cs us a => .f id cs us (VRs.mono h a)
  | _, _, .fn0 => .fn0
theorem VRs.mono (h : ∀ id L, ρ id = some L → ρ' id = some L) : ∀ {l : List V} {m : List Value}, VRs ρ l m → VRs ρ' l m
  | _, _, .nil => .nil
  | _, _, .cons v u l m a b => .cons v u l m (VR.mono h a) (VRs.mono h b)
end
theorem VRs.length : ∀ {l : List V} {m : List Value}, VRs ρ l m → l.length = m.length
  | _, _, .nil => rfl
  | _, _, .cons v u l m a b => by simp [VRs.length b]
theorem VRs.get : ∀ {l : List V} {m : List Value}, VRs ρ l m → ∀ {i : Nat} {v : V}, l[i]? = some v → ∃ u, m[i]? = some u ∧ VR ρ v u
  | _, _, .nil, i, v, h => by simp at h
  | _, _, .cons w u l m a b, 0, v, h => by simp at h; subst h; exact ⟨u, rfl, a⟩
  | _, _, .cons w u l m a b, i + 1, v, h => by simp at h; obtain ⟨u', h1, h2⟩ := VRs.get b h; exact ⟨u', by simpa using h1, h2⟩
theorem VRs.of_get : ∀ {l : List V} {m : List Value}, l.length = m.length → (∀ (i : Nat) (v : V) (u : Value), l[i]? = some v → m[i]? = some u → VR ρ v u) → VRs ρ l m
  | [], [], _, _ => .nil
  | v :: l, u :: m, e, h => .cons v u l m (h 0 v u rfl rfl) (VRs.of_get (by simpa using e) fun i v u h1 h2 => h (i + 1) v u (by simpa using h1) (by simpa using h2))
  | [], _ :: _, e, _ => by simp at e
  | _ :: _, [], e, _ => by simp at e
theorem VRs.append : ∀ {l : List V} {m : List Value} {l' : List V} {m' : List Value}, VRs ρ l m → VRs ρ l' m' → VRs ρ (l ++ l') (m ++ m')
  | _, _, _, _, .nil, h => h
  | _, _, _, _, .cons v u l m a b, h => .cons _ _ _ _ a (VRs.append b h)
theorem VRs.take : ∀ {l : List V} {m : List Value} (n : Nat), VRs ρ l m → VRs ρ (l.take n) (m.take n)
  | _, _, 0, _ => by simpa using VRs.nil
  | _, _, n + 1, .nil => by simpa using VRs.nil
  | _, _, n + 1, .cons v u l m a b => .cons _ _ _ _ a (VRs.take n b)
theorem VRs.drop : ∀ {l : List V} {m : List Value} (n : Nat), VRs ρ l m → VRs ρ (l.drop n) (m.drop n)
  | _, _, 0, h => h
  | _, _, n + 1, .nil => by simpa using VRs.nil
  | _, _, n + 1, .cons v u l m a b => VRs.drop n b
theorem VR.one {v : V} {u : Value} (h : VR ρ v u) (h1 : v.one = true) : u.oneCell' = true ∧ u.cells = #[u] := by
  cases h <;> first | exact ⟨rfl, rfl⟩ | (simp [V.one] at h1)
theorem VRs.one : ∀ {l : List V} {m : List Value}, VRs ρ l m → (∀ v ∈ l, v.one = true) → ∀ u ∈ m, u.oneCell' = true
  | _, _, .nil, _, u, hu => by simp at hu
  | _, _, .cons v w l m a b, h, u, hu => by
    rcases List.mem_cons.1 hu with rfl | hu
    · exact (a.one (h v (by simp))).1
    · exact VRs.one b (fun v hv => h v (by simp [hv])) u hu
end
/-- no cell of the block is frozen -/
def Thaw (n : Nat) (fr : Nat × Nat) : Prop := ∀ i, i < n → ¬ (fr.1 ≤ i ∧ i < fr.2)
/-- a block of the machine in the model's heap -/
def HB (ρ : Ren) (L : Loc) (cs : List V) (w : World) : Prop :=
  ∃ c e fr, w.heap[L.b]? = some (.cells c e fr) ∧ c.size = L.sz ∧ Thaw c.size fr ∧ L.d + cs.length ≤ L.sz ∧ ∀ (i : Nat) (v : V), cs[i]? = some v → ∃ u, c[L.d + i]? = some u ∧ VR ρ v u ∧ v.one = true
structure HRel (ρ : Ren) (S : St) (w : World) : Prop where
  at_ : ∀ id L, ρ id = some L → L.b < w.heap.size
  cells : ∀ id L blk, ρ id = some L → S.h.get id = some blk → blk.born ≠ 0 → HB ρ L blk.cs w
  inj : ∀ id id' L L' blk blk', ρ id = some L → ρ id' = some L' → S.h.get id = some blk → S.h.get id' = some blk' → blk.born ≠ 0 → blk'.born ≠ 0 → L.b = L'.b → id = id'
structure SOK (S : St) : Prop where
  nx : S.nx.num = S.cnt
  fl : 1 ≤ S.fl
  le : S.fl ≤ S.cnt
  blk : ∀ id b, S.h.get id = some b → id.num < S.cnt ∧ (b.born = id.num ∨ b.born = 0 ∧ b.cs = [])
/-- what an operation does to the machine's memory -/
structure Abs (fl : Nat) (S S' : St) : Prop where
  cnt : S.cnt ≤ S'.cnt
  fl_ : S'.fl = S.fl
  ok : SOK S → SOK S'
  old : ∀ id : Pos, id.num < fl → S'.h.get id = S.h.get id
/-- what it does to the model's -/
structure Post (ρ : Ren) (fl : Nat) (S S' : St) (w w' : World) (ρ' : Ren) : Prop where
  ext : ∀ id : Pos, id.num < S.cnt ∨ S'.cnt ≤ id.num → ρ' id = ρ id
  heap : HRel ρ' S' w'
  os : w'.os = w.os
  tape : w'.tape = w.tape
  output : w'.output = w.output
  size : w.heap.size ≤ w'.heap.size
  frame : ∀ k, k < w.heap.size → (∀ id L, ρ id = some L → fl ≤ id.num → id.num < S.cnt → L.b ≠ k) → w'.heap[k]? = w.heap[k]?
  new : ∀ id L, S.cnt ≤ id.num → id.num < S'.cnt → ρ' id = some L → w.heap.size ≤ L.b ∨ ∃ id0 L0, ρ id0 = some L0 ∧ fl ≤ id0.num ∧ id0.num < S.cnt ∧ L0.b = L.b
def Fresh (ρ : Ren) (a b : Nat) : Prop := ∀ id : Pos, a ≤ id.num → id.num < b → ρ id = none
section
variable {ρ ρ1 ρ2 : Ren} {fl : Nat} {S S1 S2 : St} {w w1 w2 : World}
theorem Abs.refl (fl : Nat) (S : St) : Abs fl S S := ⟨Nat.le_refl _, rfl, id, fun _ _ => rfl⟩
theorem Abs.trans (h : Abs fl S S1) (k : Abs fl S1 S2) : Abs fl S S2 := ⟨Nat.le_trans h.cnt k.cnt, k.fl_.trans h.fl_, k.ok ∘ h.ok, fun id hi => (k.old id hi).trans (h.old id hi)⟩
theorem Abs.mono {fl' : Nat} (h : Abs fl S S1) (hf : fl' ≤ fl) : Abs fl' S S1 := ⟨h.cnt, h.fl_, h.ok, fun id hi => h.old id (Nat.lt_of_lt_of_le hi hf)⟩
theorem Fresh.left (h : Fresh ρ S.cnt S2.cnt) (h2 : S1.cnt ≤ S2.cnt) : Fresh ρ S.cnt S1.cnt := fun id a b => h id a (by omega)
theorem Fresh.right (h : Fresh ρ S.cnt S2.cnt) (h1 : S.cnt ≤ S1.cnt) (p : Post ρ fl S S1 w w1 ρ1) : Fresh ρ1 S1.cnt S2.cnt := fun id a b => by rw [p.ext id (.inr a)]; exact h id (by omega) b
theorem Post.refl (h : HRel ρ S w) : Post ρ fl S S w w ρ := ⟨fun _ _ => rfl, h, rfl, rfl, rfl, Nat.le_refl _, fun _ _ _ => rfl, fun id L a b _ => by omega⟩
theorem Post.mono (p : Post ρ fl S S1 w w1 ρ1) (f : Fresh ρ S.cnt S1.cnt) : ∀ id L, ρ id = some L → ρ1 id = some L := fun id L h => by
  rcases Nat.lt_or_ge id.num S.cnt with h1 | h1
  · rw [p.ext id (.inl h1)]; exact h
  · rcases Nat.lt_or_ge id.num S1.cnt with h2 | h2
    · rw [f id h1 h2] at h; cases h
    · rw [p.ext id (.inr h2)]; exact h
theorem Post.trans (h1 : S.cnt ≤ S1.cnt) (h2 : S1.cnt ≤ S2.cnt) (p : Post ρ fl S S1 w w1 ρ1) (q : Post ρ1 fl S1 S2 w1 w2 ρ2) : Post ρ fl S S2 w w2 ρ2 where
  ext id h := by
    rw [q.ext id (by omega), p.ext id (by omega)]
  heap := q.heap
  os := q.os.trans p.os
  tape := q.tape.trans p.tape
  output := q.output.trans p.output
  size := Nat.le_trans p.size q.size
  frame k hk h := by
    rw [q.frame k (Nat.lt_of_lt_of_le hk p.size) ?_, p.frame k hk h]
    intro id L hL hf hc
    rcases Nat.lt_or_ge id.num S.cnt with hn | hn
    · rw [p.ext id (.inl hn)] at hL; exact h id L hL hf hn
    · rcases p.new id L hn hc hL with h3 | ⟨id0, L0, a, b, c, d⟩
      · omega
      · rw [← d]; exact h id0 L0 a b c
  new id L a b hL := by
    have step : ∀ id L, S.cnt ≤ id.num → id.num < S1.cnt → ρ1 id = some L → w.heap.size ≤ L.b ∨ ∃ id0 L0, ρ id0 = some L0 ∧ fl ≤ id0.num ∧ id0.num < S.cnt ∧ L0.b = L.b := p.new
    rcases Nat.lt_or_ge id.num S1.cnt with hn | hn
    · rw [q.ext id (.inl hn)] at hL; exact p.new id L a hn hL
    · rcases q.new id L hn b hL with h3 | ⟨id0, L0, a0, b0, c0, d0⟩
      · exact .inl (Nat.le_trans p.size h3)
      · rcases Nat.lt_or_ge id0.num S.cnt with hm | hm
        · rw [p.ext id0 (.inl hm)] at a0; exact .inr ⟨id0, L0, a0, b0, hm, d0⟩
        · rcases p.new id0 L0 hm c0 a0 with h4 | ⟨i1, L1, a1, b1, c1, d1⟩
          · exact .inl (by omega)
          · exact .inr ⟨i1, L1, a1, b1, c1, d1.trans d0⟩
/-- what holds at a floor holds at a lower one -/
theorem Post.lower {fl' : Nat} (p : Post ρ fl S S1 w w1 ρ1) (h : fl' ≤ fl) : Post ρ fl' S S1 w w1 ρ1 :=
  ⟨p.ext, p.heap, p.os, p.tape, p.output, p.size, fun k hk hh => p.frame k hk fun id L a b c => hh id L a (by omega) c,
    fun id L a b c => (p.new id L a b c).imp (fun x => x) fun ⟨i0, L0, x, y, z, t⟩ => ⟨i0, L0, x, by omega, z, t⟩⟩
end
end Go.AM
