/- Renaming the places in a value. -/
import Derived.Test.YtpendgpnikmohaaGreatX24
namespace Go.AM
set_option linter.unusedVariables false
set_option linter.unusedSimpArgs false
mutual
def renV (π : Pos → Pos) : V → V
  | .p id off => .p (π id) off
  | .sl id a b c => .sl (π id) a b c
  | .so id a b c d => .so (π id) a b c d
  | .ag l => .ag (renL π l)
  | .tu l => .tu (renL π l)
  | .f id cs => .f id (renL π cs)
  | .u => .u
  | .b x => .b x
  | .i k n => .i k n
  | .s l => .s l
  | .pn => .pn
  | .sn => .sn
  | .fn0 => .fn0
  | .other => .other
def renL (π : Pos → Pos) : List V → List V
  | [] => []
  | v :: l => renV π v :: renL π l
end
mutual
def okV (p : Pos → Bool) : V → Bool
  | .p id off => p id
  | .sl id a b c => p id
  | .so id a b c d => p id
  | .ag l => okL p l
  | .tu l => okL p l
  | .f id cs => okL p cs
  | _ => true
def okL (p : Pos → Bool) : List V → Bool
  | [] => true
  | v :: l => okV p v && okL p l
end
theorem renV_one (π : Pos → Pos) (v : V) : (renV π v).one = v.one := by cases v <;> rfl
theorem renL_one (π : Pos → Pos) : ∀ (l : List V), (∀ v ∈ l, v.one = true) → ∀ v ∈ renL π l, v.one = true
  | [], h, v, hv => by simp [renL] at hv
  | w :: l, h, v, hv => by
    simp only [renL, List.mem_cons] at hv
    rcases hv with rfl | hv
    · rw [renV_one]; exact h w (by simp)
    · exact renL_one π l (fun v hv => h v (by simp [hv])) v hv
theorem renL_len (π : Pos → Pos) : ∀ l : List V, (renL π l).length = l.length
  | [] => rfl
  | v :: l => by simp [renL, renL_len π l]
theorem renL_get (π : Pos → Pos) : ∀ (l : List V) (i : Nat), (renL π l)[i]? = (l[i]?).map (renV π)
  | [], i => by simp [renL]
  | v :: l, 0 => by simp [renL]
  | v :: l, i + 1 => by simp only [renL, List.getElem?_cons_succ]; exact renL_get π l i
theorem okL_get {p : Pos → Bool} : ∀ {l : List V}, okL p l = true → ∀ {i : Nat} {v : V}, l[i]? = some v → okV p v = true
  | [], h, i, v, hv => by simp at hv
  | w :: l, h, 0, v, hv => by simp at hv; subst hv; simp only [okL, Bool.and_eq_true] at h; exact h.1
  | w :: l, h, i + 1, v, hv => by simp only [okL, Bool.and_eq_true] at h; exact okL_get h.2 (by simpa using hv)
section
variable {ρ ρ' : Ren} {π : Pos → Pos} {p : Pos → Bool}
mutual
theorem VR.ren (h : ∀ id, p id = true → ρ' (π id) = ρ id) : ∀ {v : V} {u : Value}, VR ρ v u → okV p v = true → VR ρ' (renV π v) u
  | _, _, .other u, _ => .other u
  | _, _, .u, _ => .u
  | _, _, .b x, _ => .b x
  | _, _, .i k n z a b, _ => .i k n z a b
  | _, _, .s l t a, _ => .s l t a
  | _, _, .p id off o L a b, k => .p _ off o L ((h _ k).trans a) b
  | _, _, .pn, _ => .pn
  | _, _, .sl id off len cap o L a b c, k => .sl _ off len cap o L ((h _ k).trans a) b c
  | _, _, .so id off len cap sz o c L a b d e f, k => .so _ off len cap sz o c L ((h _ k).trans a) b d e f
  | _, _, .sn, _ => .sn
  | _, _, .ag l cs b a, k => .ag _ cs (renL_one π l b) (VRs.ren h a k)
  | _, _, .tu l cs a, k => .tu _ cs (VRs.ren h a k)
  | _, _, .f id cs us a, k => .f id _ us (VRs.ren h a k)
  | _, _, .fn0, _ => .fn0
theorem VRs.ren (h : ∀ id, p id = true → ρ' (π id) = ρ id) : ∀ {l : List V} {m : List Value}, VRs ρ l m → okL p l = true → VRs ρ' (renL π l) m
  | _, _, .nil, _ => .nil
  | _, _, .cons v u l m a b, k => by
    simp only [okL, Bool.and_eq_true] at k
    exact .cons _ u _ m (VR.ren h a k.1) (VRs.ren h b k.2)
end
mutual
theorem VR.unren (h : ∀ id, p id = true → ρ id = ρ' (π id)) : ∀ {v : V} {u : Value}, VR ρ' (renV π v) u → okV p v = true → VR ρ v u
  | .other, _, a, _ => .other _
  | .u, _, .u, _ => .u
  | .b x, _, .b _, _ => .b x
  | .i k n, _, .i _ _ z a b, _ => .i k n z a b
  | .s l, _, .s _ t a, _ => .s l t a
  | .p id off, _, .p _ _ o L a b, k => .p id off o L ((h _ k).trans a) b
  | .pn, _, .pn, _ => .pn
  | .sl id off len cap, _, .sl _ _ _ _ o L a b c, k => .sl id off len cap o L ((h _ k).trans a) b c
  | .so id off len cap sz, _, .so _ _ _ _ _ o c L a b d e f, k => .so id off len cap sz o c L ((h _ k).trans a) b d e f
  | .sn, _, .sn, _ => .sn
  | .ag l, _, .ag _ cs b a, k => .ag l cs (fun v hv => by
      obtain ⟨i, hi⟩ := List.getElem?_of_mem hv
      have : renV π v ∈ renL π l := List.mem_of_getElem? (i := i) (by rw [renL_get, hi]; rfl)
      rw [← renV_one π]; exact b _ this) (VRs.unren h a k)
  | .tu l, _, .tu _ cs a, k => .tu l cs (VRs.unren h a k)
  | .f id cs, _, .f _ _ us a, k => .f id cs us (VRs.unren h a k)
  | .fn0, _, .fn0, _ => .fn0
theorem VRs.unren (h : ∀ id, p id = true → ρ id = ρ' (π id)) : ∀ {l : List V} {m : List Value}, VRs ρ' (renL π l) m → okL p l = true → VRs ρ l m
  | [], _, .nil, _ => .nil
  | v :: l, _, .cons _ u _ m a b, k => by
    simp only [okL, Bool.and_eq_true] at k
    exact .cons v u l m (VR.unren h a k.1) (VRs.unren h b k.2)
end
end
end Go.AM
