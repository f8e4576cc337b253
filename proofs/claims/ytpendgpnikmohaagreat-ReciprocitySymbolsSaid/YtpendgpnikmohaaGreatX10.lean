/- Operations that read memory or make new blocks. -/
import Derived.Test.YtpendgpnikmohaaGreatX9
import Derived.Laws.MakeOwn
namespace Go.AM
set_option linter.unusedVariables false
set_option linter.unusedSimpArgs false
variable {out : V × St} {P : Program} {ρ : Ren} {w : World}
noncomputable def zc (P : Program) (t : TypeId) : Option (List V) := match P.info? t with
  | some i => match i.zero with
    | some z => cond ((z.cells.toList.map cv0).all V.one) (some (z.cells.toList.map cv0)) none
    | none => none
  | none => none
theorem zc_some {t : TypeId} {l : List V} (h : zc P t = some l) : ∃ i z, P.info? t = some i ∧ i.zero = some z ∧ l = z.cells.toList.map cv0 ∧ (∀ v ∈ l, v.one = true) := by
  unfold zc at h
  cases hi : P.info? t with
  | none => rw [hi] at h; cases h
  | some i =>
    rw [hi] at h; simp only at h
    cases hz : i.zero with
    | none => rw [hz] at h; cases h
    | some z =>
      rw [hz] at h; simp only at h
      cases ha : (z.cells.toList.map cv0).all V.one <;> rw [ha] at h <;> simp only [cond_true, cond_false, reduceCtorEq, Option.some.injEq] at h
      subst h
      exact ⟨i, z, rfl, hz, rfl, List.all_eq_true.1 ha⟩
/-- where a part lies: a field of a struct, an element of an array or a slice -/
noncomputable def part1 (P : Program) (γ : Env) (place : Nat → Option (Nat × Nat)) : List (Nat × Operand) → Option (List (Nat × Nat × V))
  | [] => some []
  | (i, x) :: r => match place i with
    | some (off, sz) => match part1 P γ place r with
      | some ps => some ((off, sz, val γ x) :: ps)
      | none => none
    | none => none
theorem foldl_put (vs : List Value) : ∀ (cs : Array Value) (off j : Nat), off + j + vs.length ≤ cs.size →
    ((vs.zipIdx j).foldl (fun cs (x : Value × Nat) => cs.setIfInBounds (off + x.2) x.1) cs).toList = cs.toList.take (off + j) ++ vs ++ cs.toList.drop (off + j + vs.length) := by
  induction vs with
  | nil => intro cs off j h; simp
  | cons v vs ih =>
    intro cs off j h
    simp only [List.zipIdx_cons, List.foldl_cons]
    have hl : off + j < cs.size := by simp at h; omega
    rw [ih _ _ _ (by simp at h ⊢; omega)]
    rw [Array.toList_setIfInBounds]
    have e1 : (cs.toList.set (off + j) v).take (off + (j + 1)) = cs.toList.take (off + j) ++ [v] := by
      rw [show off + (j + 1) = (off + j) + 1 by omega, List.take_succ_eq_append_getElem (by simpa using hl)]
      rw [List.take_set_of_le (Nat.le_refl _)]; simp
    have e2 : (cs.toList.set (off + j) v).drop (off + (j + 1) + vs.length) = cs.toList.drop (off + j + (v :: vs).length) := by
      rw [List.drop_set_of_lt (by omega)]; congr 1; simp; omega
    rw [e1, e2]; simp
theorem VRs.cells {v : V} {k : List V → R} (h : cellsK v k = some out) : ∃ l, k l = some out ∧ (∀ (ρ : Ren) (u : Value), VR ρ v u → VRs ρ l u.cells.toList ∧ ∀ x ∈ l, x.one = true) := by
  rcases cellsK_some h with ⟨l, rfl, h1⟩ | ⟨h1, h2⟩
  · exact ⟨l, h1, fun ρ u hu => by obtain ⟨cs, rfl, hc⟩ := hu.ag_inv; exact ⟨hc, hu.ag_one⟩⟩
  · refine ⟨[v], h2, fun ρ u hu => ?_⟩
    obtain ⟨h3, h4⟩ := hu.one h1
    rw [h4]
    exact ⟨.cons _ _ _ _ hu .nil, fun x hx => by rw [List.mem_singleton] at hx; rw [hx]; exact h1⟩
/-- parts put in: the model's fill -/
theorem fill_ok {place : Nat → Option (Nat × Nat)} {γ : Env} : ∀ (parts : List (Nat × Operand)) (ps : List (Nat × Nat × V)), part1 P γ place parts = some ps → ∀ (l : List V) {k : List V → R}, putParts ps l k = some out →
    ∃ l', k l' = some out ∧ ∀ (ρ : Ren) (a : Act) (cs : Array Value), EnvR ρ γ a → VRs ρ l cs.toList → (∀ v ∈ l, v.one = true) → ∃ cs' : Array Value, Instr.fill place cs (parts.map fun p => (p.1, a.eval p.2)) = some cs' ∧ VRs ρ l' cs'.toList ∧ ∀ v ∈ l', v.one = true
  | [], ps, hp, l, k, h => by
    cases hp
    exact ⟨l, h, fun ρ a cs he hl h1 => ⟨cs, rfl, hl, h1⟩⟩
  | (i, x) :: r, ps, hp, l, k, h => by
    simp only [part1] at hp
    cases hq : place i with
    | none => rw [hq] at hp; cases hp
    | some os =>
      obtain ⟨off, sz⟩ := os
      rw [hq] at hp; simp only at hp
      cases hr : part1 P γ place r with
      | none => rw [hr] at hp; cases hp
      | some qs =>
        rw [hr] at hp; cases hp
        obtain ⟨vs, h1, hv⟩ := VRs.cells (show cellsK (val γ x) (fun vs => lenL vs 0 (fun m => gu (Nat.beq m sz) (putK l off vs (fun cs' => putParts qs cs' k)))) = some out from h)
        rw [lenL_zero] at h1
        obtain ⟨h2, h3⟩ := gu_some h1
        have hsz : vs.length = sz := Nat.eq_of_beq_eq_true h2
        obtain ⟨h4, h5⟩ := putK_some _ _ _ _ h3
        obtain ⟨l', h6, h7⟩ := fill_ok r qs hr _ h5
        refine ⟨l', h6, fun ρ a cs he hl hone => ?_⟩
        obtain ⟨g1, g2⟩ := hv ρ _ (he.val x)
        have hlen := g1.length
        have hlc := hl.length
        have hcs : (a.eval x).cells.size = sz := by rw [← hsz, hlen]; simp
        have hput := foldl_put (a.eval x).cells.toList cs off 0 (by simp at hlen hlc ⊢; omega)
        simp only [Nat.add_zero] at hput
        let cs1 : Array Value := (a.eval x).cells.zipIdx.foldl (fun cs (x : Value × Nat) => cs.setIfInBounds (off + x.2) x.1) cs
        have hcs1 : cs1.toList = cs.toList.take off ++ (a.eval x).cells.toList ++ cs.toList.drop (off + (a.eval x).cells.toList.length) := by
          rw [← hput]
          have : cs1 = (a.eval x).cells.toList.zipIdx.foldl (fun cs (x : Value × Nat) => cs.setIfInBounds (off + x.2) x.1) cs := by
            show (a.eval x).cells.zipIdx.foldl _ cs = _
            rw [← Array.foldl_toList, Array.toList_zipIdx]
          rw [this]
        have hvr : VRs ρ (l.take off ++ vs ++ l.drop (off + vs.length)) cs1.toList := by
          rw [hcs1, ← hlen]; exact ((hl.take off).append g1).append (hl.drop _)
        have hone1 : ∀ v ∈ l.take off ++ vs ++ l.drop (off + vs.length), v.one = true := fun v hv' => by
          simp only [List.mem_append] at hv'
          rcases hv' with (h | h) | h
          · exact hone v (List.mem_of_mem_take h)
          · exact g2 v h
          · exact hone v (List.mem_of_mem_drop h)
        obtain ⟨cs', f1, f2, f3⟩ := h7 ρ a cs1 he hvr hone1
        refine ⟨cs', ?_, f2, f3⟩
        have hbig : ¬ (off + (a.eval x).cells.size > cs.size) := by simp at hlen hlc; omega
        have hc : ¬ ((decide ((a.eval x).cells.size ≠ sz) || decide (off + (a.eval x).cells.size > cs.size)) = true) := by simp [hcs]; omega
        simp only [List.map_cons, Instr.fill, hq]
        rw [if_neg hc]
        exact f1
/-- an operation that reads or makes memory -/
def OpOK (P : Program) (o : Oper) (γ : Env) (fl : Nat) (S : St) (v : V) (S' : St) : Prop :=
  Abs fl S S' ∧ ∀ (ρ : Ren) (a : Act) (w : World), EnvR ρ γ a → HRel ρ S w → Fresh ρ S.cnt S'.cnt → Runs P o a w fun u w' => ∃ ρ', Post ρ fl S S' w w' ρ' ∧ VR ρ' v u
theorem PureOK.op {o : Oper} {γ : Env} {v : V} (h : PureOK P o γ v) (fl : Nat) (S : St) : OpOK P o γ fl S v S :=
  ⟨.refl _ _, fun ρ a w he hh _ => by obtain ⟨u, w', h1, rfl, h2⟩ := h ρ a w he; exact ⟨u, _, h1, ρ, .refl hh, h2⟩⟩
/-- a new block, all of whose cells are known -/
theorem new_ok {S : St} (ok : SOK S) (hh : HRel ρ S w) (hf : Fresh ρ S.cnt (S.cnt + 1)) {cs : List V} {c : Array Value} (hc : VRs ρ cs c.toList) (h1 : ∀ v ∈ cs, v.one = true) (e : TypeId) (fl : Nat) :
    Post ρ fl S (S.new cs) w { w with heap := w.heap.push (.cells c e) } (ρ.up S.nx ⟨w.heap.size, 0, c.size⟩) := by
  have hl := hc.length
  refine new_post ok hh (hf _ (by rw [ok.nx]; exact Nat.le_refl _) (by rw [ok.nx]; omega)) (c := c) (e := e) (fr := (0, 0)) rfl rfl rfl rfl (fun i _ h => by simp at h) (by simp at hl; omega) fun i v hv => ?_
  obtain ⟨u, h2, h3⟩ := hc.get hv
  exact ⟨u, by simpa using h2, h3, h1 v (List.mem_of_getElem? hv)⟩
end Go.AM
