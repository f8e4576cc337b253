/- Regions: one step with its guard; a region in its own order. -/
import Derived.Test.YtpendgpnikmohaaGreatX14
import Derived.Tactics
namespace Go.AM
set_option linter.unusedVariables false
set_option linter.unusedSimpArgs false
variable {out : V × St} {P : Program} {ρ : Ren} {w : World} {cx : Cx}
def bindE (d : Option Nat) (v : V) (γ : Env) : Env := match d with
  | some d => (d, v) :: γ
  | none => γ
def tmpsOf : List Operand → List Nat
  | [] => []
  | .tmp t :: r => t :: tmpsOf r
  | _ :: r => tmpsOf r
def gtmp (all : List Oper) (j : Nat) : Option Nat := match all[j]? with
  | some o => o.dst
  | none => none
def looks (all : List Oper) (o : Oper) : List Nat := match o.guard with
  | none => tmpsOf o.op.operands.toList
  | some (j, _) => match gtmp all j with
    | some t => t :: tmpsOf o.op.operands.toList
    | none => tmpsOf o.op.operands.toList
/-- what an operation looks at -/
def restr (γ : Env) : List Nat → Env
  | [] => []
  | t :: r => (t, look γ t) :: restr γ r
theorem look_restr (γ : Env) : ∀ (ts : List Nat) (t : Nat), look (restr γ ts) t = look γ t ∨ look (restr γ ts) t = .other
  | [], t => .inr rfl
  | s :: r, t => by
    show cond (Nat.beq s t) (look γ s) (look (restr γ r) t) = look γ t ∨ cond (Nat.beq s t) (look γ s) (look (restr γ r) t) = .other
    cases h : Nat.beq s t
    · exact look_restr γ r t
    · rw [Nat.eq_of_beq_eq_true h]; exact .inl rfl
theorem look_restr_none (γ : Env) : ∀ (ts : List Nat) (t : Nat), t ∉ ts → look (restr γ ts) t = .other
  | [], t, _ => rfl
  | s :: r, t, h => by
    show cond (Nat.beq s t) (look γ s) (look (restr γ r) t) = _
    have : Nat.beq s t = false := by cases hb : Nat.beq s t; rfl; exact absurd (Nat.eq_of_beq_eq_true hb) (fun e => h (by rw [e]; exact List.mem_cons_self ..))
    rw [this]; exact look_restr_none γ r t fun hm => h (List.mem_cons_of_mem _ hm)
theorem EnvR.restr {γ : Env} {a : Act} (ts : List Nat) (h : ∀ t ∈ ts, VR ρ (look γ t) (a.tmps.getD t undef)) : EnvR ρ (restr γ ts) a := fun t => by
  by_cases ht : t ∈ ts
  · rcases look_restr γ ts t with e | e <;> rw [e]
    · exact h t ht
    · exact .other _
  · rw [look_restr_none γ ts t ht]; exact .other _
noncomputable def denS (P : Program) (cx : Cx) (draw : Bool) (all : List Oper) (γ : Env) (o : Oper) : Sem3 := match o.guard with
  | none => denO P cx draw (restr γ (looks all o)) o.op
  | some (j, w) => match gtmp all j with
    | some t => fun S c => pGd (look γ t) w (fun c => denO P cx draw (restr γ (looks all o)) o.op S c) S c
    | none => fun _ _ => none
noncomputable def den (P : Program) (cx : Cx) (draw : Bool) (all : List Oper) : List Oper → Env → St → (Env → St → R) → R
  | [], γ, S, k => k γ S
  | o :: r, γ, S, k => denS P cx draw all γ o S (fun v S => den P cx draw all r (bindE o.dst v γ) S k)
/-- the operation runs, or its guard says no -/
def SRuns (P : Program) (ops : Array Oper) (o : Oper) (a : Act) (w : World) (T : Value → World → Prop) : Prop :=
  if Region.wanted o (yielded ops a.tmps) = true then RunsX P o a w T else T undef w
def PStep (P : Program) (ops : Array Oper) (o : Oper) (γ : Env) (v : V) : Prop := ∀ (ρ : Ren) (a : Act) (w : World), EnvR ρ γ a → SRuns P ops o a w fun u w' => w' = w ∧ VR ρ v u
def SStep (P : Program) (ops : Array Oper) (o : Oper) (γ : Env) (fl : Nat) (S : St) (v : V) (S' : St) : Prop :=
  Abs fl S S' ∧ ∀ (ρ : Ren) (a : Act) (w : World), EnvR ρ γ a → HRel ρ S w → Fresh ρ S.cnt S'.cnt → SRuns P ops o a w fun u w' => ∃ ρ', Post ρ fl S S' w w' ρ' ∧ VR ρ' v u
def CStep (P : Program) (all : List Oper) (o : Oper) (γ : Env) (draw : Bool) (S : St) (v : V) (S' : St) : Prop :=
  (pureOp o.op = true → S' = S ∧ PStep P all.toArray o (restr γ (looks all o)) v) ∧ (pureOp o.op = false → SStep P all.toArray o (restr γ (looks all o)) (cond (draw && !writerOp o.op) S.cnt S.fl) S v S')
theorem yielded_b {all : List Oper} {j t : Nat} (hg : gtmp all j = some t) {a : Act} {v : V} (h : VR ρ v (a.tmps.getD t undef)) :
    (∀ b, v = .b b → yielded all.toArray a.tmps j = some b) ∧ (v = .u → yielded all.toArray a.tmps j = none) := by
  have hd : ((all.toArray[j]?).bind (·.dst)) = some t := by
    unfold gtmp at hg
    simp only [List.getElem?_toArray]
    cases ho : all[j]? with
    | none => rw [ho] at hg; cases hg
    | some o => rw [ho] at hg; exact hg
  have hget : a.tmps.getD t undef = (a.tmps[t]?).getD undef := by simp [Array.getD_eq_getD_getElem?]
  refine ⟨fun b hb => ?_, fun hb => ?_⟩
  · subst hb
    have e := h.b_inv
    rw [hget] at e
    unfold yielded
    rw [hd]
    cases ht : a.tmps[t]? with
    | none => rw [ht] at e; cases e
    | some x => rw [ht] at e; simp at e; subst e; simp [ht]
  · subst hb
    have e := h.u_inv
    rw [hget] at e
    unfold yielded
    rw [hd]
    cases ht : a.tmps[t]? with
    | none => simp [ht]
    | some x => rw [ht] at e; simp at e; subst e; simp [ht, undef]
theorem denS_ok (hcx : cx.OK P) {draw : Bool} {all : List Oper} {o : Oper} {γ : Env} {S : St} (ok : SOK S) {c : Cont} (h : denS P cx draw all γ o S c = some out) :
    ∃ v S', c v S' = some out ∧ CStep P all o γ draw S v S' := by
  unfold denS at h
  cases hg : o.guard with
  | none =>
    rw [hg] at h
    obtain ⟨v, S', h1, h2, h3⟩ := denO_ok hcx ok h
    have hw : ∀ y, Region.wanted o y = true := fun y => by simp [Region.wanted, hg]
    refine ⟨v, S', h1, fun hp => ⟨(h2 hp).1, fun ρ a w he => ?_⟩, fun hp => ⟨(h3 hp).1, fun ρ a w he hh hf => ?_⟩⟩
    · unfold SRuns; rw [if_pos (hw _)]; exact .inl ((h2 hp).2 ρ a w he)
    · unfold SRuns; rw [if_pos (hw _)]; exact (h3 hp).2 ρ a w he hh hf
  | some jw =>
    obtain ⟨j, want⟩ := jw
    rw [hg] at h; simp only at h
    cases ht : gtmp all j with
    | none => rw [ht] at h; cases h
    | some t =>
      rw [ht] at h; simp only at h
      have hlk : ∀ {ρ : Ren} {a : Act}, EnvR ρ (restr γ (looks all o)) a → VR ρ (look γ t) (a.tmps.getD t undef) := fun {ρ a} he => by
        have e := he t
        have : looks all o = t :: tmpsOf o.op.operands.toList := by unfold looks; rw [hg]; simp only; rw [ht]
        rw [this] at e
        have e2 : look (restr γ (t :: tmpsOf o.op.operands.toList)) t = look γ t := by show cond (Nat.beq t t) _ _ = _; rw [Nat.beq_refl]; rfl
        rwa [e2] at e
      rcases wantV_some h with ⟨hv, h1⟩ | ⟨hv, h1⟩
      · obtain ⟨v, S', h1, h2, h3⟩ := denO_ok hcx ok h1
        have hw : ∀ {ρ : Ren} {a : Act}, EnvR ρ (restr γ (looks all o)) a → Region.wanted o (yielded all.toArray a.tmps) = true := fun {ρ a} he => by
          have := (yielded_b ht (hlk he)).1 want hv
          simp [Region.wanted, hg, this]
        refine ⟨v, S', h1, fun hp => ⟨(h2 hp).1, fun ρ a w he => ?_⟩, fun hp => ⟨(h3 hp).1, fun ρ a w he hh hf => ?_⟩⟩
        · unfold SRuns; rw [if_pos (hw he)]; exact .inl ((h2 hp).2 ρ a w he)
        · unfold SRuns; rw [if_pos (hw he)]; exact (h3 hp).2 ρ a w he hh hf
      · have hw : ∀ {ρ : Ren} {a : Act}, EnvR ρ (restr γ (looks all o)) a → ¬ (Region.wanted o (yielded all.toArray a.tmps) = true) := fun {ρ a} he => by
          rcases hv with hv | hv
          · have := (yielded_b ht (hlk he)).2 hv
            simp [Region.wanted, hg, this]
          · have := (yielded_b ht (hlk he)).1 _ hv
            simp [Region.wanted, hg, this]
        refine ⟨.u, S, h1, fun hp => ⟨rfl, fun ρ a w he => ?_⟩, fun hp => ⟨.refl _ _, fun ρ a w he hh hf => ?_⟩⟩
        · unfold SRuns; rw [if_neg (hw he)]; exact ⟨rfl, .u⟩
        · unfold SRuns; rw [if_neg (hw he)]; exact ⟨ρ, .refl hh, .u⟩
theorem CStep.abs {all : List Oper} {o : Oper} {γ : Env} {draw : Bool} {S S' : St} {v : V} (h : CStep P all o γ draw S v S') : Abs (cond (draw && !writerOp o.op) S.cnt S.fl) S S' := by
  cases hp : pureOp o.op
  · exact (h.2 hp).1
  · rw [(h.1 hp).1]; exact .refl _ _
theorem EnvR.put {γ : Env} {a : Act} {v : V} {u : Value} {dst : Option Nat} (h : EnvR ρ γ a) (hd : ∀ d, dst = some d → d < a.tmps.size) (hv : VR ρ v u) : EnvR ρ (bindE dst v γ) (a.put dst u) := by
  cases dst with
  | none => exact h
  | some d =>
    intro t
    show VR ρ (cond (Nat.beq d t) v (look γ t)) ((a.tmps.setIfInBounds d u).getD t undef)
    have hlt := hd d rfl
    cases hb : Nat.beq d t
    · have hne : d ≠ t := fun e => by rw [e, Nat.beq_refl] at hb; cases hb
      have : (a.tmps.setIfInBounds d u).getD t undef = a.tmps.getD t undef := by simp [Array.getD_eq_getD_getElem?, Array.getElem?_setIfInBounds_ne hne]
      rw [this]; exact h t
    · have e := Nat.eq_of_beq_eq_true hb
      subst e
      have : (a.tmps.setIfInBounds d u).getD d undef = u := by simp [Array.getD_eq_getD_getElem?, Array.getElem?_setIfInBounds_self_of_lt hlt]
      rw [this]; exact hv
theorem put_size (a : Act) (dst : Option Nat) (u : Value) : (a.put dst u).tmps.size = a.tmps.size ∧ (a.put dst u).defers = a.defers := by
  cases dst <;> simp [Act.put]
def DB (n : Nat) (l : List Oper) : Prop := ∀ o ∈ l, ∀ d, o.dst = some d → d < n
theorem Post.floor {fl : Nat} {S S' : St} {w w' : World} {ρ' : Ren} {γ : Env} {a : Act} (p : Post ρ fl S S' w w' ρ') (hf : Fresh ρ S.cnt S'.cnt) (h : EnvR ρ γ a) : EnvR ρ' γ a := h.mono (p.mono hf)
theorem den_seq (hcx : cx.OK P) {all : List Oper} : ∀ (l : List Oper) (γ : Env) (S : St) (k : Env → St → R), den P cx false all l γ S k = some out → SOK S →
    ∃ γ' S', k γ' S' = some out ∧ Abs S.fl S S' ∧ ∀ (ρ : Ren) (a : Act) (w : World), EnvR ρ γ a → HRel ρ S w → Fresh ρ S.cnt S'.cnt → DB a.tmps.size l → ∀ Q : Exit → Act → World → Prop,
      (∀ a' w' ρ', Post ρ S.fl S S' w w' ρ' → EnvR ρ' γ' a' → a'.defers = a.defers → a'.tmps.size = a.tmps.size → Q .normal a' w') → wpList P all.toArray Q l a w
  | [], γ, S, k, h, ok => ⟨γ, S, h, .refl _ _, fun ρ a w he hh hf hd Q hQ => hQ a w ρ (.refl hh) he rfl rfl⟩
  | o :: l, γ, S, k, h, ok => by
    obtain ⟨v, S1, h1, hc⟩ := denS_ok hcx ok h
    have ha1 : Abs S.fl S S1 := hc.abs
    obtain ⟨γ', S', h2, ha2, hr⟩ := den_seq hcx l _ S1 k h1 (ha1.ok ok)
    rw [ha1.fl_] at ha2 hr
    refine ⟨γ', S', h2, ha1.trans ha2, fun ρ a w he hh hf hd Q hQ => ?_⟩
    have hf1 : Fresh ρ S.cnt S1.cnt := hf.left (S2 := S') ha2.cnt
    have her : EnvR ρ (restr γ (looks all o)) a := .restr _ fun t _ => he t
    have run : SRuns P all.toArray o a w fun u w' => ∃ ρ', Post ρ S.fl S S1 w w' ρ' ∧ VR ρ' v u := by
      cases hp : pureOp o.op
      · exact (hc.2 hp).2 ρ a w her hh hf1
      · obtain ⟨e, hps⟩ := hc.1 hp
        have := hps ρ a w her
        rw [e]
        unfold SRuns at this ⊢
        split at this
        · rename_i hw; rw [if_pos hw]; exact this.mono fun u w' ⟨e1, e2⟩ => by subst e1; exact ⟨ρ, .refl hh, e2⟩
        · rename_i hw; rw [if_neg hw]; exact ⟨ρ, .refl hh, this.2⟩
    have next : ∀ u w1, (∃ ρ', Post ρ S.fl S S1 w w1 ρ' ∧ VR ρ' v u) → wpList P all.toArray Q l (a.put o.dst u) w1 := fun u w1 ⟨ρ1, p1, hv⟩ => by
      refine hr ρ1 _ w1 (((p1.floor hf1 he).put (fun d e => hd o (List.mem_cons_self ..) d e) hv)) p1.heap (hf.right ha1.cnt p1) (fun o' ho' d e => by rw [(put_size a o.dst u).1]; exact hd o' (List.mem_cons_of_mem _ ho') d e) Q ?_
      intro a' w' ρ' p2 he2 hd2 hs2
      exact hQ a' w' ρ' (p1.trans ha1.cnt ha2.cnt p2) he2 (hd2.trans (put_size a o.dst u).2) (hs2.trans (put_size a o.dst u).1)
    unfold wpList
    unfold SRuns at run
    split
    · rename_i hw; rw [if_pos hw] at run; exact .inl (run.wp fun u w' h => next u w' h)
    · rename_i hw; rw [if_neg hw] at run; exact next undef w run
end Go.AM
