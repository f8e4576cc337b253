/- One operation of a region, calls and guards among them. -/
import Derived.Test.YtpendgpnikmohaaGreatX13
namespace Go.AM
set_option linter.unusedVariables false
set_option linter.unusedSimpArgs false
variable {out : V × St} {P : Program} {ρ : Ren} {w : World}
/-- a call of a function comes to a value -/
def CallsX (P : Program) (f : FuncId) (args : Array Value) (w : World) (T : Value → World → Prop) : Prop :=
  ((callFunc f args).run P w = .ok (.enter f args) w ∧ Calls P f args w fun e w' => ∃ u, e = .returned u ∧ T u w') ∨ ∃ u w', (callFunc f args).run P w = .ok (.value u) w' ∧ T u w'
def CallOK (P : Program) (f : FuncId) (vs : List V) (S : St) (v : V) (S' : St) : Prop :=
  Abs S.fl S S' ∧ ∀ (ρ : Ren) (w : World) (args : Array Value), VRs ρ vs args.toList → HRel ρ S w → Fresh ρ S.cnt S'.cnt → CallsX P f args w fun u w' => ∃ ρ', Post ρ S.fl S S' w w' ρ' ∧ VR ρ' v u
/-- F is what the function f does -/
def FOK (P : Program) (f : FuncId) (F : Fun) : Prop := ∀ (vs : List V) (S : St) (k : Cont) (out : V × St), SOK S → F vs S k = some out → ∃ v S', k v S' = some out ∧ CallOK P f vs S v S'
/-- what is known of the functions that may be called, by name and as values -/
structure Cx where
  fs : List (Nat × Fun)
  tb : List (Nat × Fun)
structure Cx.OK (P : Program) (cx : Cx) : Prop where
  fs : ∀ f F, (f, F) ∈ cx.fs → FOK P f F
  tb : ∀ f F, (f, F) ∈ cx.tb → FOK P f F
def find (l : List (Nat × Fun)) (f : Nat) : Option Fun := match l with
  | [] => none
  | (g, F) :: r => cond (Nat.beq g f) (some F) (find r f)
theorem find_mem {l : List (Nat × Fun)} {f : Nat} {F : Fun} (h : find l f = some F) : (f, F) ∈ l := by
  induction l with
  | nil => cases h
  | cons x l ih =>
    obtain ⟨g, G⟩ := x
    simp only [find] at h
    cases hb : Nat.beq g f <;> rw [hb] at h
    · exact List.mem_cons_of_mem _ (ih h)
    · cases h; rw [Nat.eq_of_beq_eq_true hb]; exact List.mem_cons_self ..
noncomputable def drawF (draw : Bool) (f : Sem3) : Sem3 := match draw with | true => pDraw f | false => f
noncomputable def denC (cx : Cx) (draw : Bool) (γ : Env) : Op → Option Sem3
  | .call { callee := .value (.func f), args, .. } => (match find cx.fs f with | some F => some (drawF draw (F (args.toList.map (val γ)))) | none => none)
  | .call { callee := .value (.tmp t), args, .. } => some (drawF draw (pCallv cx.tb (look γ t) (args.toList.map (val γ))))
  | _ => none
/-- the operation runs, or enters a function that returns -/
def RunsX (P : Program) (o : Oper) (a : Act) (w : World) (T : Value → World → Prop) : Prop :=
  Runs P o a w T ∨ ∃ f args, (execOp a.eval o).run P w = .ok (.enter f args) w ∧ Calls P f args w fun e w' => ∃ u, e = .returned u ∧ T u w'
theorem RunsX.wp {o : Oper} {a : Act} {T : Value → World → Prop} {K : Act → World → Prop} {Q : Exit → Act → World → Prop} (h : RunsX P o a w T) (hK : ∀ u w', T u w' → K (a.put o.dst u) w') : o.wp P a w K Q := by
  rcases h with ⟨u, w', h1 | ⟨h1, h2⟩, h3⟩ | ⟨f, args, h1, h2⟩
  · simp only [Oper.wp, h1, Oper.upon]; exact hK u w' h3
  · subst h2; simp only [Oper.wp, h1, Oper.upon]; exact hK _ w' h3
  · simp only [Oper.wp, h1, Oper.upon]
    exact h2.mono fun e w' ⟨u, he, ht⟩ => by subst he; exact hK u w' ht
theorem RunsX.mono {o : Oper} {a : Act} {T T' : Value → World → Prop} (h : RunsX P o a w T) (hT : ∀ u w', T u w' → T' u w') : RunsX P o a w T' := by
  rcases h with ⟨u, w', h1, h3⟩ | ⟨f, args, h1, h2⟩
  · exact .inl ⟨u, w', h1, hT _ _ h3⟩
  · exact .inr ⟨f, args, h1, h2.mono fun e w' ⟨u, he, ht⟩ => ⟨u, he, hT _ _ ht⟩⟩
def OpX (P : Program) (o : Oper) (γ : Env) (fl : Nat) (S : St) (v : V) (S' : St) : Prop :=
  Abs fl S S' ∧ ∀ (ρ : Ren) (a : Act) (w : World), EnvR ρ γ a → HRel ρ S w → Fresh ρ S.cnt S'.cnt → RunsX P o a w fun u w' => ∃ ρ', Post ρ fl S S' w w' ρ' ∧ VR ρ' v u
theorem OpOK.x {o : Oper} {γ : Env} {fl : Nat} {S S' : St} {v : V} (h : OpOK P o γ fl S v S') : OpX P o γ fl S v S' := ⟨h.1, fun ρ a w he hh hf => .inl (h.2 ρ a w he hh hf)⟩
theorem OpX.lower {o : Oper} {γ : Env} {fl fl' : Nat} {S S' : St} {v : V} (h : OpX P o γ fl S v S') (hf : fl' ≤ fl) : OpX P o γ fl' S v S' :=
  ⟨h.1.mono hf, fun ρ a w he hh hr => (h.2 ρ a w he hh hr).mono fun u w' ⟨ρ', p, q⟩ => ⟨ρ', p.lower hf, q⟩⟩
/-- a call by name or value, at its own floor -/
theorem call_x {o : Oper} {γ : Env} {S S' : St} {v : V} {f : FuncId} {vs : List V} (hc : CallOK P f vs S v S') (he : ∀ (ρ : Ren) (a : Act), EnvR ρ γ a → ∃ args : Array Value, VRs ρ vs args.toList ∧ ∀ w, (execOp a.eval o).run P w = (callFunc f args).run P w) :
    OpX P o γ S.fl S v S' := by
  refine ⟨hc.1, fun ρ a w hv hh hf => ?_⟩
  obtain ⟨args, h1, h2⟩ := he ρ a hv
  rcases hc.2 ρ w args h1 hh hf with ⟨h3, h4⟩ | ⟨u, w', h3, h4⟩
  · exact .inr ⟨f, args, (h2 w).trans h3, h4⟩
  · exact .inl ⟨u, w', .inl ((h2 w).trans h3), h4⟩
def St.at (S : St) (fl : Nat) : St := ⟨S.h, S.nx, S.cnt, fl⟩
theorem drawF_some {draw : Bool} {f : Sem3} {S : St} {c : Cont} (h : drawF draw f S c = some out) : ∃ c', f (cond draw (S.at S.cnt) S) c' = some out ∧ ∀ v S', c' v S' = some out → c v (cond draw (S'.at S.fl) S') = some out := by
  cases draw
  · exact ⟨c, h, fun _ _ h => h⟩
  · exact ⟨_, h, fun v S' h => h⟩
theorem drawn_x {draw : Bool} {o : Oper} {γ : Env} {S S' : St} {v : V} (ok : SOK S) (h : OpX P o γ (cond draw (S.at S.cnt) S).fl (cond draw (S.at S.cnt) S) v S') : OpX P o γ (cond draw S.cnt S.fl) S v (cond draw (S'.at S.fl) S') := by
  cases draw
  · exact h
  · obtain ⟨ha, hr⟩ := h
    have ok1 : SOK (S.at S.cnt) := ⟨ok.nx, Nat.le_trans ok.fl ok.le, Nat.le_refl _, ok.blk⟩
    have hcnt : S.cnt ≤ S'.cnt := ha.cnt
    refine ⟨⟨hcnt, rfl, fun _ => ?_, ha.old⟩, fun ρ a w he hh hf => ?_⟩
    · have := ha.ok ok1
      exact ⟨this.nx, ok.fl, Nat.le_trans ok.le hcnt, this.blk⟩
    · refine (hr ρ a w he ⟨hh.at_, hh.cells, hh.inj⟩ hf).mono fun u w' ⟨ρ', p, q⟩ => ⟨ρ', ⟨p.ext, ⟨p.heap.at_, p.heap.cells, p.heap.inj⟩, p.os, p.tape, p.output, p.size, p.frame, p.new⟩, q⟩
theorem tblK_some : ∀ {t : List (Nat × Fun)} {n : Nat} {vs : List V} {S : St} {c : Cont}, tblK t n vs S c = some out → ∃ F, (n, F) ∈ t ∧ F vs S c = some out
  | [], n, vs, S, c, h => no h
  | (m, F) :: t, n, vs, S, c, h => by
    have h' : iF (Nat.beq m n) (F vs S c) (tblK t n vs S c) = some out := h
    cases hb : Nat.beq m n <;> rw [hb] at h'
    · obtain ⟨G, h1, h2⟩ := tblK_some (show tblK t n vs S c = some out from h')
      exact ⟨G, List.mem_cons_of_mem _ h1, h2⟩
    · exact ⟨F, by rw [Nat.eq_of_beq_eq_true hb]; exact List.mem_cons_self .., h'⟩
theorem denC_ok {cx : Cx} (hcx : cx.OK P) {draw : Bool} {o : Oper} {γ : Env} {S : St} {f : Sem3} (hf : denC cx draw γ o.op = some f) (ok : SOK S) {c : Cont} (h : f S c = some out) :
    ∃ v S', c v S' = some out ∧ OpX P o γ (cond draw S.cnt S.fl) S v S' := by
  have ok' : SOK (cond draw (S.at S.cnt) S) := by
    cases draw
    · exact ok
    · exact ⟨ok.nx, Nat.le_trans ok.fl ok.le, Nat.le_refl _, ok.blk⟩
  cases hop : o.op <;> rw [hop] at hf <;> try (cases hf; done)
  case call c0 =>
    obtain ⟨callee, args, argTypes⟩ := c0
    cases callee <;> try (cases hf; done)
    rename_i x
    cases x <;> try (cases hf; done)
    · rename_i t
      cases hf
      obtain ⟨c', h1, h2⟩ := drawF_some h
      obtain ⟨id, cs, hv, h3⟩ := vF_some (show vF (look γ t) (fun id cs => appK (args.toList.map (val γ)) cs (fun vs => tblK cx.tb id vs _ c')) = some out from h1)
      rw [appK_eq] at h3
      obtain ⟨F, hm, h4⟩ := tblK_some h3
      obtain ⟨v, S', h5, h6⟩ := hcx.tb id F hm _ _ _ _ ok' h4
      refine ⟨v, _, h2 _ _ h5, drawn_x ok (call_x h6 fun ρ a he => ?_)⟩
      have e := he t; rw [hv] at e
      obtain ⟨us, e1, e2⟩ := e.f_inv
      refine ⟨args.map a.eval ++ us, by rw [Array.toList_append, Array.toList_map]; exact (VRs.map he _).append e2, fun w => ?_⟩
      have e3 : a.eval (.tmp t) = .func (.func id) #[] us := e1
      simp only [execOp, hop, resolve, e3, Deferred.ofValue, Sem.run_bind, Sem.run_pure, Result.andThen_ok, invoke, Array.empty_append]
    · rename_i fid
      simp only [denC] at hf
      cases hF : find cx.fs fid with
      | none => rw [hF] at hf; cases hf
      | some F =>
        rw [hF] at hf; cases hf
        obtain ⟨c', h1, h2⟩ := drawF_some h
        obtain ⟨v, S', h5, h6⟩ := hcx.fs fid F (find_mem hF) _ _ _ _ ok' h1
        refine ⟨v, _, h2 _ _ h5, drawn_x ok (call_x h6 fun ρ a he => ?_)⟩
        refine ⟨args.map a.eval, by rw [Array.toList_map]; exact VRs.map he _, fun w => ?_⟩
        have e3 : a.eval (.func fid) = .func (.func fid) #[] #[] := rfl
        simp only [execOp, hop, resolve, e3, Deferred.ofValue, Sem.run_bind, Sem.run_pure, Result.andThen_ok, invoke, Array.empty_append, Array.append_empty]
def pureOp : Op → Bool
  | .move _ | .assign _ | .pick .. | .binOp .. | .unOp .. | .indexAddr .. | .fieldAddr .. | .field .. | .index .. | .extract .. | .makeFunc .. | .nilCheck _ | .slice .. => true
  | .call { callee := .builtin .len, .. } | .call { callee := .builtin .max, .. } | .call { callee := .builtin .min, .. } => true
  | _ => false
def writerOp : Op → Bool
  | .store .. | .call { callee := .builtin .append, .. } => true
  | _ => false
noncomputable def denO (P : Program) (cx : Cx) (draw : Bool) (γ : Env) (op : Op) : Sem3 :=
  match denP P γ op with
  | some f => fun S c => f (fun v => c v S)
  | none => match denSl P γ op with
    | some f => fun S c => f (fun v => c v S)
    | none => match denQ P γ op with
      | some f => f
      | none => match denW P γ op with
        | some f => f
        | none => match denC cx draw γ op with
          | some f => f
          | none => fun _ _ => none
theorem denO_ok {cx : Cx} (hcx : cx.OK P) {draw : Bool} {o : Oper} {γ : Env} {S : St} (ok : SOK S) {c : Cont} (h : denO P cx draw γ o.op S c = some out) :
    ∃ v S', c v S' = some out ∧ (pureOp o.op = true → S' = S ∧ PureOK P o γ v) ∧ (pureOp o.op = false → OpX P o γ (cond (draw && !writerOp o.op) S.cnt S.fl) S v S') := by
  unfold denO at h
  have pure : ∀ {v : V}, c v S = some out → PureOK P o γ v → ∃ v S', c v S' = some out ∧ (pureOp o.op = true → S' = S ∧ PureOK P o γ v) ∧ (pureOp o.op = false → OpX P o γ (cond (draw && !writerOp o.op) S.cnt S.fl) S v S') :=
    fun hv hp => ⟨_, S, hv, fun _ => ⟨rfl, hp⟩, fun _ => (hp.op _ S).x⟩
  cases h1 : denP P γ o.op with
  | some f =>
    rw [h1] at h
    obtain ⟨v, hv, hp⟩ := denP_ok h1 h
    exact pure hv hp
  | none =>
    rw [h1] at h; simp only at h
    cases h2 : denSl P γ o.op with
    | some f =>
      rw [h2] at h
      obtain ⟨v, hv, hp⟩ := denSl_ok h2 h
      exact pure hv hp
    | none =>
      rw [h2] at h; simp only at h
      cases h3 : denQ P γ o.op with
      | some f =>
        rw [h3] at h
        obtain ⟨v, S', hv, hp⟩ := denQ_ok h3 ok h
        have hn : pureOp o.op = false := by
          cases hop : o.op <;> first | rfl | (rw [hop] at h3; cases h3)
        refine ⟨v, S', hv, (fun e => by rw [hn] at e; cases e), fun _ => hp.x.lower ?_⟩
        cases draw && !writerOp o.op
        · exact ok.le
        · exact Nat.le_refl _
      | none =>
        rw [h3] at h; simp only at h
        cases h4 : denW P γ o.op with
        | some f =>
          rw [h4] at h
          obtain ⟨v, S', hv, hp⟩ := denW_ok h4 ok h
          have hn : pureOp o.op = false ∧ writerOp o.op = true := by
            cases hop : o.op <;> try (rw [hop] at h4; cases h4; done)
            · exact ⟨rfl, rfl⟩
            · rename_i c0
              obtain ⟨callee, args, ts⟩ := c0
              rw [hop] at h4
              cases callee <;> try (cases h4; done)
              rename_i b
              cases b <;> first | (cases h4; done) | exact ⟨rfl, rfl⟩
          refine ⟨v, S', hv, (fun e => by rw [hn.1] at e; cases e), fun _ => ?_⟩
          rw [hn.2]; simpa using hp.x
        | none =>
          rw [h4] at h; simp only at h
          cases h5 : denC cx draw γ o.op with
          | none => rw [h5] at h; cases h
          | some f =>
            rw [h5] at h
            obtain ⟨v, S', hv, hp⟩ := denC_ok hcx h5 ok h
            have hn : pureOp o.op = false ∧ writerOp o.op = false := by
              cases hop : o.op <;> try (rw [hop] at h5; cases h5; done)
              rename_i c0
              obtain ⟨callee, args, ts⟩ := c0
              rw [hop] at h5
              cases callee <;> first | (cases h5; done) | exact ⟨rfl, rfl⟩
            refine ⟨v, S', hv, (fun e => by rw [hn.1] at e; cases e), fun _ => ?_⟩
            rw [hn.2]; simpa using hp
end Go.AM
