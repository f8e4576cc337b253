/- One operation of a region, calls and guards among them. -/
import Derived.Test.YtohmfjmgeecfkaaGreatVLB
import Derived.Tactics
import Derived.WalkMore
import Derived.Below
namespace Go.AM
set_option linter.unusedVariables false
set_option linter.unusedSimpArgs false
variable {out : V × St} {P : Program} {ρ : Ren} {w : World}
/-- a call of a function comes to a value -/
def CallsX (P : Program) (f : FuncId) (args : Array Value) (w : World) (T : Value → World → Prop) : Prop :=
  ((callFunc f args).run P w = .ok (.enter f args) w ∧ Calls P f args w fun e w' => ∃ u, e = .returned u ∧ T u w') ∨ ∃ u w', (callFunc f args).run P w = .ok (.value u) w' ∧ T u w'
def CallOK (P : Program) (f : FuncId) (vs : List V) (S : St) (v : V) (S' : St) : Prop :=
  Abs S.fl S S' ∧ ∀ (ρ : Ren) (w : World) (args : Array Value), VRs ρ vs args.toList → HRel ρ S w → Fresh ρ S.cnt S'.cnt → CallsX P f args w fun u w' => ∃ ρ', Post ρ S.fl S S' w w' ρ' ∧ VR ρ' v u
/-- F is what the function f does -/
def FOK (P : Program) (f : FuncId) (F : Fun) : Prop := ∀ (vs : List V) (S : St) (k : Cont) (out : V × St), SOK S → F vs S k = some out → ∃ v S', k v S' = some out ∧ CallOK P f vs S v S'
/-- what is known of the functions that may be called, by name and as values -/
structure Cx where
  fs : List (Nat × Fun)
  tb : List (Nat × Fun)
structure Cx.OK (P : Program) (cx : Cx) : Prop where
  fs : ∀ f F, (f, F) ∈ cx.fs → FOK P f F
  tb : ∀ f F, (f, F) ∈ cx.tb → FOK P f F
def find (l : List (Nat × Fun)) (f : Nat) : Option Fun := match l with
  | [] => none
  | (g, F) :: r => cond (Nat.beq g f) (some F) (find r f)
theorem find_mem {l : List (Nat × Fun)} {f : Nat} {F : Fun} (h : find l f = some F) : (f, F) ∈ l := by
  induction l with
  | nil => cases h
  | cons x l ih =>
    obtain ⟨g, G⟩ := x
    simp only [find] at h
    cases hb : Nat.beq g f <;> rw [hb] at h
    · exact List.mem_cons_of_mem _ (ih h)
    · cases h; rw [Nat.eq_of_beq_eq_true hb]; exact List.mem_cons_self ..
noncomputable def drawF (draw : Bool) (f : Sem3) : Sem3 := match draw with | true => pDraw f | false => f
noncomputable def denC (cx : Cx) (draw : Bool) (γ : Env) : Op → Option Sem3
  | .call { callee := .value (.func f), args, .. } => (match find cx.fs f with | some F => some (drawF draw (F (args.toList.map (val γ)))) | none => none)
  | .call { callee := .value (.tmp t), args, .. } => some (drawF draw (pCallv cx.tb (look γ t) (args.toList.map (val γ))))
  | _ => none
/-- the operation runs, or enters a function that returns -/
def RunsX (P : Program) (o : Oper) (a : Act) (w : World) (T : Value → World → Prop) : Prop :=
  Runs P o a w T ∨ ∃ f args, (execOp a.eval o).run P w = .ok (.enter f args) w ∧ Calls P f args w fun e w' => ∃ u, e = .returned u ∧ T u w'
theorem RunsX.wp {o : Oper} {a : Act} {T : Value → World → Prop} {K : Act → World → Prop} {Q : Exit → Act → World → Prop} (h : RunsX P o a w T) (hK : ∀ u w', T u w' → K (a.put o.dst u) w') : o.wp P a w K Q := by
  rcases h with ⟨u, w', h1 | ⟨h1, h2⟩, h3⟩ | ⟨f, args, h1, h2⟩
  · simp only [Oper.wp, h1, Oper.upon]; exact hK u w' h3
  · subst h2; simp only [Oper.wp, h1, Oper.upon]; exact hK _ w' h3
  · simp only [Oper.wp, h1, Oper.upon]
    exact h2.mono fun e w' ⟨u, he, ht⟩ => by subst he; exact hK u w' ht
theorem RunsX.mono {o : Oper} {a : Act} {T T' : Value → World → Prop} (h : RunsX P o a w T) (hT : ∀ u w', T u w' → T' u w') : RunsX P o a w T' := by
  rcases h with ⟨u, w', h1, h3⟩ | ⟨f, args, h1, h2⟩
  · exact .inl ⟨u, w', h1, hT _ _ h3⟩
  · exact .inr ⟨f, args, h1, h2.mono fun e w' ⟨u, he, ht⟩ => ⟨u, he, hT _ _ ht⟩⟩
def OpX (P : Program) (o : Oper) (γ : Env) (fl : Nat) (S : St) (v : V) (S' : St) : Prop :=
  Abs fl S S' ∧ ∀ (ρ : Ren) (a : Act) (w : World), EnvR ρ γ a → HRel ρ S w → Fresh ρ S.cnt S'.cnt → RunsX P o a w fun u w' => ∃ ρ', Post ρ fl S S' w w' ρ' ∧ VR ρ' v u
theorem OpOK.x {o : Oper} {γ : Env} {fl : Nat} {S S' : St} {v : V} (h : OpOK P o γ fl S v S') : OpX P o γ fl S v S' := ⟨h.1, fun ρ a w he hh hf => .inl (h.2 ρ a w he hh hf)⟩
theorem OpX.lower {o : Oper} {γ : Env} {fl fl' : Nat} {S S' : St} {v : V} (h : OpX P o γ fl S v S') (hf : fl' ≤ fl) : OpX P o γ fl' S v S' :=
  ⟨h.1.mono hf, fun ρ a w he hh hr => (h.2 ρ a w he hh hr).mono fun u w' ⟨ρ', p, q⟩ => ⟨ρ', p.lower hf, q⟩⟩
/-- a call by name or value, at its own floor -/
theorem call_x {o : Oper} {γ : Env} {S S' : St} {v : V} {f : FuncId} {vs : List V} (hc : CallOK P f vs S v S') (he : ∀ (ρ : Ren) (a : Act), EnvR ρ γ a → ∃ args : Array Value, VRs ρ vs args.toList ∧ ∀ w, (execOp a.eval o).run P w = (callFunc f args).run P w) :
    OpX P o γ S.fl S v S' := by
  refine ⟨hc.1, fun ρ a w hv hh hf => ?_⟩
  obtain ⟨args, h1, h2⟩ := he ρ a hv
  rcases hc.2 ρ w args h1 hh hf with ⟨h3, h4⟩ | ⟨u, w', h3, h4⟩
  · exact .inr ⟨f, args, (h2 w).trans h3, h4⟩
  · exact .inl ⟨u, w', .inl ((h2 w).trans h3), h4⟩
def St.at (S : St) (fl : Nat) : St := ⟨S.h, S.nx, S.cnt, fl⟩
theorem drawF_some {draw : Bool} {f : Sem3} {S : St} {c : Cont} (h : drawF draw f S c = some out) : ∃ c', f (cond draw (S.at S.cnt) S) c' = some out ∧ ∀ v S', c' v S' = some out → c v (cond draw (S'.at S.fl) S') = some out := by
  cases draw
  · exact ⟨c, h, fun _ _ h => h⟩
  · exact ⟨_, h, fun v S' h => h⟩
theorem drawn_x {draw : Bool} {o : Oper} {γ : Env} {S S' : St} {v : V} (ok : SOK S) (h : OpX P o γ (cond draw (S.at S.cnt) S).fl (cond draw (S.at S.cnt) S) v S') : OpX P o γ (cond draw S.cnt S.fl) S v (cond draw (S'.at S.fl) S') := by
  cases draw
  · exact h
  · obtain ⟨ha, hr⟩ := h
    have ok1 : SOK (S.at S.cnt) := ⟨ok.nx, Nat.le_trans ok.fl ok.le, Nat.le_refl _, ok.blk⟩
    have hcnt : S.cnt ≤ S'.cnt := ha.cnt
    refine ⟨⟨hcnt, rfl, fun _ => ?_, ha.old⟩, fun ρ a w he hh hf => ?_⟩
    · have := ha.ok ok1
      exact ⟨this.nx, ok.fl, Nat.le_trans ok.le hcnt, this.blk⟩
    · refine (hr ρ a w he ⟨hh.cells, hh.inj, fun id L h1 h2 => Nat.lt_of_lt_of_le (hh.ro id L h1 h2) ok.le⟩ hf).mono fun u w' ⟨ρ', p, q⟩ => ⟨ρ', ⟨p.ext, ⟨p.heap.cells, p.heap.inj, fun id L h1 h2 => by
        have h3 : id.num < S.cnt := by have := p.heap.ro id L h1 h2; rw [ha.fl_] at this; exact this
        rw [p.ext id (.inl h3)] at h1
        exact hh.ro id L h1 h2⟩, p.os, p.tape, p.output, p.size, p.frame, p.new⟩, q⟩
theorem tblK_some : ∀ {t : List (Nat × Fun)} {n : Nat} {vs : List V} {S : St} {c : Cont}, tblK t n vs S c = some out → ∃ F, (n, F) ∈ t ∧ F vs S c = some out
  | [], n, vs, S, c, h => no h
  | (m, F) :: t, n, vs, S, c, h => by
    have h' : iF (Nat.beq m n) (F vs S c) (tblK t n vs S c) = some out := h
    cases hb : Nat.beq m n <;> rw [hb] at h'
    · obtain ⟨G, h1, h2⟩ := tblK_some (show tblK t n vs S c = some out from h')
      exact ⟨G, List.mem_cons_of_mem _ h1, h2⟩
    · exact ⟨F, by rw [Nat.eq_of_beq_eq_true hb]; exact List.mem_cons_self .., h'⟩
theorem denC_ok {cx : Cx} (hcx : cx.OK P) {draw : Bool} {o : Oper} {γ : Env} {S : St} {f : Sem3} (hf : denC cx draw γ o.op = some f) (ok : SOK S) {c : Cont} (h : f S c = some out) :
    ∃ v S', c v S' = some out ∧ OpX P o γ (cond draw S.cnt S.fl) S v S' := by
  have ok' : SOK (cond draw (S.at S.cnt) S) := by
    cases draw
    · exact ok
    · exact ⟨ok.nx, Nat.le_trans ok.fl ok.le, Nat.le_refl _, ok.blk⟩
  cases hop : o.op <;> rw [hop] at hf <;> try (cases hf; done)
  case call c0 =>
    obtain ⟨callee, args, argTypes⟩ := c0
    cases callee <;> try (cases hf; done)
    rename_i x
    cases x <;> try (cases hf; done)
    · rename_i t
      cases hf
      obtain ⟨c', h1, h2⟩ := drawF_some h
      obtain ⟨id, cs, hv, h3⟩ := vF_some (show vF (look γ t) (fun id cs => appK (args.toList.map (val γ)) cs (fun vs => tblK cx.tb id vs _ c')) = some out from h1)
      rw [appK_eq] at h3
      obtain ⟨F, hm, h4⟩ := tblK_some h3
      obtain ⟨v, S', h5, h6⟩ := hcx.tb id F hm _ _ _ _ ok' h4
      refine ⟨v, _, h2 _ _ h5, drawn_x ok (call_x h6 fun ρ a he => ?_)⟩
      have e := he t; rw [hv] at e
      obtain ⟨us, e1, e2⟩ := e.f_inv
      refine ⟨args.map a.eval ++ us, by rw [Array.toList_append, Array.toList_map]; exact (VRs.map he _).append e2, fun w => ?_⟩
      have e3 : a.eval (.tmp t) = .func (.func id) #[] us := e1
      simp only [execOp, hop, resolve, e3, Deferred.ofValue, Sem.run_bind, Sem.run_pure, Result.andThen_ok, invoke, Array.empty_append]
    · rename_i fid
      simp only [denC] at hf
      cases hF : find cx.fs fid with
      | none => rw [hF] at hf; cases hf
      | some F =>
        rw [hF] at hf; cases hf
        obtain ⟨c', h1, h2⟩ := drawF_some h
        obtain ⟨v, S', h5, h6⟩ := hcx.fs fid F (find_mem hF) _ _ _ _ ok' h1
        refine ⟨v, _, h2 _ _ h5, drawn_x ok (call_x h6 fun ρ a he => ?_)⟩
        refine ⟨args.map a.eval, by rw [Array.toList_map]; exact VRs.map he _, fun w => ?_⟩
        have e3 : a.eval (.func fid) = .func (.func fid) #[] #[] := rfl
        simp only [execOp, hop, resolve, e3, Deferred.ofValue, Sem.run_bind, Sem.run_pure, Result.andThen_ok, invoke, Array.empty_append, Array.append_empty]
def pureOp : Op → Bool
  | .move _ | .assign _ | .pick .. | .binOp .. | .unOp .. | .indexAddr .. | .fieldAddr .. | .field .. | .index .. | .extract .. | .makeFunc .. | .nilCheck _ | .slice .. => true
  | .call { callee := .builtin .len, .. } | .call { callee := .builtin .max, .. } | .call { callee := .builtin .min, .. } => true
  | _ => false
def writerOp : Op → Bool
  | .store .. | .call { callee := .builtin .append, .. } => true
  | .mapUpdate .. => true
  | _ => false
noncomputable def denO (P : Program) (cx : Cx) (draw : Bool) (γ : Env) (op : Op) : Sem3 :=
  match denP P γ op with
  | some f => fun S c => f (fun v => c v S)
  | none => match denSl P γ op with
    | some f => fun S c => f (fun v => c v S)
    | none => match denQ P γ op with
      | some f => f
      | none => match denW P γ op with
        | some f => f
        | none => match denC cx draw γ op with
          | some f => f
          | none => match denM P γ op with
            | some f => f
            | none => fun _ _ => none
theorem denO_ok {cx : Cx} (hcx : cx.OK P) {draw : Bool} {o : Oper} {γ : Env} {S : St} (ok : SOK S) {c : Cont} (h : denO P cx draw γ o.op S c = some out) :
    ∃ v S', c v S' = some out ∧ (pureOp o.op = true → S' = S ∧ PureOK P o γ v) ∧ (pureOp o.op = false → OpX P o γ (cond (draw && !writerOp o.op) S.cnt S.fl) S v S') := by
  unfold denO at h
  have pure : ∀ {v : V}, c v S = some out → PureOK P o γ v → ∃ v S', c v S' = some out ∧ (pureOp o.op = true → S' = S ∧ PureOK P o γ v) ∧ (pureOp o.op = false → OpX P o γ (cond (draw && !writerOp o.op) S.cnt S.fl) S v S') :=
    fun hv hp => ⟨_, S, hv, fun _ => ⟨rfl, hp⟩, fun _ => (hp.op _ S).x⟩
  cases h1 : denP P γ o.op with
  | some f =>
    rw [h1] at h
    obtain ⟨v, hv, hp⟩ := denP_ok h1 h
    exact pure hv hp
  | none =>
    rw [h1] at h; simp only at h
    cases h2 : denSl P γ o.op with
    | some f =>
      rw [h2] at h
      obtain ⟨v, hv, hp⟩ := denSl_ok h2 h
      exact pure hv hp
    | none =>
      rw [h2] at h; simp only at h
      cases h3 : denQ P γ o.op with
      | some f =>
        rw [h3] at h
        obtain ⟨v, S', hv, hp⟩ := denQ_ok h3 ok h
        have hn : pureOp o.op = false := by
          cases hop : o.op <;> first | rfl | (rw [hop] at h3; cases h3)
        refine ⟨v, S', hv, (fun e => by rw [hn] at e; cases e), fun _ => hp.x.lower ?_⟩
        cases draw && !writerOp o.op
        · exact ok.le
        · exact Nat.le_refl _
      | none =>
        rw [h3] at h; simp only at h
        cases h4 : denW P γ o.op with
        | some f =>
          rw [h4] at h
          obtain ⟨v, S', hv, hp⟩ := denW_ok h4 ok h
          have hn : pureOp o.op = false ∧ writerOp o.op = true := by
            cases hop : o.op <;> try (rw [hop] at h4; cases h4; done)
            · exact ⟨rfl, rfl⟩
            · rename_i c0
              obtain ⟨callee, args, ts⟩ := c0
              rw [hop] at h4
              cases callee <;> try (cases h4; done)
              rename_i b
              cases b <;> first | (cases h4; done) | exact ⟨rfl, rfl⟩
          refine ⟨v, S', hv, (fun e => by rw [hn.1] at e; cases e), fun _ => ?_⟩
          rw [hn.2]; simpa using hp.x
        | none =>
          rw [h4] at h; simp only at h
          cases h5 : denC cx draw γ o.op with
          | none =>
            rw [h5] at h; simp only at h
            cases h6 : denM P γ o.op with
            | none => rw [h6] at h; cases h
            | some f =>
              rw [h6] at h
              obtain ⟨v, S', hv, hp⟩ := denM_ok h6 ok h
              have hn : pureOp o.op = false ∧ writerOp o.op = updOp o.op := by
                cases hop : o.op <;> first | (rw [hop] at h6; cases h6; done) | exact ⟨rfl, rfl⟩
              refine ⟨v, S', hv, (fun e => by rw [hn.1] at e; cases e), fun _ => ?_⟩
              rw [hn.2]
              refine hp.x.lower ?_
              cases updOp o.op <;> cases draw <;> first | exact Nat.le_refl _ | exact ok.le
          | some f =>
            rw [h5] at h
            obtain ⟨v, S', hv, hp⟩ := denC_ok hcx h5 ok h
            have hn : pureOp o.op = false ∧ writerOp o.op = false := by
              cases hop : o.op <;> try (rw [hop] at h5; cases h5; done)
              rename_i c0
              obtain ⟨callee, args, ts⟩ := c0
              rw [hop] at h5
              cases callee <;> first | (cases h5; done) | exact ⟨rfl, rfl⟩
            refine ⟨v, S', hv, (fun e => by rw [hn.1] at e; cases e), fun _ => ?_⟩
            rw [hn.2]; simpa using hp
end Go.AM

/- Regions: one step with its guard; a region in its own order. -/
namespace Go.AM
set_option linter.unusedVariables false
set_option linter.unusedSimpArgs false
variable {out : V × St} {P : Program} {ρ : Ren} {w : World} {cx : Cx}
def bindE (d : Option Nat) (v : V) (γ : Env) : Env := match d with
  | some d => (d, v) :: γ
  | none => γ
def tmpsOf : List Operand → List Nat
  | [] => []
  | .tmp t :: r => t :: tmpsOf r
  | _ :: r => tmpsOf r
def gtmp (all : List Oper) (j : Nat) : Option Nat := match all[j]? with
  | some o => o.dst
  | none => none
def looks (all : List Oper) (o : Oper) : List Nat := match o.guard with
  | none => tmpsOf o.op.operands.toList
  | some (j, _) => match gtmp all j with
    | some t => t :: tmpsOf o.op.operands.toList
    | none => tmpsOf o.op.operands.toList
/-- what an operation looks at -/
def restr (γ : Env) : List Nat → Env
  | [] => []
  | t :: r => (t, look γ t) :: restr γ r
theorem look_restr (γ : Env) : ∀ (ts : List Nat) (t : Nat), look (restr γ ts) t = look γ t ∨ look (restr γ ts) t = .other
  | [], t => .inr rfl
  | s :: r, t => by
    show cond (Nat.beq s t) (look γ s) (look (restr γ r) t) = look γ t ∨ cond (Nat.beq s t) (look γ s) (look (restr γ r) t) = .other
    cases h : Nat.beq s t
    · exact look_restr γ r t
    · rw [Nat.eq_of_beq_eq_true h]; exact .inl rfl
theorem look_restr_none (γ : Env) : ∀ (ts : List Nat) (t : Nat), t ∉ ts → look (restr γ ts) t = .other
  | [], t, _ => rfl
  | s :: r, t, h => by
    show cond (Nat.beq s t) (look γ s) (look (restr γ r) t) = _
    have : Nat.beq s t = false := by cases hb : Nat.beq s t; rfl; exact absurd (Nat.eq_of_beq_eq_true hb) (fun e => h (by rw [e]; exact List.mem_cons_self ..))
    rw [this]; exact look_restr_none γ r t fun hm => h (List.mem_cons_of_mem _ hm)
theorem EnvR.restr {γ : Env} {a : Act} (ts : List Nat) (h : ∀ t ∈ ts, VR ρ (look γ t) (a.tmps.getD t undef)) : EnvR ρ (restr γ ts) a := fun t => by
  by_cases ht : t ∈ ts
  · rcases look_restr γ ts t with e | e <;> rw [e]
    · exact h t ht
    · exact .other _
  · rw [look_restr_none γ ts t ht]; exact .other _
def maskOf (acc : List Nat) : List Edge → Nat → Nat
  | [], s => s
  | e :: r, s => maskOf acc r (cond (Region.binds .any e) (Nat.lor (Nat.lor s (2 ^ e.on)) (acc.getD e.on 0)) s)
def masks : List Oper → List Nat → List Nat
  | [], acc => acc
  | o :: r, acc => masks r (acc ++ [maskOf acc o.after.toList 0])
/-- a call of a function or a closure -/
def callB : Op → Bool
  | .call { callee := .value _, .. } => true
  | _ => false
def ordAll (m L : Nat) : List Oper → Nat → Bool
  | [], _ => true
  | p :: r, i => (Nat.beq i L || pureOp p.op || m.testBit i) && ordAll m L r (i + 1)
/-- is the last operation a call that comes behind all that touch memory -/
def lastCall (all : List Oper) : Option (Option Nat) := match all.getLast? with
  | some q => cond (callB q.op && ordAll ((masks all []).getD (all.length - 1) 0) (all.length - 1) all 0) (some q.dst) none
  | none => none
/-- the operations that may write into what is old: they must stand in order with all others that touch memory -/
def wOp (all : List Oper) (o : Oper) : Bool := writerOp o.op || (callB o.op && (match lastCall all with | some d => d == o.dst | none => false))
theorem wOp_w {all : List Oper} {o : Oper} (draw : Bool) : ((draw && !wOp all o) && !writerOp o.op) = (draw && !wOp all o) := by
  unfold wOp; cases writerOp o.op <;> simp
theorem pure_not_w {all : List Oper} {o : Oper} (h : pureOp o.op = true) : wOp all o = false := by
  have h2 : callB o.op = false := by
    cases ho : o.op <;> rw [ho] at h <;> try (first | rfl | (cases h; done))
    rename_i c
    obtain ⟨callee, as, ts⟩ := c
    cases callee <;> first | rfl | (cases h; done)
  have h3 : writerOp o.op = false := by
    cases ho : o.op <;> rw [ho] at h <;> try (first | rfl | (cases h; done))
    rename_i c
    obtain ⟨callee, as, ts⟩ := c
    cases callee <;> try (first | rfl | (cases h; done))
    rename_i b
    cases b <;> first | rfl | (cases h; done)
  unfold wOp; rw [h2, h3]; rfl
noncomputable def denS (P : Program) (cx : Cx) (draw : Bool) (all : List Oper) (γ : Env) (o : Oper) : Sem3 := match o.guard with
  | none => denO P cx (draw && !wOp all o) (restr γ (looks all o)) o.op
  | some (j, w) => match gtmp all j with
    | some t => fun S c => pGd (look γ t) w (fun c => denO P cx (draw && !wOp all o) (restr γ (looks all o)) o.op S c) S c
    | none => fun _ _ => none
noncomputable def den (P : Program) (cx : Cx) (draw : Bool) (all : List Oper) : List Oper → Env → St → (Env → St → R) → R
  | [], γ, S, k => k γ S
  | o :: r, γ, S, k => denS P cx draw all γ o S (fun v S => den P cx draw all r (bindE o.dst v γ) S k)
/-- the operation runs, or its guard says no -/
def SRuns (P : Program) (ops : Array Oper) (o : Oper) (a : Act) (w : World) (T : Value → World → Prop) : Prop :=
  if Region.wanted o (yielded ops a.tmps) = true then RunsX P o a w T else T undef w
def PStep (P : Program) (ops : Array Oper) (o : Oper) (γ : Env) (v : V) : Prop := ∀ (ρ : Ren) (a : Act) (w : World), EnvR ρ γ a → SRuns P ops o a w fun u w' => w' = w ∧ VR ρ v u
def SStep (P : Program) (ops : Array Oper) (o : Oper) (γ : Env) (fl : Nat) (S : St) (v : V) (S' : St) : Prop :=
  Abs fl S S' ∧ ∀ (ρ : Ren) (a : Act) (w : World), EnvR ρ γ a → HRel ρ S w → Fresh ρ S.cnt S'.cnt → SRuns P ops o a w fun u w' => ∃ ρ', Post ρ fl S S' w w' ρ' ∧ VR ρ' v u
def CStep (P : Program) (all : List Oper) (o : Oper) (γ : Env) (draw : Bool) (S : St) (v : V) (S' : St) : Prop :=
  (pureOp o.op = true → S' = S ∧ PStep P all.toArray o (restr γ (looks all o)) v) ∧ (pureOp o.op = false → SStep P all.toArray o (restr γ (looks all o)) (cond (draw && !wOp all o) S.cnt S.fl) S v S')
theorem yielded_b {all : List Oper} {j t : Nat} (hg : gtmp all j = some t) {a : Act} {v : V} (h : VR ρ v (a.tmps.getD t undef)) :
    (∀ b, v = .b b → yielded all.toArray a.tmps j = some b) ∧ (v = .u → yielded all.toArray a.tmps j = none) := by
  have hd : ((all.toArray[j]?).bind (·.dst)) = some t := by
    unfold gtmp at hg
    simp only [List.getElem?_toArray]
    cases ho : all[j]? with
    | none => rw [ho] at hg; cases hg
    | some o => rw [ho] at hg; exact hg
  have hget : a.tmps.getD t undef = (a.tmps[t]?).getD undef := by simp [Array.getD_eq_getD_getElem?]
  refine ⟨fun b hb => ?_, fun hb => ?_⟩
  · subst hb
    have e := h.b_inv
    rw [hget] at e
    unfold yielded
    rw [hd]
    cases ht : a.tmps[t]? with
    | none => rw [ht] at e; cases e
    | some x => rw [ht] at e; simp at e; subst e; simp [ht]
  · subst hb
    have e := h.u_inv
    rw [hget] at e
    unfold yielded
    rw [hd]
    cases ht : a.tmps[t]? with
    | none => simp [ht]
    | some x => rw [ht] at e; simp at e; subst e; simp [ht, undef]
theorem denS_ok (hcx : cx.OK P) {draw : Bool} {all : List Oper} {o : Oper} {γ : Env} {S : St} (ok : SOK S) {c : Cont} (h : denS P cx draw all γ o S c = some out) :
    ∃ v S', c v S' = some out ∧ CStep P all o γ draw S v S' := by
  unfold denS at h
  cases hg : o.guard with
  | none =>
    rw [hg] at h
    obtain ⟨v, S', h1, h2, h3⟩ := denO_ok hcx ok h
    rw [wOp_w] at h3
    have hw : ∀ y, Region.wanted o y = true := fun y => by simp [Region.wanted, hg]
    refine ⟨v, S', h1, fun hp => ⟨(h2 hp).1, fun ρ a w he => ?_⟩, fun hp => ⟨(h3 hp).1, fun ρ a w he hh hf => ?_⟩⟩
    · unfold SRuns; rw [if_pos (hw _)]; exact .inl ((h2 hp).2 ρ a w he)
    · unfold SRuns; rw [if_pos (hw _)]; exact (h3 hp).2 ρ a w he hh hf
  | some jw =>
    obtain ⟨j, want⟩ := jw
    rw [hg] at h; simp only at h
    cases ht : gtmp all j with
    | none => rw [ht] at h; cases h
    | some t =>
      rw [ht] at h; simp only at h
      have hlk : ∀ {ρ : Ren} {a : Act}, EnvR ρ (restr γ (looks all o)) a → VR ρ (look γ t) (a.tmps.getD t undef) := fun {ρ a} he => by
        have e := he t
        have : looks all o = t :: tmpsOf o.op.operands.toList := by unfold looks; rw [hg]; simp only; rw [ht]
        rw [this] at e
        have e2 : look (restr γ (t :: tmpsOf o.op.operands.toList)) t = look γ t := by show cond (Nat.beq t t) _ _ = _; rw [Nat.beq_refl]; rfl
        rwa [e2] at e
      rcases wantV_some h with ⟨hv, h1⟩ | ⟨hv, h1⟩
      · obtain ⟨v, S', h1, h2, h3⟩ := denO_ok hcx ok h1
        rw [wOp_w] at h3
        have hw : ∀ {ρ : Ren} {a : Act}, EnvR ρ (restr γ (looks all o)) a → Region.wanted o (yielded all.toArray a.tmps) = true := fun {ρ a} he => by
          have := (yielded_b ht (hlk he)).1 want hv
          simp [Region.wanted, hg, this]
        refine ⟨v, S', h1, fun hp => ⟨(h2 hp).1, fun ρ a w he => ?_⟩, fun hp => ⟨(h3 hp).1, fun ρ a w he hh hf => ?_⟩⟩
        · unfold SRuns; rw [if_pos (hw he)]; exact .inl ((h2 hp).2 ρ a w he)
        · unfold SRuns; rw [if_pos (hw he)]; exact (h3 hp).2 ρ a w he hh hf
      · have hw : ∀ {ρ : Ren} {a : Act}, EnvR ρ (restr γ (looks all o)) a → ¬ (Region.wanted o (yielded all.toArray a.tmps) = true) := fun {ρ a} he => by
          rcases hv with hv | hv
          · have := (yielded_b ht (hlk he)).2 hv
            simp [Region.wanted, hg, this]
          · have := (yielded_b ht (hlk he)).1 _ hv
            simp [Region.wanted, hg, this]
        refine ⟨.u, S, h1, fun hp => ⟨rfl, fun ρ a w he => ?_⟩, fun hp => ⟨.refl _ _, fun ρ a w he hh hf => ?_⟩⟩
        · unfold SRuns; rw [if_neg (hw he)]; exact ⟨rfl, .u⟩
        · unfold SRuns; rw [if_neg (hw he)]; exact ⟨ρ, .refl hh, .u⟩
theorem CStep.abs {all : List Oper} {o : Oper} {γ : Env} {draw : Bool} {S S' : St} {v : V} (h : CStep P all o γ draw S v S') : Abs (cond (draw && !wOp all o) S.cnt S.fl) S S' := by
  cases hp : pureOp o.op
  · exact (h.2 hp).1
  · rw [(h.1 hp).1]; exact .refl _ _
theorem EnvR.put {γ : Env} {a : Act} {v : V} {u : Value} {dst : Option Nat} (h : EnvR ρ γ a) (hd : ∀ d, dst = some d → d < a.tmps.size) (hv : VR ρ v u) : EnvR ρ (bindE dst v γ) (a.put dst u) := by
  cases dst with
  | none => exact h
  | some d =>
    intro t
    show VR ρ (cond (Nat.beq d t) v (look γ t)) ((a.tmps.setIfInBounds d u).getD t undef)
    have hlt := hd d rfl
    cases hb : Nat.beq d t
    · have hne : d ≠ t := fun e => by rw [e, Nat.beq_refl] at hb; cases hb
      have : (a.tmps.setIfInBounds d u).getD t undef = a.tmps.getD t undef := by simp [Array.getD_eq_getD_getElem?, Array.getElem?_setIfInBounds_ne hne]
      rw [this]; exact h t
    · have e := Nat.eq_of_beq_eq_true hb
      subst e
      have : (a.tmps.setIfInBounds d u).getD d undef = u := by simp [Array.getD_eq_getD_getElem?, Array.getElem?_setIfInBounds_self_of_lt hlt]
      rw [this]; exact hv
theorem put_size (a : Act) (dst : Option Nat) (u : Value) : (a.put dst u).tmps.size = a.tmps.size ∧ (a.put dst u).defers = a.defers := by
  cases dst <;> simp [Act.put]
def DB (n : Nat) (l : List Oper) : Prop := ∀ o ∈ l, ∀ d, o.dst = some d → d < n
theorem Post.floor {fl : Nat} {S S' : St} {w w' : World} {ρ' : Ren} {γ : Env} {a : Act} (p : Post ρ fl S S' w w' ρ') (hf : Fresh ρ S.cnt S'.cnt) (h : EnvR ρ γ a) : EnvR ρ' γ a := h.mono (p.mono hf)
theorem den_seq (hcx : cx.OK P) {all : List Oper} : ∀ (l : List Oper) (γ : Env) (S : St) (k : Env → St → R), den P cx false all l γ S k = some out → SOK S →
    ∃ γ' S', k γ' S' = some out ∧ Abs S.fl S S' ∧ ∀ (ρ : Ren) (a : Act) (w : World), EnvR ρ γ a → HRel ρ S w → Fresh ρ S.cnt S'.cnt → DB a.tmps.size l → ∀ Q : Exit → Act → World → Prop,
      (∀ a' w' ρ', Post ρ S.fl S S' w w' ρ' → EnvR ρ' γ' a' → a'.defers = a.defers → a'.tmps.size = a.tmps.size → Q .normal a' w') → wpList P all.toArray Q l a w
  | [], γ, S, k, h, ok => ⟨γ, S, h, .refl _ _, fun ρ a w he hh hf hd Q hQ => hQ a w ρ (.refl hh) he rfl rfl⟩
  | o :: l, γ, S, k, h, ok => by
    obtain ⟨v, S1, h1, hc⟩ := denS_ok hcx ok h
    have ha1 : Abs S.fl S S1 := hc.abs
    obtain ⟨γ', S', h2, ha2, hr⟩ := den_seq hcx l _ S1 k h1 (ha1.ok ok)
    rw [ha1.fl_] at ha2 hr
    refine ⟨γ', S', h2, ha1.trans ha2, fun ρ a w he hh hf hd Q hQ => ?_⟩
    have hf1 : Fresh ρ S.cnt S1.cnt := hf.left (S2 := S') ha2.cnt
    have her : EnvR ρ (restr γ (looks all o)) a := .restr _ fun t _ => he t
    have run : SRuns P all.toArray o a w fun u w' => ∃ ρ', Post ρ S.fl S S1 w w' ρ' ∧ VR ρ' v u := by
      cases hp : pureOp o.op
      · exact (hc.2 hp).2 ρ a w her hh hf1
      · obtain ⟨e, hps⟩ := hc.1 hp
        have := hps ρ a w her
        rw [e]
        unfold SRuns at this ⊢
        split at this
        · rename_i hw; rw [if_pos hw]; exact this.mono fun u w' ⟨e1, e2⟩ => by subst e1; exact ⟨ρ, .refl hh, e2⟩
        · rename_i hw; rw [if_neg hw]; exact ⟨ρ, .refl hh, this.2⟩
    have next : ∀ u w1, (∃ ρ', Post ρ S.fl S S1 w w1 ρ' ∧ VR ρ' v u) → wpList P all.toArray Q l (a.put o.dst u) w1 := fun u w1 ⟨ρ1, p1, hv⟩ => by
      refine hr ρ1 _ w1 (((p1.floor hf1 he).put (fun d e => hd o (List.mem_cons_self ..) d e) hv)) p1.heap (hf.right ha1.cnt p1) (fun o' ho' d e => by rw [(put_size a o.dst u).1]; exact hd o' (List.mem_cons_of_mem _ ho') d e) Q ?_
      intro a' w' ρ' p2 he2 hd2 hs2
      exact hQ a' w' ρ' (p1.trans ha1.cnt ha2.cnt p2) he2 (hd2.trans (put_size a o.dst u).2) (hs2.trans (put_size a o.dst u).1)
    unfold wpList
    unfold SRuns at run
    split
    · rename_i hw; rw [if_pos hw] at run; exact .inl (run.wp fun u w' h => next u w' h)
    · rename_i hw; rw [if_neg hw] at run; exact next undef w run
end Go.AM

/- A region that draws its order: whatever order is drawn, the memory is as after the region's own order, up to names. -/
namespace Go.AM
set_option linter.unusedVariables false
set_option linter.unusedSimpArgs false
variable {out : V × St} {P : Program} {ρ : Ren} {w : World} {cx : Cx}
/-- j waits for i -/
def Dir (all : List Oper) (i j : Nat) : Prop := ∃ o e, all[j]? = some o ∧ e ∈ o.after.toList ∧ Region.binds .any e = true ∧ e.on = i
inductive Pre (all : List Oper) : Nat → Nat → Prop
  | one {i j : Nat} : Dir all i j → Pre all i j
  | more {i k j : Nat} : Pre all i k → Dir all k j → Pre all i j
theorem maskOf_ok {all : List Oper} {acc : List Nat} {j : Nat} (hacc : ∀ k i, (acc.getD k 0).testBit i = true → Pre all i k) : ∀ (es : List Edge) (s : Nat), (∀ e ∈ es, Region.binds .any e = true → Dir all e.on j) → (∀ i, s.testBit i = true → Pre all i j) → ∀ i, (maskOf acc es s).testBit i = true → Pre all i j
  | [], s, _, hs, i, h => hs i h
  | e :: r, s, he, hs, i, h => by
    refine maskOf_ok hacc r _ (fun e' h' => he e' (List.mem_cons_of_mem _ h')) ?_ i h
    intro i h
    cases hb : Region.binds .any e <;> rw [hb] at h
    · exact hs i h
    · have h' : ((s ||| 2 ^ e.on) ||| acc.getD e.on 0).testBit i = true := h
      rw [Nat.testBit_or, Nat.testBit_or, Bool.or_eq_true, Bool.or_eq_true] at h'
      have hd := he e (List.mem_cons_self ..) hb
      rcases h' with (h1 | h1) | h1
      · exact hs i h1
      · rw [Nat.testBit_two_pow] at h1; have := of_decide_eq_true h1; subst this; exact .one hd
      · exact .more (hacc _ _ h1) hd
theorem masks_ok {all : List Oper} : ∀ (l : List Oper) (acc : List Nat) (done : List Oper), all = done ++ l → done.length = acc.length → (∀ k i, (acc.getD k 0).testBit i = true → Pre all i k) → ∀ k i, ((masks l acc).getD k 0).testBit i = true → Pre all i k
  | [], acc, done, _, _, h => h
  | o :: r, acc, done, ha, hl, h => by
    refine masks_ok r (acc ++ [maskOf acc o.after.toList 0]) (done ++ [o]) (by rw [ha]; simp) (by simp [hl]) ?_
    intro k i hk
    rcases Nat.lt_or_ge k acc.length with h1 | h1
    · rw [List.getD_eq_getElem?_getD, List.getElem?_append_left h1, ← List.getD_eq_getElem?_getD] at hk; exact h k i hk
    · rcases Nat.eq_or_lt_of_le h1 with h2 | h2
      · subst h2
        rw [List.getD_eq_getElem?_getD, List.getElem?_append_right (Nat.le_refl _), Nat.sub_self] at hk
        refine maskOf_ok h o.after.toList 0 (fun e he hb => ⟨o, e, ?_, he, hb, rfl⟩) (fun i hi => by simp at hi) i hk
        rw [ha, ← hl, List.getElem?_append_right (Nat.le_refl _), Nat.sub_self]; rfl
      · rw [List.getD_eq_getElem?_getD, List.getElem?_eq_none (by simp; omega)] at hk; simp at hk
def pairOk (all : List Oper) (ms : List Nat) (o : Oper) (j : Nat) (p : Oper) (i : Nat) : Bool :=
  (Nat.beq i j || (match p.dst, o.dst with | some d, some e => !Nat.beq d e | _, _ => true)) &&
  ((match p.dst with | some t => !(looks all o).contains t | none => true) || (cond (Nat.blt i j) ((ms.getD j 0).testBit i) (Nat.beq i j || (ms.getD i 0).testBit j))) &&
  (!(wOp all o && !pureOp p.op) || Nat.beq i j || (cond (Nat.blt i j) ((ms.getD j 0).testBit i) ((ms.getD i 0).testBit j)))
def okRow (all : List Oper) (ms : List Nat) (o : Oper) (j : Nat) : List Oper → Nat → Bool
  | [], _ => true
  | p :: r, i => pairOk all ms o j p i && okRow all ms o j r (i + 1)
def okRows (all : List Oper) (ms : List Nat) : List Oper → Nat → Bool
  | [], _ => true
  | o :: r, j => (o.after.toList.all fun e => !Region.binds .any e || Nat.blt e.on j) && okRow all ms o j all 0 && okRows all ms r (j + 1)
/-- the order may be drawn -/
def okDraw (all : List Oper) : Bool := okRows all (masks all []) all 0
theorem okRow_get {all : List Oper} {ms : List Nat} {o : Oper} {j : Nat} : ∀ (l : List Oper) (i0 : Nat), okRow all ms o j l i0 = true → ∀ i p, l[i]? = some p → pairOk all ms o j p (i0 + i) = true
  | [], _, _, i, p, h => by simp at h
  | q :: r, i0, h, 0, p, hp => by simp only [okRow, Bool.and_eq_true] at h; simp at hp; subst hp; exact h.1
  | q :: r, i0, h, i + 1, p, hp => by
    simp only [okRow, Bool.and_eq_true] at h
    have := okRow_get r (i0 + 1) h.2 i p (by simpa using hp)
    rwa [show i0 + 1 + i = i0 + (i + 1) by omega] at this
theorem okRows_get {all : List Oper} {ms : List Nat} : ∀ (l : List Oper) (j0 : Nat), okRows all ms l j0 = true → ∀ j o, l[j]? = some o → (o.after.toList.all fun e => !Region.binds .any e || Nat.blt e.on (j0 + j)) = true ∧ okRow all ms o (j0 + j) all 0 = true
  | [], _, _, j, o, h => by simp at h
  | q :: r, j0, h, 0, o, ho => by simp only [okRows, Bool.and_eq_true] at h; simp at ho; subst ho; exact h.1
  | q :: r, j0, h, j + 1, o, ho => by
    simp only [okRows, Bool.and_eq_true] at h
    have := okRows_get r (j0 + 1) h.2 j o (by simpa using ho)
    rwa [show j0 + 1 + j = j0 + (j + 1) by omega] at this
structure DrawOK (all : List Oper) : Prop where
  back : ∀ i j, Dir all i j → i < j
  dist : ∀ (i j : Nat) (p o : Oper) (d : Nat), all[i]? = some p → all[j]? = some o → p.dst = some d → o.dst = some d → i = j
  look : ∀ (i j : Nat) (p o : Oper) (t : Nat), all[i]? = some p → all[j]? = some o → p.dst = some t → t ∈ looks all o → (i < j ∧ Pre all i j) ∨ (j ≤ i ∧ (i = j ∨ Pre all j i))
  wr : ∀ (i j : Nat) (p o : Oper), all[i]? = some p → all[j]? = some o → wOp all o = true → pureOp p.op = false → i ≠ j → (i < j → Pre all i j) ∧ (j < i → Pre all j i)
theorem blt_lt {a b : Nat} (h : Nat.blt a b = true) : a < b := Nat.le_of_ble_eq_true h
theorem okDraw_ok {all : List Oper} (h : okDraw all = true) : DrawOK all := by
  have hm := masks_ok all [] [] rfl rfl (fun k i hk => by simp at hk)
  have row : ∀ j o, all[j]? = some o → (o.after.toList.all fun e => !Region.binds .any e || Nat.blt e.on j) = true ∧ ∀ i p, all[i]? = some p → pairOk all (masks all []) o j p i = true := fun j o ho => by
    obtain ⟨h1, h2⟩ := okRows_get all 0 h j o ho
    rw [Nat.zero_add] at h1 h2
    exact ⟨h1, fun i p hp => by have := okRow_get all 0 h2 i p hp; rwa [Nat.zero_add] at this⟩
  have pr : ∀ {i j : Nat} {p o : Oper}, all[i]? = some p → all[j]? = some o → pairOk all (masks all []) o j p i = true := fun {i j p o} hp ho => (row j o ho).2 i p hp
  refine ⟨fun i j ⟨o, e, ho, he, hb, hi⟩ => ?_, fun i j p o d hp ho hd hd' => ?_, fun i j p o t hp ho hd ht => ?_, fun i j p o hp ho hw hpp hne => ?_⟩
  · have := List.all_eq_true.1 (row j o ho).1 e he
    rw [hb] at this
    rw [← hi]; exact blt_lt (by simpa using this)
  · have h1 := pr hp ho
    simp only [pairOk, Bool.and_eq_true] at h1
    have h2 := h1.1.1
    rw [hd, hd'] at h2
    simp only [Bool.or_eq_true, Nat.beq_refl, Bool.not_true, Bool.false_eq_true, or_false] at h2
    exact Nat.eq_of_beq_eq_true h2
  · have h1 := pr hp ho
    simp only [pairOk, Bool.and_eq_true] at h1
    have h2 := h1.1.2
    rw [hd] at h2
    have hc : (looks all o).contains t = true := by simpa using ht
    simp only [hc, Bool.not_true, Bool.false_or] at h2
    cases hq : Nat.blt i j
    · rw [hq] at h2
      simp only [cond_false, Bool.or_eq_true] at h2
      have hle : j ≤ i := by rcases Nat.lt_or_ge i j with h | h; rw [show Nat.blt i j = true from Nat.ble_eq_true_of_le h] at hq; cases hq; exact h
      exact .inr ⟨hle, h2.imp (fun h => Nat.eq_of_beq_eq_true h) (hm i j)⟩
    · rw [hq] at h2
      exact .inl ⟨blt_lt hq, hm j i h2⟩
  · have h1 := pr hp ho
    simp only [pairOk, Bool.and_eq_true] at h1
    have h2 := h1.2
    have hb : Nat.beq i j = false := by cases hq : Nat.beq i j; rfl; exact absurd (Nat.eq_of_beq_eq_true hq) hne
    rw [hw, hpp, hb] at h2
    simp only [Bool.not_false, Bool.and_self, Bool.not_true, Bool.false_or] at h2
    refine ⟨fun hl => ?_, fun hl => ?_⟩
    · have : Nat.blt i j = true := Nat.ble_eq_true_of_le hl
      rw [this] at h2; exact hm j i h2
    · have : Nat.blt i j = false := by cases hq : Nat.blt i j; rfl; have := blt_lt hq; omega
      rw [this] at h2; exact hm i j h2
/-- a region run in its own order -/
structure Lx (P : Program) (all : List Oper) (G : Nat → Env) (T : Nat → St) (vv : Nat → V) : Prop where
  ok0 : SOK (T 0)
  step : ∀ j o, all[j]? = some o → CStep P all o (G j) true (T j) (vv j) (T (j + 1))
  env : ∀ j o, all[j]? = some o → G (j + 1) = bindE o.dst (vv j) (G j)
  chk : DrawOK all
theorem den_lx (hcx : cx.OK P) {all : List Oper} : ∀ (l : List Oper) (γ : Env) (S : St) (k : Env → St → R), den P cx true all l γ S k = some out → SOK S →
    ∃ (G : Nat → Env) (T : Nat → St) (vv : Nat → V), G 0 = γ ∧ T 0 = S ∧ k (G l.length) (T l.length) = some out ∧ (∀ j o, l[j]? = some o → CStep P all o (G j) true (T j) (vv j) (T (j + 1)) ∧ G (j + 1) = bindE o.dst (vv j) (G j))
  | [], γ, S, k, h, ok => ⟨fun _ => γ, fun _ => S, fun _ => .u, rfl, rfl, h, fun j o ho => by simp at ho⟩
  | o :: l, γ, S, k, h, ok => by
    obtain ⟨v, S1, h1, hc⟩ := denS_ok hcx ok h
    obtain ⟨G, T, vv, hG, hT, hk, hs⟩ := den_lx hcx l _ S1 k h1 (hc.abs.ok ok)
    refine ⟨fun j => match j with | 0 => γ | j + 1 => G j, fun j => match j with | 0 => S | j + 1 => T j, fun j => match j with | 0 => v | j + 1 => vv j, rfl, rfl, hk, fun j p hp => ?_⟩
    cases j with
    | zero => simp at hp; subst hp; simp only; rw [hG, hT]; exact ⟨hc, rfl⟩
    | succ j => exact hs j p (by simpa using hp)
section lx
variable {all : List Oper} {G : Nat → Env} {T : Nat → St} {vv : Nat → V}
theorem Lx.ok (X : Lx P all G T vv) : ∀ j, j ≤ all.length → SOK (T j)
  | 0, _ => X.ok0
  | j + 1, h => by
    obtain ⟨o, ho⟩ : ∃ o, all[j]? = some o := ⟨_, List.getElem?_eq_getElem (by omega)⟩
    exact (X.step j o ho).abs.ok (X.ok j (by omega))
theorem Lx.get {j : Nat} (h : j < all.length) : ∃ o, all[j]? = some o := ⟨_, List.getElem?_eq_getElem h⟩
theorem Lx.cnt (X : Lx P all G T vv) {i : Nat} : ∀ j, i ≤ j → j ≤ all.length → (T i).cnt ≤ (T j).cnt
  | 0, h, _ => by have : i = 0 := by omega
                  subst this; exact Nat.le_refl _
  | j + 1, h, h2 => by
    rcases Nat.eq_or_lt_of_le h with h3 | h3
    · subst h3; exact Nat.le_refl _
    · obtain ⟨o, ho⟩ := Lx.get (all := all) (j := j) (by omega)
      exact Nat.le_trans (X.cnt j (by omega) (by omega)) (X.step j o ho).abs.cnt
theorem Lx.fl (X : Lx P all G T vv) : ∀ j, j ≤ all.length → (T j).fl = (T 0).fl
  | 0, _ => rfl
  | j + 1, h => by
    obtain ⟨o, ho⟩ := Lx.get (all := all) (j := j) (by omega)
    exact (X.step j o ho).abs.fl_.trans (X.fl j (by omega))
/-- no writer between: what was there is there -/
theorem Lx.seg (X : Lx P all G T vv) {i : Nat} : ∀ j, i ≤ j → j ≤ all.length → (∀ k o, i ≤ k → k < j → all[k]? = some o → wOp all o = false) → ∀ id : Pos, id.num < (T i).cnt → (T j).h.get id = (T i).h.get id
  | 0, h, _, _, id, _ => by have : i = 0 := by omega
                            subst this; rfl
  | j + 1, h, h2, hw, id, hid => by
    rcases Nat.eq_or_lt_of_le h with h3 | h3
    · subst h3; rfl
    · obtain ⟨o, ho⟩ := Lx.get (all := all) (j := j) (by omega)
      have hc := (X.step j o ho).abs
      rw [hw j o (by omega) (by omega) ho] at hc
      rw [hc.old id (Nat.lt_of_lt_of_le hid (X.cnt j (by omega) (by omega)))]
      exact X.seg j (by omega) (by omega) (fun k o hk hk2 => hw k o hk (by omega)) id hid
/-- the slots, step by step -/
theorem Lx.look_new (X : Lx P all G T vv) {i : Nat} {o : Oper} {t : Nat} (hi : all[i]? = some o) (ht : o.dst = some t) : ∀ m, i < m → m ≤ all.length → look (G m) t = vv i
  | 0, h, _ => by omega
  | m + 1, h, h2 => by
    obtain ⟨p, hp⟩ := Lx.get (all := all) (j := m) (by omega)
    rw [X.env m p hp]
    rcases Nat.eq_or_lt_of_le (Nat.le_of_lt_succ h) with h3 | h3
    · subst h3
      rw [hi] at hp; cases hp
      rw [ht]; show cond (Nat.beq t t) (vv i) _ = _; rw [Nat.beq_refl]; rfl
    · have ih := X.look_new hi ht m h3 (by omega)
      cases hd : p.dst with
      | none => exact ih
      | some d =>
        have hne : d ≠ t := fun e => by
          subst e
          have := X.chk.dist i m o p d hi hp ht hd
          omega
        show cond (Nat.beq d t) _ _ = _
        have : Nat.beq d t = false := by cases hb : Nat.beq d t; rfl; exact absurd (Nat.eq_of_beq_eq_true hb) hne
        rw [this]; exact ih
theorem Lx.look_old (X : Lx P all G T vv) {t : Nat} : ∀ m, m ≤ all.length → (∀ i o, i < m → all[i]? = some o → o.dst ≠ some t) → look (G m) t = look (G 0) t
  | 0, _, _ => rfl
  | m + 1, h, hn => by
    obtain ⟨p, hp⟩ := Lx.get (all := all) (j := m) (by omega)
    rw [X.env m p hp]
    have ih := X.look_old m (by omega) (fun i o hi => hn i o (by omega))
    cases hd : p.dst with
    | none => exact ih
    | some d =>
      have hne : d ≠ t := fun e => by subst e; exact hn m p (by omega) hp hd
      show cond (Nat.beq d t) _ _ = _
      have : Nat.beq d t = false := by cases hb : Nat.beq d t; rfl; exact absurd (Nat.eq_of_beq_eq_true hb) hne
      rw [this]; exact ih
end lx
end Go.AM

/- A region that draws its order: every order. -/
namespace Go.AM
set_option linter.unusedVariables false
set_option linter.unusedSimpArgs false
variable {P : Program} {all : List Oper} {G : Nat → Env} {T : Nat → St} {vv : Nat → V}
/-- what an operation does to the model's memory, without the memory's own relation -/
structure Post0 (ρ : Ren) (fl : Nat) (S S' : St) (w w' : World) (ρ' : Ren) : Prop where
  ext : ∀ id : Pos, id.num < S.cnt ∨ S'.cnt ≤ id.num → ρ' id = ρ id
  os : w'.os = w.os
  tape : w'.tape = w.tape
  output : w'.output = w.output
  size : w.heap.size ≤ w'.heap.size
  frame : ∀ k, k < w.heap.size → (∀ id L, ρ id = some L → fl ≤ id.num → id.num < S.cnt → L.b ≠ k) → w'.heap[k]? = w.heap[k]?
  new : ∀ id L, S.cnt ≤ id.num → id.num < S'.cnt → ρ' id = some L → w.heap.size ≤ L.b ∨ ∃ id0 L0, ρ id0 = some L0 ∧ fl ≤ id0.num ∧ id0.num < S.cnt ∧ L0.b = L.b
theorem Post.p0 {ρ ρ' : Ren} {fl : Nat} {S S' : St} {w w' : World} (p : Post ρ fl S S' w w' ρ') : Post0 ρ fl S S' w w' ρ' := ⟨p.ext, p.os, p.tape, p.output, p.size, p.frame, p.new⟩
theorem Post0.refl {ρ : Ren} {fl : Nat} {S : St} {w : World} : Post0 ρ fl S S w w ρ := ⟨fun _ _ => rfl, rfl, rfl, rfl, Nat.le_refl _, fun _ _ _ => rfl, fun id L a b _ => by omega⟩
theorem Post0.mono {ρ ρ1 : Ren} {fl : Nat} {S S1 : St} {w w1 : World} (p : Post0 ρ fl S S1 w w1 ρ1) (f : Fresh ρ S.cnt S1.cnt) : ∀ id L, ρ id = some L → ρ1 id = some L := fun id L h => by
  rcases Nat.lt_or_ge id.num S.cnt with h1 | h1
  · rw [p.ext id (.inl h1)]; exact h
  · rcases Nat.lt_or_ge id.num S1.cnt with h2 | h2
    · rw [f id h1 h2] at h; cases h
    · rw [p.ext id (.inr h2)]; exact h
def Ls (ls : Array Bool) (j : Nat) : Prop := ls.getD j false = true
theorem Ls.set {ls : Array Bool} {i j : Nat} (hi : i < ls.size) : Ls (ls.setIfInBounds i true) j ↔ j = i ∨ Ls ls j := by
  unfold Ls
  rw [Array.getD_eq_getD_getElem?, Array.getD_eq_getD_getElem?, Array.getElem?_setIfInBounds]
  by_cases h : i = j
  · subst h; simp [hi]
  · have : j ≠ i := fun e => h e.symm
    simp [h, this]
/-- no writer at or behind ν has come up, all before have -/
def At (all : List Oper) (ls : Array Bool) (ν : Nat) : Prop :=
  ν ≤ all.length ∧ (∀ k o, all[k]? = some o → k < ν → wOp all o = true → Ls ls k) ∧ (∀ o, all[ν]? = some o → wOp all o = true ∧ ¬ Ls ls ν)
structure Inv (P : Program) (all : List Oper) (G : Nat → Env) (T : Nat → St) (vv : Nat → V) (ρ0 : Ren) (a0 : Act) (w0 : World) (ls : Array Bool) (ρ : Ren) (a : Act) (w : World) : Prop where
  size : ls.size = all.length
  closed : ∀ i j, Dir all i j → Ls ls j → Ls ls i
  env1 : ∀ (j : Nat) (o : Oper) (t : Nat), all[j]? = some o → o.dst = some t → Ls ls j → VR ρ (vv j) (a.tmps.getD t undef)
  env0 : ∀ t, (∀ (j : Nat) (o : Oper), all[j]? = some o → o.dst = some t → ¬ Ls ls j) → VR ρ (look (G 0) t) (a.tmps.getD t undef)
  heap : ∀ ν, At all ls ν → HRel ρ (T ν) w
  unb : ∀ j, j < all.length → ¬ Ls ls j → ∀ id : Pos, (T j).cnt ≤ id.num → id.num < (T (j + 1)).cnt → ρ id = none
  ext : ∀ id : Pos, id.num < (T 0).cnt ∨ (T all.length).cnt ≤ id.num → ρ id = ρ0 id
  mono : ∀ id L, ρ0 id = some L → ρ id = some L
  os : w.os = w0.os
  tape : w.tape = w0.tape
  output : w.output = w0.output
  wsize : w0.heap.size ≤ w.heap.size
  frame : ∀ k, k < w0.heap.size → (∀ id L, ρ0 id = some L → (T 0).fl ≤ id.num → id.num < (T 0).cnt → L.b ≠ k) → w.heap[k]? = w0.heap[k]?
  new : ∀ id L, (T 0).cnt ≤ id.num → id.num < (T all.length).cnt → ρ id = some L → w0.heap.size ≤ L.b ∨ ∃ id0 L0, ρ0 id0 = some L0 ∧ (T 0).fl ≤ id0.num ∧ id0.num < (T 0).cnt ∧ L0.b = L.b
  defers : a.defers = a0.defers
  tsize : a.tmps.size = a0.tmps.size
theorem Inv.pre {ρ0 ρ : Ren} {a0 a : Act} {w0 w : World} {ls : Array Bool} (I : Inv P all G T vv ρ0 a0 w0 ls ρ a w) {i j : Nat} (h : Pre all i j) (hj : Ls ls j) : Ls ls i := by
  induction h with
  | one h => exact I.closed _ _ h hj
  | more h1 h2 ih => exact ih (I.closed _ _ h2 hj)
/-- an operation all of whose predecessors have come up -/
theorem Inv.pres {ρ0 ρ : Ren} {a0 a : Act} {w0 w : World} {ls : Array Bool} (I : Inv P all G T vv ρ0 a0 w0 ls ρ a w) {i j : Nat} (h : Pre all i j) (hj : ∀ k, Dir all k j → Ls ls k) : Ls ls i := by
  cases h with
  | one h => exact hj _ h
  | more h1 h2 => exact I.pre h1 (hj _ h2)
/-- what it looks at -/
theorem Inv.envR (X : Lx P all G T vv) {ρ0 ρ : Ren} {a0 a : Act} {w0 w : World} {ls : Array Bool} (I : Inv P all G T vv ρ0 a0 w0 ls ρ a w) {j : Nat} {o : Oper} (ho : all[j]? = some o) (hnl : ¬ Ls ls j) (hj : ∀ k, Dir all k j → Ls ls k) : EnvR ρ (restr (G j) (looks all o)) a := by
  have hjl : j < all.length := (List.getElem?_eq_some_iff.1 ho).1
  refine .restr _ fun t ht => ?_
  by_cases hd : ∃ (i : Nat) (p : Oper), all[i]? = some p ∧ p.dst = some t
  · obtain ⟨i, p, hp, hpt⟩ := hd
    rcases X.chk.look i j p o t hp ho hpt ht with ⟨h1, h2⟩ | ⟨h1, h2⟩
    · rw [X.look_new hp hpt j h1 (by omega)]
      exact I.env1 i p t hp hpt (I.pres h2 hj)
    · have one : ∀ (k : Nat) (q : Oper), all[k]? = some q → q.dst = some t → k = i := fun k q hq hqt => X.chk.dist k i q p t hq hp hqt hpt
      have hni : ¬ Ls ls i := fun hl => by
        rcases h2 with h2 | h2
        · subst h2; exact hnl hl
        · exact hnl (I.pre h2 hl)
      rw [X.look_old j (by omega) (fun k q hk hq e => by have := one k q hq e; omega)]
      exact I.env0 t fun k q hq e => by have := one k q hq e; subst this; exact hni
  · have hn : ∀ (i : Nat) (p : Oper), all[i]? = some p → p.dst ≠ some t := fun i p hp e => hd ⟨i, p, hp, e⟩
    rw [X.look_old j (by omega) (fun i p _ hp => hn i p hp)]
    exact I.env0 t fun i p hp e => absurd e (hn i p hp)
/-- One operation more. -/
theorem Inv.step (X : Lx P all G T vv) {ρ0 ρ : Ren} {a0 a : Act} {w0 w : World} {ls : Array Bool} (I : Inv P all G T vv ρ0 a0 w0 ls ρ a w) {j : Nat} {o : Oper} (ho : all[j]? = some o) (hn : ¬ Ls ls j) (hj : ∀ k, Dir all k j → Ls ls k)
    (hdb : ∀ d, o.dst = some d → d < a.tmps.size) {fl : Nat} (hfl : (T 0).fl ≤ fl) {u : Value} {w' : World} {ρ' : Ren} (p : Post0 ρ fl (T j) (T (j + 1)) w w' ρ') (hv : VR ρ' (vv j) u)
    (hh : ∀ ν, At all (ls.setIfInBounds j true) ν → HRel ρ' (T ν) w') : Inv P all G T vv ρ0 a0 w0 (ls.setIfInBounds j true) ρ' (a.put o.dst u) w' := by
  have hjl : j < all.length := (List.getElem?_eq_some_iff.1 ho).1
  have hjs : j < ls.size := by rw [I.size]; exact hjl
  have hfr : Fresh ρ (T j).cnt (T (j + 1)).cnt := fun id a b => I.unb j hjl hn id a b
  have mono := p.mono hfr
  have c0 := X.cnt j (Nat.zero_le _) (by omega)
  have c1 := X.cnt (j + 1) (Nat.le_succ j) (by omega)
  have c2 := X.cnt all.length (i := j + 1) (by omega) (Nat.le_refl _)
  have slot : ∀ t, (∀ d, o.dst = some d → d ≠ t) → (a.put o.dst u).tmps.getD t undef = a.tmps.getD t undef := fun t ht => by
    cases hd : o.dst with
    | none => rfl
    | some d => simp [Act.put, Array.getD_eq_getD_getElem?, Array.getElem?_setIfInBounds_ne (ht d hd)]
  refine { size := by simp [I.size], closed := ?_, env1 := ?_, env0 := ?_, heap := hh, unb := ?_, ext := ?_, mono := fun id L h => mono id L (I.mono id L h), os := p.os.trans I.os, tape := p.tape.trans I.tape, output := p.output.trans I.output, wsize := Nat.le_trans I.wsize p.size, frame := ?_, new := ?_, defers := (put_size a o.dst u).2.trans I.defers, tsize := (put_size a o.dst u).1.trans I.tsize }
  · intro i k hd hk
    rw [Ls.set hjs] at hk ⊢
    rcases hk with rfl | hk
    · exact .inr (hj i hd)
    · exact .inr (I.closed i k hd hk)
  · intro k q t hq hqt hk
    rw [Ls.set hjs] at hk
    by_cases hkj : k = j
    · subst hkj
      rw [ho] at hq; cases hq
      have hlt := hdb t hqt
      have : (a.put o.dst u).tmps.getD t undef = u := by rw [hqt]; simp [Act.put, Array.getD_eq_getD_getElem?, Array.getElem?_setIfInBounds_self_of_lt hlt]
      rw [this]; exact hv
    · rcases hk with h | hk
      · exact absurd h hkj
      · rw [slot t fun d hd e => hkj (X.chk.dist k j q o t hq ho hqt (by rw [hd, e]))]
        exact (I.env1 k q t hq hqt hk).mono mono
  · intro t ht
    rw [slot t fun d hd e => by subst e; exact ht j o ho hd ((Ls.set hjs).2 (.inl rfl))]
    exact (I.env0 t fun k q hq hqt hk => ht k q hq hqt ((Ls.set hjs).2 (.inr hk))).mono mono
  · intro k hk hnk id h1 h2
    rw [Ls.set hjs] at hnk
    have hne : k ≠ j := fun e => hnk (.inl e)
    have hnl : ¬ Ls ls k := fun e => hnk (.inr e)
    rw [p.ext id ?_]
    · exact I.unb k hk hnl id h1 h2
    · rcases Nat.lt_or_ge k j with h3 | h3
      · have := X.cnt j (i := k + 1) (by omega) (by omega); omega
      · have := X.cnt k (i := j + 1) (by omega) (by omega); omega
  · intro id hid
    rw [p.ext id (by omega)]; exact I.ext id hid
  · intro k hk hh
    rw [p.frame k (Nat.lt_of_lt_of_le hk I.wsize) ?_, I.frame k hk hh]
    intro id L hL h1 h2
    rcases Nat.lt_or_ge id.num (T 0).cnt with h3 | h3
    · rw [I.ext id (.inl h3)] at hL; exact hh id L hL (by omega) h3
    · rcases I.new id L h3 (by omega) hL with h4 | ⟨i0, L0, x1, x2, x3, x4⟩
      · omega
      · rw [← x4]; exact hh i0 L0 x1 x2 x3
  · intro id L h1 h2 hL
    by_cases hnew : (T j).cnt ≤ id.num ∧ id.num < (T (j + 1)).cnt
    · rcases p.new id L hnew.1 hnew.2 hL with h4 | ⟨i0, L0, x1, x2, x3, x4⟩
      · exact .inl (Nat.le_trans I.wsize h4)
      · rcases Nat.lt_or_ge i0.num (T 0).cnt with h5 | h5
        · rw [I.ext i0 (.inl h5)] at x1; exact .inr ⟨i0, L0, x1, by omega, h5, x4⟩
        · rcases I.new i0 L0 h5 (by omega) x1 with h6 | ⟨i1, L1, y1, y2, y3, y4⟩
          · exact .inl (by omega)
          · exact .inr ⟨i1, L1, y1, y2, y3, y4.trans x4⟩
    · rw [p.ext id (by omega)] at hL; exact I.new id L h1 h2 hL
/-- the memory behind an operation that is no writer -/
theorem Inv.quiet (X : Lx P all G T vv) {ρ0 ρ : Ren} {a0 a : Act} {w0 w : World} {ls : Array Bool} (I : Inv P all G T vv ρ0 a0 w0 ls ρ a w) {j : Nat} {o : Oper} (ho : all[j]? = some o) (hn : ¬ Ls ls j) (hj : ∀ k, Dir all k j → Ls ls k)
    (hw : wOp all o = false) {w' : World} {ρ' : Ren} (p : Post ρ (T j).cnt (T j) (T (j + 1)) w w' ρ') (hseg : ∀ ν, At all ls ν → j < ν ∧ ∀ id : Pos, id.num < (T (j + 1)).cnt → (T ν).h.get id = (T (j + 1)).h.get id) :
    ∀ ν, At all (ls.setIfInBounds j true) ν → HRel ρ' (T ν) w' := by
  have hjl : j < all.length := (List.getElem?_eq_some_iff.1 ho).1
  have hjs : j < ls.size := by rw [I.size]; exact hjl
  have hfr : Fresh ρ (T j).cnt (T (j + 1)).cnt := fun id a b => I.unb j hjl hn id a b
  have mono := p.mono hfr
  have c1 := X.cnt (j + 1) (Nat.le_succ j) (by omega)
  intro ν hν
  have hν0 : At all ls ν := by
    refine ⟨hν.1, fun k q hq hk hqw => ?_, fun q hq => ⟨(hν.2.2 q hq).1, fun h => (hν.2.2 q hq).2 ((Ls.set hjs).2 (.inr h))⟩⟩
    rcases (Ls.set hjs).1 (hν.2.1 k q hq hk hqw) with e | e
    · subst e; rw [ho] at hq; cases hq; rw [hw] at hqw; cases hqw
    · exact e
  obtain ⟨hlt, hsg⟩ := hseg ν hν0
  have H := I.heap ν hν0
  refine ⟨fun id L b hL hb h0 => ?_, fun id id' L L' b b' hL hL' hb hb' h0 h0' he hq => ?_, fun id L hL hr => by
    have := p.heap.ro id L hL hr
    rw [X.fl (j + 1) (by omega)] at this
    rw [X.fl ν hν.1]; exact this⟩
  · rcases Nat.lt_or_ge id.num (T (j + 1)).cnt with h1 | h1
    · rw [hsg id h1] at hb; exact p.heap.cells id L b hL hb h0
    · rw [p.ext id (.inr h1)] at hL
      exact (H.cells id L b hL hb h0).mono mono (p.frame L.b (H.at_ hL hb h0) (fun _ _ _ x y => by omega))
  · have side : ∀ (i : Pos) (M : Loc), ρ' i = some M → (ρ i = some M) ∨ ((T j).cnt ≤ i.num ∧ i.num < (T (j + 1)).cnt ∧ w.heap.size ≤ M.b) := fun i M hM => by
      by_cases hnew : (T j).cnt ≤ i.num ∧ i.num < (T (j + 1)).cnt
      · rcases p.new i M hnew.1 hnew.2 hM with h4 | ⟨_, _, _, x2, x3, _⟩
        · exact .inr ⟨hnew.1, hnew.2, h4⟩
        · omega
      · rw [p.ext i (by omega)] at hM; exact .inl hM
    rcases side id L hL with g1 | ⟨g1, g2, g3⟩ <;> rcases side id' L' hL' with g1' | ⟨g1', g2', g3'⟩
    · exact H.inj id id' L L' b b' g1 g1' hb hb' h0 h0' he hq
    · have := H.at_ g1 hb h0; omega
    · have := H.at_ g1' hb' h0'; omega
    · rw [hsg id g2] at hb; rw [hsg id' g2'] at hb'
      exact p.heap.inj id id' L L' b b' hL hL' hb hb' h0 h0' he hq
end Go.AM

/- A region that draws its order: the theorem. -/
namespace Go.AM
set_option linter.unusedVariables false
set_option linter.unusedSimpArgs false
variable {out : V × St} {P : Program} {all : List Oper} {G : Nat → Env} {T : Nat → St} {vv : Nat → V} {cx : Cx}
theorem least {p : Nat → Prop} : ∀ n, p n → ∃ m, m ≤ n ∧ p m ∧ ∀ k, k < m → ¬ p k := by
  intro n
  induction n using Nat.strongRecOn with
  | _ n ih =>
    intro h
    by_cases hk : ∃ k, k < n ∧ p k
    · obtain ⟨k, h1, h2⟩ := hk
      obtain ⟨m, h3, h4⟩ := ih k h1 h2
      exact ⟨m, by omega, h4⟩
    · exact ⟨n, Nat.le_refl _, h, fun k h1 h2 => hk ⟨k, h1, h2⟩⟩
theorem at_ex (ls : Array Bool) : ∃ ν, At all ls ν := by
  by_cases h : ∃ ν, ∃ o, all[ν]? = some o ∧ wOp all o = true ∧ ¬ Ls ls ν
  · obtain ⟨n, hn⟩ := h
    obtain ⟨m, _, ⟨o, h1, h2, h3⟩, h4⟩ := least (p := fun ν => ∃ o, all[ν]? = some o ∧ wOp all o = true ∧ ¬ Ls ls ν) n hn
    refine ⟨m, Nat.le_of_lt (List.getElem?_eq_some_iff.1 h1).1, fun k q hq hk hw => ?_, fun q hq => ?_⟩
    · by_cases hl : Ls ls k
      · exact hl
      · exact absurd ⟨q, hq, hw, hl⟩ (h4 k hk)
    · rw [h1] at hq; cases hq; exact ⟨h2, h3⟩
  · refine ⟨all.length, Nat.le_refl _, fun k q hq hk hw => ?_, fun q hq => ?_⟩
    · by_cases hl : Ls ls k
      · exact hl
      · exact absurd ⟨k, q, hq, hw, hl⟩ h
    · rw [List.getElem?_eq_none (Nat.le_refl _)] at hq; cases hq
theorem Lx.born (X : Lx P all G T vv) {i x : Nat} : ∀ m, i ≤ m → m ≤ all.length → (T i).cnt ≤ x → x < (T m).cnt → ∃ k, i ≤ k ∧ k < m ∧ (T k).cnt ≤ x ∧ x < (T (k + 1)).cnt
  | 0, h, _, h1, h2 => by have : i = 0 := by omega
                          subst this; omega
  | m + 1, h, hm, h1, h2 => by
    rcases Nat.eq_or_lt_of_le h with h3 | h3
    · subst h3; omega
    · rcases Nat.lt_or_ge x (T m).cnt with h4 | h4
      · obtain ⟨k, a, b, c⟩ := X.born m (by omega) (by omega) h1 h4
        exact ⟨k, a, by omega, c⟩
      · exact ⟨m, by omega, by omega, h4, h2⟩
theorem Lx.abs (X : Lx P all G T vv) : ∀ m, m ≤ all.length → Abs (T 0).fl (T 0) (T m)
  | 0, _ => .refl _ _
  | m + 1, h => by
    obtain ⟨o, ho⟩ := Lx.get (all := all) (j := m) (by omega)
    have hc := (X.step m o ho).abs
    have hm := X.abs m (by omega)
    refine hm.trans (hc.mono ?_)
    cases true && !wOp all o
    · show (T 0).fl ≤ (T m).fl; rw [hm.fl_]; exact Nat.le_refl _
    · show (T 0).fl ≤ (T m).cnt; have := (X.ok m (by omega)).le; rw [hm.fl_] at this; exact this
section step
variable {ρ0 ρ : Ren} {a0 a : Act} {w0 w : World} {ls : Array Bool} {Q : Exit → Act → World → Prop}
theorem Inv.one (X : Lx P all G T vv) (I : Inv P all G T vv ρ0 a0 w0 ls ρ a w) (hdb : DB a0.tmps.size all) {j : Nat} {o : Oper} (ho : all[j]? = some o) (hn : ¬ Ls ls j) (hj : ∀ k, Dir all k j → Ls ls k) :
    SRuns P all.toArray o a w fun u w' => ∃ ρ', Inv P all G T vv ρ0 a0 w0 (ls.setIfInBounds j true) ρ' (a.put o.dst u) w' := by
  have hjl : j < all.length := (List.getElem?_eq_some_iff.1 ho).1
  have hjs : j < ls.size := by rw [I.size]; exact hjl
  have hfr : Fresh ρ (T j).cnt (T (j + 1)).cnt := fun id a b => I.unb j hjl hn id a b
  have he := I.envR X ho hn hj
  have hd : ∀ d, o.dst = some d → d < a.tmps.size := fun d e => by rw [I.tsize]; exact hdb o (List.mem_of_getElem? ho) d e
  have hflj := X.fl j (by omega)
  have okj := X.ok j (by omega)
  have SR : ∀ {T1 T2 : Value → World → Prop}, SRuns P all.toArray o a w T1 → (∀ u w', T1 u w' → T2 u w') → SRuns P all.toArray o a w T2 := fun {T1 T2} h hT => by
    unfold SRuns at h ⊢
    split at h
    · rename_i hw; rw [if_pos hw]; exact h.mono hT
    · rename_i hw; rw [if_neg hw]; exact hT _ _ h
  cases hp : pureOp o.op
  · -- memory
    obtain ⟨ha, hr⟩ := (X.step j o ho).2 hp
    obtain ⟨ν, hν⟩ := at_ex (all := all) ls
    cases hw : wOp all o
    · -- quiet
      rw [hw] at ha hr
      simp only [Bool.not_false, Bool.and_self, cond_true] at ha hr
      have seg : ∀ ν, At all ls ν → j < ν ∧ ∀ k q, j ≤ k → k < ν → all[k]? = some q → wOp all q = false := fun ν hν => by
        have h1 : j < ν := by
          rcases Nat.lt_or_ge j ν with h | h
          · exact h
          · obtain ⟨q, hq⟩ := Lx.get (all := all) (j := ν) (by omega)
            obtain ⟨h2, h3⟩ := hν.2.2 q hq
            rcases Nat.eq_or_lt_of_le h with h4 | h4
            · subst h4; rw [ho] at hq; cases hq; rw [hw] at h2; cases h2
            · exact absurd (I.pres ((X.chk.wr j ν o q ho hq h2 hp (by omega)).2 h4) hj) h3
        refine ⟨h1, fun k q hk hkν hq => ?_⟩
        cases hqw : wOp all q
        · rfl
        · rcases Nat.eq_or_lt_of_le hk with h4 | h4
          · subst h4; rw [ho] at hq; cases hq; rw [hw] at hqw; cases hqw
          · exact absurd (I.pre ((X.chk.wr j k o q ho hq hqw hp (by omega)).1 h4) (hν.2.1 k q hq hkν hqw)) hn
      obtain ⟨hlt, hno⟩ := seg ν hν
      have H := I.heap ν hν
      have hsg0 := X.seg (i := j) ν (by omega) hν.1 hno
      have Hj : HRel ρ (T j) w := by
        refine ⟨fun id L b hL hb h0 => H.cells id L b hL ?_ h0, fun id id' L L' b b' hL hL' hb hb' h0 h0' hee hq => H.inj id id' L L' b b' hL hL' ?_ ?_ h0 h0' hee hq, fun id L hL hr => by
          have := H.ro id L hL hr
          rw [X.fl ν hν.1] at this
          rw [hflj]; exact this⟩
        · rw [hsg0 id (okj.blk id b hb).1]; exact hb
        · rw [hsg0 id (okj.blk id b hb).1]; exact hb
        · rw [hsg0 id' (okj.blk id' b' hb').1]; exact hb'
      refine SR (hr ρ a w he Hj hfr) fun u w' ⟨ρ', p, hv⟩ => ⟨ρ', I.step X ho hn hj hd (by rw [← hflj]; exact okj.le) p.p0 hv ?_⟩
      refine I.quiet X ho hn hj hw p fun ν hν => ?_
      obtain ⟨h1, h2⟩ := seg ν hν
      exact ⟨h1, X.seg (i := j + 1) ν (by omega) hν.1 fun k q hk hkν hq => h2 k q (by omega) hkν hq⟩
    · -- writer
      rw [hw] at ha hr
      simp only [Bool.not_true, Bool.and_false, cond_false] at ha hr
      have hjν : ν = j := by
        rcases Nat.lt_or_ge j ν with h | h
        · exact absurd (hν.2.1 j o ho h hw) hn
        · rcases Nat.eq_or_lt_of_le h with h4 | h4
          · exact h4
          · obtain ⟨q, hq⟩ := Lx.get (all := all) (j := ν) (by omega)
            obtain ⟨h2, h3⟩ := hν.2.2 q hq
            exact absurd (I.pres ((X.chk.wr j ν o q ho hq h2 hp (by omega)).2 h4) hj) h3
      subst hjν
      have H := I.heap ν hν
      refine SR (hr ρ a w he H hfr) fun u w' ⟨ρ', p, hv⟩ => ⟨ρ', I.step X ho hn hj hd (by rw [← hflj]; exact Nat.le_refl _) p.p0 hv ?_⟩
      intro μ hμ
      have h1 : ν < μ := by
        rcases Nat.lt_or_ge ν μ with h | h
        · exact h
        · obtain ⟨q, hq⟩ := Lx.get (all := all) (j := μ) (by omega)
          obtain ⟨h2, h3⟩ := hμ.2.2 q hq
          rcases Nat.eq_or_lt_of_le h with h4 | h4
          · exact absurd ((Ls.set hjs).2 (.inl h4)) h3
          · exact absurd ((Ls.set hjs).2 (.inr (hν.2.1 μ q hq h4 h2))) h3
      have hno : ∀ k q, ν + 1 ≤ k → k < μ → all[k]? = some q → wOp all q = false := fun k q hk hkμ hq => by
        cases hqw : wOp all q
        · rfl
        · rcases (Ls.set hjs).1 (hμ.2.1 k q hq hkμ hqw) with h4 | h4
          · omega
          · exact absurd (I.pre ((X.chk.wr ν k o q ho hq hqw hp (by omega)).1 (by omega)) h4) hn
      have hsg := X.seg (i := ν + 1) μ (by omega) hμ.1 hno
      have okμ := X.ok μ hμ.1
      have young : ∀ (id : Pos) (L : Loc) (b : Blk), ρ' id = some L → (T μ).h.get id = some b → id.num < (T (ν + 1)).cnt := fun id L b hL hb => by
        rcases Nat.lt_or_ge id.num (T (ν + 1)).cnt with h | h
        · exact h
        · obtain ⟨k, k1, k2, k3, k4⟩ := X.born (i := ν + 1) μ (by omega) hμ.1 h (okμ.blk id b hb).1
          obtain ⟨q, hq⟩ := Lx.get (all := all) (j := k) (by have := hμ.1; omega)
          have hqp : pureOp q.op = false := by
            cases hqp : pureOp q.op
            · rfl
            · have := ((X.step k q hq).1 hqp).1; rw [this] at k4; omega
          have hnk : ¬ Ls ls k := fun hl => hn (I.pre ((X.chk.wr k ν q o hq ho hw hqp (by omega)).2 (by omega)) hl)
          have := I.unb k (by have := hμ.1; omega) hnk id k3 k4
          rw [p.ext id (.inr h), this] at hL; cases hL
      refine ⟨fun id L b hL hb h0 => ?_, fun id id' L L' b b' hL hL' hb hb' h0 h0' hee hq => ?_, fun id L hL hr => by
        have := p.heap.ro id L hL hr
        rw [X.fl (ν + 1) (by omega)] at this
        rw [X.fl μ hμ.1]; exact this⟩
      · have h := young id L b hL hb
        rw [hsg id h] at hb; exact p.heap.cells id L b hL hb h0
      · have h := young id L b hL hb
        have h' := young id' L' b' hL' hb'
        rw [hsg id h] at hb; rw [hsg id' h'] at hb'
        exact p.heap.inj id id' L L' b b' hL hL' hb hb' h0 h0' hee hq
  · obtain ⟨e1, hs⟩ := (X.step j o ho).1 hp
    refine SR (hs ρ a w he) fun u w' ⟨e2, hv⟩ => ?_
    subst e2
    refine ⟨ρ, I.step X ho hn hj hd (fl := (T 0).fl) (Nat.le_refl _) (by rw [e1]; exact .refl) hv fun ν hν => I.heap ν ?_⟩
    refine ⟨hν.1, fun k q hq hk hqw => ?_, fun q hq => ⟨(hν.2.2 q hq).1, fun h => (hν.2.2 q hq).2 ((Ls.set hjs).2 (.inr h))⟩⟩
    rcases (Ls.set hjs).1 (hν.2.1 k q hq hk hqw) with e | e
    · subst e; rw [ho] at hq; cases hq; rw [pure_not_w hp] at hqw; cases hqw
    · exact e
theorem any_ok (X : Lx P all G T vv) (hdb : DB a0.tmps.size all) (hQ : ∀ a' w' ρ' ls', Inv P all G T vv ρ0 a0 w0 ls' ρ' a' w' → (∀ j, j < all.length → Ls ls' j) → Q .normal a' w') :
    ∀ (fuel : Nat) (ls : Array Bool) (ρ : Ren) (a : Act) (w : World), Inv P all G T vv ρ0 a0 w0 ls ρ a w → ls.toList.count false ≤ fuel → wpAny P .any all.toArray Q fuel ls a w := by
  have nil : ∀ (ls : Array Bool) (ρ : Ren) (a : Act) (w : World), Inv P all G T vv ρ0 a0 w0 ls ρ a w → Region.ready .any all.toArray ls = [] → ∀ j, j < all.length → Ls ls j := fun ls ρ a w I hr j hj => by
    by_cases hl : Ls ls j
    · exact hl
    · obtain ⟨m, hm, ⟨h1, h2⟩, h3⟩ := least (p := fun j => j < all.length ∧ ¬ Ls ls j) j ⟨hj, hl⟩
      obtain ⟨o, ho⟩ := Lx.get (all := all) (j := m) h1
      have : m ∈ Region.ready .any all.toArray ls := by
        refine mem_ready.2 ⟨?_, o, by simpa using ho, fun e he hb => ?_⟩
        · have hs : m < ls.size := by rw [I.size]; exact h1
          unfold Ls at h2
          simp only [Array.getD_eq_getD_getElem?, Array.getElem?_eq_getElem hs, Option.getD_some] at h2 ⊢
          simpa using h2
        · have hd : Dir all e.on m := ⟨o, e, ho, by simpa using he, hb, rfl⟩
          have hlt := X.chk.back _ _ hd
          by_cases hl : Ls ls e.on
          · exact hl
          · exact absurd ⟨by omega, hl⟩ (h3 e.on hlt)
      rw [hr] at this; cases this
  intro fuel
  induction fuel with
  | zero =>
    intro ls ρ a w I hc
    have all' : ∀ j, j < all.length → Ls ls j := fun j hj => by
      by_cases hl : Ls ls j
      · exact hl
      · have hs : j < ls.size := by rw [I.size]; exact hj
        have hm : false ∈ ls.toList := by
          have : ls[j] = false := by
            unfold Ls at hl
            simp only [Array.getD_eq_getD_getElem?, Array.getElem?_eq_getElem hs, Option.getD_some] at hl
            simpa using hl
          rw [← this]; simp
        have := List.count_pos_iff.2 hm
        omega
    refine ⟨?_, hQ a w ρ ls I all'⟩
    apply List.eq_nil_iff_forall_not_mem.2
    intro i hi
    obtain ⟨h1, o, h2, _⟩ := mem_ready.1 hi
    have hil : i < all.length := by simpa using (Array.getElem?_eq_some_iff.1 h2).1
    have hs : i < ls.size := by rw [I.size]; exact hil
    have := all' i hil
    unfold Ls at this
    simp only [Array.getD_eq_getD_getElem?, Array.getElem?_eq_getElem hs, Option.getD_some] at this h1
    rw [this] at h1; cases h1
  | succ fuel ih =>
    intro ls ρ a w I hc
    refine ⟨fun hr => hQ a w ρ ls I (nil ls ρ a w I hr), fun i hi => ?_⟩
    obtain ⟨h1, o, h2, h3⟩ := mem_ready.1 hi
    have ho : all[i]? = some o := by simpa using h2
    have hil : i < all.length := (List.getElem?_eq_some_iff.1 ho).1
    have hs : i < ls.size := by rw [I.size]; exact hil
    have hfalse : ls[i] = false := by simpa [Array.getD_eq_getD_getElem?, Array.getElem?_eq_getElem hs] using h1
    have hn : ¬ Ls ls i := fun hl => by
      unfold Ls at hl
      simp only [Array.getD_eq_getD_getElem?, Array.getElem?_eq_getElem hs, Option.getD_some] at hl
      rw [hfalse] at hl; cases hl
    have hj : ∀ k, Dir all k i → Ls ls k := fun k ⟨p, e, hp, he, hb, hk⟩ => by
      rw [ho] at hp; cases hp
      rw [← hk]; exact h3 e (by simpa using he) hb
    have hcnt : (ls.setIfInBounds i true).toList.count false ≤ fuel := by
      have hsl : i < ls.toList.length := by simpa using hs
      rw [Array.toList_setIfInBounds, List.count_set hsl]
      have e1 : ls.toList[i] = false := by simpa using hfalse
      have hpos : 0 < ls.toList.count false := List.count_pos_iff.2 (by rw [← e1]; simp)
      rw [e1, if_pos (by rfl), if_neg (by decide)]; omega
    have hrun := I.one X hdb ho hn hj
    unfold wpOp
    rw [h2]; simp only
    unfold SRuns at hrun
    split
    · rename_i hw; rw [if_pos hw] at hrun
      exact .inl (hrun.wp fun u w' ⟨ρ', I'⟩ => ih _ ρ' _ w' I' hcnt)
    · rename_i hw; rw [if_neg hw] at hrun
      obtain ⟨ρ', I'⟩ := hrun
      exact ih _ ρ' _ w I' hcnt
end step
theorem den_draw (hcx : cx.OK P) {all : List Oper} (hchk : okDraw all = true) {γ : Env} {S : St} {k : Env → St → R} (h : den P cx true all all γ S k = some out) (ok : SOK S) :
    ∃ γ' S', k γ' S' = some out ∧ Abs S.fl S S' ∧ ∀ (ρ : Ren) (a : Act) (w : World), EnvR ρ γ a → HRel ρ S w → Fresh ρ S.cnt S'.cnt → DB a.tmps.size all → ∀ Q : Exit → Act → World → Prop,
      (∀ a' w' ρ', Post ρ S.fl S S' w w' ρ' → EnvR ρ' γ' a' → a'.defers = a.defers → a'.tmps.size = a.tmps.size → Q .normal a' w') → wpAny P .any all.toArray Q all.length (Array.replicate all.length false) a w := by
  obtain ⟨G, T, vv, rfl, rfl, hk, hs⟩ := den_lx hcx all γ S k h ok
  have X : Lx P all G T vv := ⟨ok, fun j o ho => (hs j o ho).1, fun j o ho => (hs j o ho).2, okDraw_ok hchk⟩
  refine ⟨_, _, hk, X.abs _ (Nat.le_refl _), fun ρ a w he hh hf hd Q hQ => ?_⟩
  have hno : ∀ j, ¬ Ls (Array.replicate all.length false) j := fun j hl => by
    unfold Ls at hl
    rw [Array.getD_eq_getD_getElem?, Array.getElem?_replicate] at hl
    split at hl <;> simp at hl
  have I0 : Inv P all G T vv ρ a w (Array.replicate all.length false) ρ a w := by
    refine { size := by simp, closed := fun i j _ h => absurd h (hno j), env1 := fun j o t _ _ h => absurd h (hno j), env0 := fun t _ => he t, heap := fun ν hν => ?_, unb := fun j hj _ id h1 h2 => ?_, ext := fun _ _ => rfl, mono := fun _ _ h => h, os := rfl, tape := rfl, output := rfl, wsize := Nat.le_refl _, frame := fun _ _ _ => rfl, new := fun id L h1 h2 hL => ?_, defers := rfl, tsize := rfl }
    · have hsg := X.seg (i := 0) ν (Nat.zero_le _) hν.1 fun k q _ hk hq => by
        cases hw : wOp all q
        · rfl
        · exact absurd (hν.2.1 k q hq hk hw) (hno k)
      have okν := X.ok ν hν.1
      have young : ∀ (id : Pos) (L : Loc) (b : Blk), ρ id = some L → (T ν).h.get id = some b → id.num < (T 0).cnt := fun id L b hL hb => by
        rcases Nat.lt_or_ge id.num (T 0).cnt with h | h
        · exact h
        · have h2 := (okν.blk id b hb).1
          have := X.cnt all.length (i := ν) hν.1 (Nat.le_refl _)
          rw [hf id h (by omega)] at hL; cases hL
      refine ⟨fun id L b hL hb h0 => ?_, fun id id' L L' b b' hL hL' hb hb' h0 h0' hee hq => ?_, fun id L hL hr => by
        rw [X.fl ν hν.1]; exact hh.ro id L hL hr⟩
      · rw [hsg id (young id L b hL hb)] at hb; exact hh.cells id L b hL hb h0
      · rw [hsg id (young id L b hL hb)] at hb; rw [hsg id' (young id' L' b' hL' hb')] at hb'
        exact hh.inj id id' L L' b b' hL hL' hb hb' h0 h0' hee hq
    · have a1 := X.cnt j (i := 0) (Nat.zero_le _) (by omega)
      have a2 := X.cnt all.length (i := j + 1) (by omega) (Nat.le_refl _)
      exact hf id (by omega) (by omega)
    · rw [hf id h1 h2] at hL; cases hL
  refine any_ok X hd ?_ all.length _ ρ a w I0 (by simp)
  intro a' w' ρ' ls' I hall
  refine hQ a' w' ρ' ⟨I.ext, I.heap all.length ⟨Nat.le_refl _, fun k q hq hk _ => hall k hk, fun q hq => by rw [List.getElem?_eq_none (Nat.le_refl _)] at hq; cases hq⟩, I.os, I.tape, I.output, I.wsize, I.frame, I.new⟩ (fun t => ?_) I.defers I.tsize
  by_cases hdt : ∃ (i : Nat) (p : Oper), all[i]? = some p ∧ p.dst = some t
  · obtain ⟨i, p, hp, hpt⟩ := hdt
    have hil : i < all.length := (List.getElem?_eq_some_iff.1 hp).1
    rw [X.look_new hp hpt all.length hil (Nat.le_refl _)]
    exact I.env1 i p t hp hpt (hall i hil)
  · rw [X.look_old all.length (Nat.le_refl _) (fun i p _ hp e => hdt ⟨i, p, hp, e⟩)]
    exact I.env0 t fun j p hp e => absurd ⟨j, p, hp, e⟩ hdt
end Go.AM

/- A function's code: its meaning in the machine, and that the model does the same. -/
namespace Go.AM
set_option linter.unusedVariables false
set_option linter.unusedSimpArgs false
variable {out : V × St} {P : Program} {cx : Cx}
def curry : (n : Nat) → (List V → St → R) → Fn n
  | 0, f => f []
  | n + 1, f => fun v => curry n fun l => f (v :: l)
def ap : (n : Nat) → Fn n → List V → St → R
  | 0, f, l => match l with
    | [] => f
    | _ :: _ => fun _ => none
  | n + 1, f, l => match l with
    | [] => fun _ => none
    | v :: l => ap n (f v) l
theorem ap_curry : ∀ (n : Nat) (f : List V → St → R) (l : List V), l.length = n → ap n (curry n f) l = f l
  | 0, f, [], _ => rfl
  | 0, f, _ :: _, h => by simp at h
  | n + 1, f, [], h => by simp at h
  | n + 1, f, v :: l, h => ap_curry n (fun l => f (v :: l)) l (by simpa using h)
theorem ap_bot : ∀ (n : Nat) (l : List V) (S : St), ap n (bot n) l S = none
  | 0, [], S => rfl
  | 0, _ :: _, S => rfl
  | n + 1, [], S => rfl
  | n + 1, v :: l, S => ap_bot n l S
theorem ap_len : ∀ (n : Nat) (f : Fn n) (l : List V) (S : St), ap n f l S = some out → l.length = n
  | 0, f, [], S, _ => rfl
  | 0, f, _ :: _, S, h => no h
  | n + 1, f, [], S, h => no h
  | n + 1, f, v :: l, S, h => by simp [ap_len n (f v) l S h]
def zipE : List Nat → List V → Env
  | t :: ts, v :: vs => (t, v) :: zipE ts vs
  | _, _ => []
noncomputable def looksL (γ : Env) : List Nat → List V
  | [] => []
  | t :: ts => look γ t :: looksL γ ts
def dbB (N : Nat) : List Oper → Bool
  | [] => true
  | o :: r => (match o.dst with | some d => Nat.blt d N | none => true) && dbB N r
theorem dbB_ok {N : Nat} : ∀ l, dbB N l = true → DB N l
  | [], _ => fun o h => by simp at h
  | o :: r, h => fun p hp d hd => by
    simp only [dbB, Bool.and_eq_true] at h
    rcases List.mem_cons.1 hp with rfl | hp
    · rw [hd] at h; exact blt_lt h.1
    · exact dbB_ok r h.2 p hp d hd
noncomputable def denCode (P : Program) (cx : Cx) (vars : List Nat) (n N : Nat) : Code → CS n
  | .skip => cSkip
  | .label _ => cSkip
  | .ret => cRet
  | .exit id => cExit id
  | .seq a b => cSeq (denCode P cx vars n N a) (denCode P cx vars n N b)
  | .block id c => cBlock id (denCode P cx vars n N c)
  | .loop c => cLoop (denCode P cx vars n N c)
  | .scope c => denCode P cx vars n N c
  | .cond c a b => cCond (fun x y => curry n fun E S => pIf (val (zipE vars E) c) (ap n x E S) (ap n y E S)) (denCode P cx vars n N a) (denCode P cx vars n N b)
  | .region _ ops draw => cond (dbB N ops.toList && (!draw || okDraw ops.toList)) (cReg fun kn => curry n fun E S => den P cx draw ops.toList ops.toList (zipE vars E) S fun γ S => ap n kn (looksL γ vars) S) cBad
  | _ => cBad
inductive EX | n | x (id : Nat) | r
def kont {n : Nat} (kn : Fn n) (kx : Nat → Fn n) (kr : Fn n) : EX → Fn n
  | .n => kn
  | .x id => kx id
  | .r => kr
def EX.ex : EX → Exit
  | .n => .normal
  | .x id => .exit id
  | .r => .ret
def CodeOK (P : Program) (c : Code) (vars : List Nat) (n N : Nat) (E : List V) (S : St) (e : EX) (E' : List V) (S' : St) : Prop :=
  Abs S.fl S S' ∧ E'.length = n ∧ ∀ (ρ : Ren) (a : Act) (w : World), EnvR ρ (zipE vars E) a → HRel ρ S w → Fresh ρ S.cnt S'.cnt → a.tmps.size = N → ∀ Q : Exit → Act → World → Prop,
    (∀ a' w' ρ', Post ρ S.fl S S' w w' ρ' → EnvR ρ' (zipE vars E') a' → a'.defers = a.defers → a'.tmps.size = N → Q e.ex a' w') → c.wp P Q a w
theorem zip_looks {ρ : Ren} {γ : Env} {a : Act} (h : EnvR ρ γ a) : ∀ vars : List Nat, EnvR ρ (zipE vars (looksL γ vars)) a
  | [] => fun t => .other _
  | t :: ts => fun s => by
    show VR ρ (cond (Nat.beq t s) (look γ t) (look (zipE ts (looksL γ ts)) s)) _
    cases hb : Nat.beq t s
    · exact zip_looks h ts s
    · rw [← Nat.eq_of_beq_eq_true hb]; exact h t
theorem looksL_len (γ : Env) : ∀ vars : List Nat, (looksL γ vars).length = vars.length
  | [] => rfl
  | t :: ts => by simp [looksL, looksL_len γ ts]
/-- m rounds are enough -/
def Rounds (P : Program) (c : Code) (Q : Exit → Act → World → Prop) : Nat → Act → World → Prop
  | 0, _, _ => False
  | m + 1, a, w => c.wp P (Exit.then (Rounds P c Q m) Q) a w
theorem loop_of {c : Code} {Q : Exit → Act → World → Prop} {a : Act} {w : World} (h : ∃ m, Rounds P c Q m a w) : (Code.loop c).wp P Q a w := by
  classical
  let μ : Act → World → Nat := fun a w => if h : ∃ m, Rounds P c Q m a w then Classical.choose (least (p := fun m => Rounds P c Q m a w) _ (Classical.choose_spec h)) else 0
  have hμ : ∀ a w, (∃ m, Rounds P c Q m a w) → Rounds P c Q (μ a w) a w ∧ ∀ k, Rounds P c Q k a w → μ a w ≤ k := fun a w h => by
    have hs := Classical.choose_spec (least (p := fun m => Rounds P c Q m a w) _ (Classical.choose_spec h))
    have e : μ a w = Classical.choose (least (p := fun m => Rounds P c Q m a w) _ (Classical.choose_spec h)) := dif_pos h
    rw [e]
    refine ⟨hs.2.1, fun k hk => ?_⟩
    rcases Nat.lt_or_ge k (Classical.choose (least (p := fun m => Rounds P c Q m a w) _ (Classical.choose_spec h))) with h1 | h1
    · exact absurd hk (hs.2.2 k h1)
    · exact h1
  refine wp_loop (fun a w => ∃ m, Rounds P c Q m a w) μ h fun a w hI => ?_
  obtain ⟨h1, h2⟩ := hμ a w hI
  cases hm : μ a w with
  | zero => rw [hm] at h1; exact h1.elim
  | succ m =>
    rw [hm] at h1
    refine wp_mono h1 fun e a' w' hq => ?_
    cases e with
    | normal => exact ⟨⟨m, hq⟩, Nat.lt_succ_of_le ((hμ a' w' ⟨m, hq⟩).2 m hq)⟩
    | _ => exact hq
theorem code_ok (hcx : cx.OK P) (hm : P.follows .mixedOrders = true) {vars : List Nat} {n N : Nat} (hv : vars.length = n) : ∀ (c : Code) (kn : Fn n) (kx : Nat → Fn n) (kr : Fn n) (E : List V) (S : St), E.length = n → SOK S → ap n (denCode P cx vars n N c kn kx kr) E S = some out →
    ∃ e E' S', ap n (kont kn kx kr e) E' S' = some out ∧ CodeOK P c vars n N E S e E' S' := by
  intro c
  induction c with
  | skip =>
    intro kn kx kr E S hE ok h
    exact ⟨.n, E, S, h, .refl _ _, hE, fun ρ a w he hh hf hN Q hQ => wp_skip (hQ a w ρ (.refl hh) he rfl hN)⟩
  | label l =>
    intro kn kx kr E S hE ok h
    exact ⟨.n, E, S, h, .refl _ _, hE, fun ρ a w he hh hf hN Q hQ => wp_label (hQ a w ρ (.refl hh) he rfl hN)⟩
  | ret =>
    intro kn kx kr E S hE ok h
    exact ⟨.r, E, S, h, .refl _ _, hE, fun ρ a w he hh hf hN Q hQ => wp_ret (hQ a w ρ (.refl hh) he rfl hN)⟩
  | exit id =>
    intro kn kx kr E S hE ok h
    exact ⟨.x id, E, S, h, .refl _ _, hE, fun ρ a w he hh hf hN Q hQ => wp_exit (hQ a w ρ (.refl hh) he rfl hN)⟩
  | seq x y ihx ihy =>
    intro kn kx kr E S hE ok h
    obtain ⟨e1, E1, S1, h1, ha1, hl1, hr1⟩ := ihx _ kx kr E S hE ok h
    have ends : e1 ≠ .n → ∃ e E' S', ap n (kont kn kx kr e) E' S' = some out ∧ CodeOK P (.seq x y) vars n N E S e E' S' := fun hne => by
      refine ⟨e1, E1, S1, by cases e1 <;> first | exact absurd rfl hne | exact h1, ha1, hl1, fun ρ a w he hh hf hN Q hQ => wp_seq (hr1 ρ a w he hh hf hN _ fun a' w' ρ' p q r s => ?_)⟩
      have := hQ a' w' ρ' p q r s
      cases e1 <;> first | exact absurd rfl hne | exact this
    cases e1 with
    | n =>
      obtain ⟨e2, E2, S2, h2, ha2, hl2, hr2⟩ := ihy kn kx kr E1 S1 hl1 (ha1.ok ok) h1
      rw [ha1.fl_] at ha2 hr2
      refine ⟨e2, E2, S2, h2, ha1.trans ha2, hl2, fun ρ a w he hh hf hN Q hQ => wp_seq (hr1 ρ a w he hh (hf.left (S2 := S2) ha2.cnt) hN _ fun a' w' ρ' p q r s => ?_)⟩
      refine hr2 ρ' a' w' q p.heap (hf.right ha1.cnt p) s Q fun a2 w2 ρ2 p2 q2 r2 s2 => hQ a2 w2 ρ2 (p.trans ha1.cnt ha2.cnt p2) q2 (r2.trans r) s2
    | x id => exact ends (by simp)
    | r => exact ends (by simp)
  | cond q x y ihx ihy =>
    intro kn kx kr E S hE ok h
    have h' : ap n (curry n fun E S => pIf (val (zipE vars E) q) (ap n (denCode P cx vars n N x kn kx kr) E S) (ap n (denCode P cx vars n N y kn kx kr) E S)) E S = some out := h
    rw [ap_curry n _ E hE] at h'
    obtain ⟨b, hb, h1⟩ := vB_some h'
    cases b
    · obtain ⟨e, E', S', h2, ha, hl, hr⟩ := ihy kn kx kr E S hE ok h1
      refine ⟨e, E', S', h2, ha, hl, fun ρ a w he hh hf hN Q hQ => ?_⟩
      have e1 := he.val q; rw [hb] at e1
      exact wp_cond_false e1.b_inv (hr ρ a w he hh hf hN Q hQ)
    · obtain ⟨e, E', S', h2, ha, hl, hr⟩ := ihx kn kx kr E S hE ok h1
      refine ⟨e, E', S', h2, ha, hl, fun ρ a w he hh hf hN Q hQ => ?_⟩
      have e1 := he.val q; rw [hb] at e1
      exact wp_cond_true e1.b_inv (hr ρ a w he hh hf hN Q hQ)
  | scope x ih =>
    intro kn kx kr E S hE ok h
    obtain ⟨e1, E1, S1, h1, ha1, hl1, hr1⟩ := ih kn kx kr E S hE ok h
    exact ⟨e1, E1, S1, h1, ha1, hl1, fun ρ a w he hh hf hN Q hQ => wp_scope_straight (hr1 ρ a w he hh hf hN _ fun a' w' ρ' p q r s => by
      have := hQ a' w' ρ' p q r s
      cases e1 <;> exact this)⟩
  | block id x ih =>
    intro kn kx kr E S hE ok h
    obtain ⟨e1, E1, S1, h1, ha1, hl1, hr1⟩ := ih kn (fun id' => @Bool.rec (fun _ => Fn n → Fn n → Fn n) (fun kx kn => kx) (fun kx kn => kn) (Nat.beq id' id) (kx id') kn) kr E S hE ok h
    cases e1 with
    | n => exact ⟨.n, E1, S1, h1, ha1, hl1, fun ρ a w he hh hf hN Q hQ => wp_block (hr1 ρ a w he hh hf hN _ fun a' w' ρ' p q r s => hQ a' w' ρ' p q r s)⟩
    | r => exact ⟨.r, E1, S1, h1, ha1, hl1, fun ρ a w he hh hf hN Q hQ => wp_block (hr1 ρ a w he hh hf hN _ fun a' w' ρ' p q r s => hQ a' w' ρ' p q r s)⟩
    | x id' =>
      have h1' : ap n (@Bool.rec (fun _ => Fn n → Fn n → Fn n) (fun kx kn => kx) (fun kx kn => kn) (Nat.beq id' id) (kx id') kn) E1 S1 = some out := h1
      cases hb : Nat.beq id' id <;> rw [hb] at h1'
      · have hne : id' ≠ id := fun e => by rw [e, Nat.beq_refl] at hb; cases hb
        exact ⟨.x id', E1, S1, h1', ha1, hl1, fun ρ a w he hh hf hN Q hQ => wp_block (hr1 ρ a w he hh hf hN _ fun a' w' ρ' p q r s => by
          show (if id' = id then Q .normal a' w' else Q (.exit id') a' w'); rw [if_neg hne]; exact hQ a' w' ρ' p q r s)⟩
      · have he' := Nat.eq_of_beq_eq_true hb
        exact ⟨.n, E1, S1, h1', ha1, hl1, fun ρ a w he hh hf hN Q hQ => wp_block (hr1 ρ a w he hh hf hN _ fun a' w' ρ' p q r s => by
          show (if id' = id then Q .normal a' w' else Q (.exit id') a' w'); rw [if_pos he']; exact hQ a' w' ρ' p q r s)⟩
  | loop x ih =>
    intro kn kx kr E S hE ok h
    have main : ∀ (m : Nat) (E : List V) (S : St), E.length = n → SOK S → ap n (loopN (denCode P cx vars n N x) kx kr m) E S = some out →
        ∃ (e : EX) (E' : List V) (S' : St) (r : Nat), e ≠ .n ∧ ap n (kont kn kx kr e) E' S' = some out ∧ Abs S.fl S S' ∧ E'.length = n ∧ ∀ (ρ : Ren) (a : Act) (w : World), EnvR ρ (zipE vars E) a → HRel ρ S w → Fresh ρ S.cnt S'.cnt → a.tmps.size = N → ∀ Q : Exit → Act → World → Prop,
          (∀ a' w' ρ', Post ρ S.fl S S' w w' ρ' → EnvR ρ' (zipE vars E') a' → a'.defers = a.defers → a'.tmps.size = N → Q e.ex a' w') → Rounds P x Q r a w := by
      intro m
      induction m with
      | zero => intro E S hE ok h; rw [show ap n (loopN (denCode P cx vars n N x) kx kr 0) E S = none from ap_bot n E S] at h; cases h
      | succ m ihm =>
        intro E S hE ok h
        obtain ⟨e1, E1, S1, h1, ha1, hl1, hr1⟩ := ih (loopN (denCode P cx vars n N x) kx kr m) kx kr E S hE ok h
        have ends : e1 ≠ .n → ∃ (e : EX) (E' : List V) (S' : St) (r : Nat), e ≠ .n ∧ ap n (kont kn kx kr e) E' S' = some out ∧ Abs S.fl S S' ∧ E'.length = n ∧ ∀ (ρ : Ren) (a : Act) (w : World), EnvR ρ (zipE vars E) a → HRel ρ S w → Fresh ρ S.cnt S'.cnt → a.tmps.size = N → ∀ Q : Exit → Act → World → Prop,
            (∀ a' w' ρ', Post ρ S.fl S S' w w' ρ' → EnvR ρ' (zipE vars E') a' → a'.defers = a.defers → a'.tmps.size = N → Q e.ex a' w') → Rounds P x Q r a w := fun hne => by
          refine ⟨e1, E1, S1, 1, hne, by cases e1 <;> first | exact absurd rfl hne | exact h1, ha1, hl1, fun ρ a w he hh hf hN Q hQ => hr1 ρ a w he hh hf hN _ fun a' w' ρ' p q r s => ?_⟩
          have := hQ a' w' ρ' p q r s
          cases e1 <;> first | exact absurd rfl hne | exact this
        cases e1 with
        | n =>
          obtain ⟨e2, E2, S2, r2, hne, h2, ha2, hl2, hr2⟩ := ihm E1 S1 hl1 (ha1.ok ok) h1
          rw [ha1.fl_] at ha2 hr2
          refine ⟨e2, E2, S2, r2 + 1, hne, h2, ha1.trans ha2, hl2, fun ρ a w he hh hf hN Q hQ => ?_⟩
          exact hr1 ρ a w he hh (hf.left (S2 := S2) ha2.cnt) hN (Exit.then (Rounds P x Q r2) Q) fun a' w' ρ' p q r s =>
            hr2 ρ' a' w' q p.heap (hf.right ha1.cnt p) s Q fun a2 w2 ρ2 p2 q2 r2 s2 => hQ a2 w2 ρ2 (p.trans ha1.cnt ha2.cnt p2) q2 (r2.trans r) s2
        | x id => exact ends (by simp)
        | r => exact ends (by simp)
    obtain ⟨e, E', S', r, hne, h2, ha, hl, hr⟩ := main 1000000 E S hE ok h
    exact ⟨e, E', S', h2, ha, hl, fun ρ a w he hh hf hN Q hQ => loop_of ⟨r, hr ρ a w he hh hf hN Q hQ⟩⟩
  | region id ops draw =>
    intro kn kx kr E S hE ok h
    have h' : ap n ((cond (dbB N ops.toList && (!draw || okDraw ops.toList)) (cReg fun kn => curry n fun E S => den P cx draw ops.toList ops.toList (zipE vars E) S fun γ S => ap n kn (looksL γ vars) S) cBad : CS n) kn kx kr) E S = some out := h
    cases hc : (dbB N ops.toList && (!draw || okDraw ops.toList)) <;> rw [hc] at h'
    · rw [show ap n ((cond false (cReg fun kn => curry n fun E S => den P cx draw ops.toList ops.toList (zipE vars E) S fun γ S => ap n kn (looksL γ vars) S) cBad : CS n) kn kx kr) E S = none from ap_bot n E S] at h'; cases h'
    · simp only [Bool.and_eq_true] at hc
      have hdb := dbB_ok _ hc.1
      have h2 : ap n (curry n fun E S => den P cx draw ops.toList ops.toList (zipE vars E) S fun γ S => ap n kn (looksL γ vars) S) E S = some out := h'
      rw [ap_curry n _ E hE] at h2
      cases draw
      · obtain ⟨γ', S', h3, ha, hr⟩ := den_seq hcx _ _ _ _ h2 ok
        refine ⟨.n, looksL γ' vars, S', h3, ha, by rw [looksL_len]; exact hv, fun ρ a w he hh hf hN Q hQ => wp_region_list ?_⟩
        have := hr ρ a w he hh hf (by rw [hN]; exact hdb) Q fun a' w' ρ' p q r s => hQ a' w' ρ' p (zip_looks q vars) r (s.trans hN)
        simpa using this
      · have hd : okDraw ops.toList = true := by simpa using hc.2
        obtain ⟨γ', S', h3, ha, hr⟩ := den_draw hcx hd h2 ok
        refine ⟨.n, looksL γ' vars, S', h3, ha, by rw [looksL_len]; exact hv, fun ρ a w he hh hf hN Q hQ => wp_region_any hm ?_⟩
        have := hr ρ a { w with drawn := w.drawn + 1 } he ⟨hh.cells, hh.inj, hh.ro⟩ hf (by rw [hN]; exact hdb) Q fun a' w' ρ' p q r s => hQ a' w' ρ' ⟨p.ext, p.heap, p.os, p.tape, p.output, p.size, p.frame, p.new⟩ (zip_looks q vars) r (s.trans hN)
        simpa using this
  | _ =>
    intro kn kx kr E S hE ok h
    exact no (by rw [← h]; exact (ap_bot n E S).symm)
end Go.AM

/- A function: what the machine's text of it computes is what a call of it returns. -/
namespace Go.AM
set_option linter.unusedVariables false
set_option linter.unusedSimpArgs false
variable {out : V × St} {P : Program} {cx : Cx}
def mkRes : List V → V
  | [] => .u
  | [v] => v
  | l => .tu l
noncomputable def denRes (P : Program) (γ : Env) : List ResultVar → St → (List V → R) → R
  | [], S, k => k []
  | .tmp t :: r, S, k => denRes P γ r S fun l => k (look γ t :: l)
  | .cell t ty :: r, S, k => match aggP P ty with
    | some false => pLd (look γ t) S fun v => denRes P γ r S fun l => k (v :: l)
    | some true => (match P.info? ty with
      | some i => pLdn i.size (look γ t) S fun v => denRes P γ r S fun l => k (v :: l)
      | none => none)
    | none => none
abbrev Gn : Nat → Type
  | 0 => Sem3
  | n + 1 => V → Gn n
def cur : (n : Nat) → Fun → Gn n
  | 0, f => f []
  | n + 1, f => fun v => cur n fun l => f (v :: l)
def un : (n : Nat) → Gn n → Fun
  | 0, g, l => match l with
    | [] => g
    | _ :: _ => fun _ _ => none
  | n + 1, g, l => match l with
    | [] => fun _ _ => none
    | v :: l => un n (g v) l
theorem un_cur : ∀ (n : Nat) (f : Fun) (vs : List V) (S : St) (k : Cont), un n (cur n f) vs S k = some out → vs.length = n ∧ f vs S k = some out
  | 0, f, [], S, k, h => ⟨rfl, h⟩
  | 0, f, _ :: _, S, k, h => no h
  | n + 1, f, [], S, k, h => no h
  | n + 1, f, v :: vs, S, k, h => by
    obtain ⟨h1, h2⟩ := un_cur n (fun l => f (v :: l)) vs S k h
    exact ⟨by simp [h1], h2⟩
def others : Nat → List V
  | 0 => []
  | n + 1 => .other :: others n
theorem others_len : ∀ n, (others n).length = n
  | 0 => rfl
  | n + 1 => by simp [others, others_len n]
theorem others_get : ∀ (n i : Nat) (v : V), (others n)[i]? = some v → v = .other
  | 0, i, v, h => by simp [others] at h
  | n + 1, 0, v, h => by simp [others] at h; exact h.symm
  | n + 1, i + 1, v, h => others_get n i v (by simpa [others] using h)
noncomputable def resK (P : Program) (vars : List Nat) (n : Nat) (rs : List ResultVar) (k : Cont) : Fn n := curry n fun E S => denRes P (zipE vars E) rs S fun l => k (mkRes l) S
/-- a function with the code C -/
noncomputable def fnB (P : Program) (vars : List Nat) (n np : Nat) (rs : List ResultVar) (C : CS n) : Fun := fun vs S k => ap n (C (resK P vars n rs k) (fun _ => bot n) (resK P vars n rs k)) (vs ++ others (n - np)) S
def parB : Nat → List Nat → Nat → Bool
  | _, _, 0 => true
  | i, t :: ts, np + 1 => Nat.beq t i && parB (i + 1) ts np
  | _, [], _ + 1 => false
theorem parB_ok : ∀ (np i : Nat) (vars : List Nat), parB i vars np = true → ∀ j, j < np → vars[j]? = some (i + j)
  | 0, _, _, _, j, h => by omega
  | np + 1, i, [], h, j, hj => by cases h
  | np + 1, i, t :: ts, h, 0, hj => by simp only [parB, Bool.and_eq_true] at h; simp [Nat.eq_of_beq_eq_true h.1]
  | np + 1, i, t :: ts, h, j + 1, hj => by
    simp only [parB, Bool.and_eq_true] at h
    have := parB_ok np (i + 1) ts h.2 j (by omega)
    simp [this]; omega
theorem zip_env {ρ : Ren} {a : Act} : ∀ (vars : List Nat) (E : List V), (∀ (i t : Nat) (v : V), vars[i]? = some t → E[i]? = some v → VR ρ v (a.tmps.getD t undef)) → EnvR ρ (zipE vars E) a
  | [], _, _ => fun t => .other _
  | _ :: _, [], _ => fun t => .other _
  | t :: ts, v :: vs, h => fun s => by
    show VR ρ (cond (Nat.beq t s) v (look (zipE ts vs) s)) _
    cases hb : Nat.beq t s
    · exact zip_env ts vs (fun i t v h1 h2 => h (i + 1) t v (by simpa using h1) (by simpa using h2)) s
    · rw [← Nat.eq_of_beq_eq_true hb]; exact h 0 t v rfl rfl
noncomputable def resF (a : Act) : ResultVar → Sem Value
  | .tmp t => pure (a.tmps.getD t undef)
  | .cell x t => do loadVar t (← asAddr (a.tmps.getD x undef))
theorem run_cell {a : Act} {x : Tmp} {ty : TypeId} {w : World} {ad : Addr} {u : Value} (h : a.tmps.getD x undef = .pointer (some ad)) (h2 : (loadVar ty ad).run P w = .ok u w) : (resF a (.cell x ty)).run P w = .ok u w := by
  simp only [resF, h, asAddr, Sem.run_bind, Sem.run_pure, Result.andThen_ok, h2]
theorem run_slot {a : Act} {t : Tmp} {w : World} : (resF a (.tmp t)).run P w = .ok (a.tmps.getD t undef) w := rfl
theorem res_ok {γ : Env} {S : St} (ok : SOK S) : ∀ (rs : List ResultVar) (k : List V → R), denRes P γ rs S k = some out → ∃ l, k l = some out ∧ l.length = rs.length ∧ ∀ (ρ : Ren) (a : Act) (w : World), EnvR ρ γ a → HRel ρ S w →
      ∃ us : List Value, (rs.mapM (resF a)).run P w = .ok us w ∧ VRs ρ l us
  | [], k, h => ⟨[], h, rfl, fun ρ a w he hh => ⟨[], rfl, .nil⟩⟩
  | .tmp t :: r, k, h => by
    obtain ⟨l, h1, h2, h3⟩ := res_ok ok r _ h
    refine ⟨_, h1, by simp [h2], fun ρ a w he hh => ?_⟩
    obtain ⟨us, h4, h5⟩ := h3 ρ a w he hh
    exact ⟨a.tmps.getD t undef :: us, by simp only [List.mapM_cons, Sem.run_bind, Sem.run_pure, run_slot, Result.andThen_ok, h4], .cons _ _ _ _ (he t) h5⟩
  | .cell t ty :: r, k, h => by
    simp only [denRes] at h
    cases hg : aggP P ty with
    | none => rw [hg] at h; cases h
    | some g =>
      rw [hg] at h
      cases g
      · obtain ⟨id, off, hx, h1⟩ := vP_some h
        obtain ⟨b, hb, h2⟩ := cellsAt_some h1
        obtain ⟨v, hv, h3⟩ := nthK_some _ _ _ h2
        obtain ⟨l, h4, h5, h6⟩ := res_ok ok r _ h3
        refine ⟨_, h4, by simp [h5], fun ρ a w he hh => ?_⟩
        obtain ⟨us, h7, h8⟩ := h6 ρ a w he hh
        have e := he t; rw [hx] at e
        obtain ⟨L, hL, hk, e1⟩ := e.p_inv
        obtain ⟨u, g1, g2, _⟩ := load_cell ok hh hL hk hb hv
        exact ⟨u :: us, by simp only [List.mapM_cons, Sem.run_bind, run_cell e1 (run_loadVar hg g1), Sem.run_pure, Result.andThen_ok, h7], .cons _ _ _ _ g2 h8⟩
      · simp only at h
        cases hi : P.info? ty with
        | none => rw [hi] at h; cases h
        | some i =>
          rw [hi] at h
          obtain ⟨id, off, hx, h1⟩ := vP_some h
          obtain ⟨b, hb, h2⟩ := cellsAt_some h1
          obtain ⟨h3, h4⟩ := dropK_some _ _ _ h2
          obtain ⟨h5, h6⟩ := takeK_some _ _ _ h4
          obtain ⟨l, h7, h8, h9⟩ := res_ok ok r _ h6
          refine ⟨_, h7, by simp [h8], fun ρ a w he hh => ?_⟩
          obtain ⟨us, h10, h11⟩ := h9 ρ a w he hh
          have e := he t; rw [hx] at e
          obtain ⟨L, hL, hk, e1⟩ := e.p_inv
          obtain ⟨cs, g1, g2, g3, g4⟩ := load_cells ok hh hL hk hb (off := off) (n := i.size) (a := ⟨L.b, L.d + off, none⟩) (by simp at h5; omega) (fun _ => rfl)
          exact ⟨.agg cs.toArray :: us, by simp only [List.mapM_cons, Sem.run_bind, run_cell e1 (run_loadVarN hg hi g2 g4), Sem.run_pure, Result.andThen_ok, h10], .cons _ _ _ _ (.ag _ _ g3 (by simpa using g1)) h11⟩
theorem mkRes_ok {ρ : Ren} {l : List V} {us : List Value} (h : VRs ρ l us) : VR ρ (mkRes l) (if h : us.toArray.size = 1 then us.toArray[0] else .tuple us.toArray) := by
  cases h with
  | nil => exact .u
  | cons v u l m h1 h2 =>
    cases h2 with
    | nil => exact h1
    | cons v' u' l' m' h3 h4 => exact .tu _ _ (.cons _ _ _ _ h1 (.cons _ _ _ _ h3 h4))
/-- A function whose text is given. -/
theorem fok (hcx : cx.OK P) (hm : P.follows .mixedOrders = true) {f : FuncId} {fn : Func} (hf : P.funcs[f]? = some fn) {c : Code} (hb : fn.body = some c) (hnm : (fn.name == "runtime.NumGoroutine") = false) {vars : List Nat} {n np : Nat} (hv : Nat.beq vars.length n = true) (hp : parB 0 vars np = true) (hnp : Nat.ble np n = true)
    (hN : Nat.ble np fn.ntmps = true) {C : CS n} (hC : denCode P cx vars n fn.ntmps c = C) {F : Gn np} (hF : cur np (fnB P vars n np fn.results.toList C) = F) : FOK P f (un np F) := by
  subst hF hC
  intro vs S k out ok h
  obtain ⟨hlen, h1⟩ := un_cur np _ vs S k h
  have hv' := Nat.eq_of_beq_eq_true hv
  have hnp' := Nat.le_of_ble_eq_true hnp
  have hN' := Nat.le_of_ble_eq_true hN
  obtain ⟨e, E', S', h2, ha, hl, hr⟩ := code_ok hcx hm hv' c _ _ _ (vs ++ others (n - np)) S (by simp [others_len]; omega) ok h1
  have hne : (∀ id, e ≠ .x id) ∧ denRes P (zipE vars E') fn.results.toList S' (fun l => k (mkRes l) S') = some out := by
    cases e with
    | n => exact ⟨by simp, (congrFun (ap_curry n (fun E S => denRes P (zipE vars E) fn.results.toList S fun l => k (mkRes l) S) E' hl) S').symm.trans h2⟩
    | r => exact ⟨by simp, (congrFun (ap_curry n (fun E S => denRes P (zipE vars E) fn.results.toList S fun l => k (mkRes l) S) E' hl) S').symm.trans h2⟩
    | x id => rw [show ap n (kont (resK P vars n fn.results.toList k) (fun _ => bot n) (resK P vars n fn.results.toList k) (.x id)) E' S' = none from ap_bot n E' S'] at h2; cases h2
  obtain ⟨l, h3, h4, h5⟩ := res_ok (ha.ok ok) _ _ hne.2
  refine ⟨_, S', h3, ha, fun ρ w args hargs hh hfr => .inl ⟨?_, ?_⟩⟩
  · simp only [callFunc, Sem.run_bind, run_program, Result.andThen_ok, hf, hnm, Bool.false_eq_true, if_false, hb, Option.isNone_some, Sem.run_pure]
  · have hal : args.size = np := by have := hargs.length; simp at this; omega
    refine calls_of_wp hf hb (hr ρ _ w ?_ hh hfr ?_ _ ?_)
    · refine zip_env vars _ fun i t v hi hvi => ?_
      rcases Nat.lt_or_ge i vs.length with h6 | h6
      · rw [List.getElem?_append_left h6] at hvi
        have := parB_ok np 0 vars hp i (by omega)
        rw [Nat.zero_add] at this
        rw [this] at hi; cases hi
        obtain ⟨u, g1, g2⟩ := hargs.toArray i hvi
        have : (args ++ Array.replicate (fn.ntmps - args.size) undef).getD i undef = u := by
          rw [Array.getD_eq_getD_getElem?, Array.getElem?_append_left (by omega), g1]; rfl
        rw [this]; exact g2
      · rw [List.getElem?_append_right h6] at hvi
        rw [others_get _ _ _ hvi]; exact .other _
    · simp; omega
    · intro a' w' ρ' p he hd hs
      have hd' : a'.defers = [] := hd
      obtain ⟨us, g1, g2⟩ := h5 ρ' a' w' he p.heap
      have hres : (results fn a'.tmps).run P w' = .ok (if h : us.toArray.size = 1 then us.toArray[0] else .tuple us.toArray) w' := by
        unfold results
        simp only [Sem.run_bind]
        rw [Array.mapM_eq_mapM_toList]
        simp only [Sem.run_map]
        have key : ∀ g : ResultVar → Sem Value, (∀ x, g x = resF a' x) → (List.mapM g fn.results.toList).run P w' = .ok us w' := fun g hg => by rw [funext hg]; exact g1
        rw [key _ (fun x => by cases x <;> rfl)]; rfl
      cases e with
      | n => exact ⟨hd', _, hres, _, rfl, ρ', p, mkRes_ok g2⟩
      | r => exact ⟨hd', _, hres, _, rfl, ρ', p, mkRes_ok g2⟩
      | x id => exact absurd rfl (hne.1 id)
def LOK (P : Program) (l : List (Nat × Fun)) : Prop := ∀ f F, (f, F) ∈ l → FOK P f F
theorem LOK.nil : LOK P [] := fun f F h => by cases h
theorem LOK.cons {l : List (Nat × Fun)} {f : Nat} {F : Fun} (h : FOK P f F) (hl : LOK P l) : LOK P ((f, F) :: l) := fun g G hm => by
  rcases List.mem_cons.1 hm with e | e
  · cases e; exact h
  · exact hl g G e
theorem Cx.ok {l t : List (Nat × Fun)} (h : LOK P l) (k : LOK P t) : Cx.OK P ⟨l, t⟩ := ⟨h, k⟩
def S0 : St := ⟨.n, .h, 1, 1⟩
theorem S0_ok : SOK S0 := ⟨rfl, Nat.le_refl _, Nat.le_refl _, fun id b h => by cases id <;> cases h⟩
/-- is the answer true -/
noncomputable def yesB (r : R) : Bool := Option.rec false (fun x => Prod.rec (fun v _ => @V.rec (fun _ => Bool) (fun _ => Unit) false (fun b => b) (fun _ _ => false) (fun _ => false) (fun _ _ => false) false (fun _ _ _ _ => false) (fun _ _ _ _ _ => false) false (fun _ _ => false) (fun _ _ => false) (fun _ _ _ => false) false false (fun _ => false) false () (fun _ _ _ _ => ()) v) x) r
theorem yesB_some {r : R} (h : yesB r = true) : ∃ S, r = some (.b true, S) := by
  cases r with
  | none => cases h
  | some x =>
    obtain ⟨v, S⟩ := x
    cases v <;> first | (cases h; done) | skip
    rename_i b
    cases b
    · cases h
    · exact ⟨S, rfl⟩
/-- A function without arguments that hands back true in the machine does so in the model, whatever the world. -/
theorem top_true {f : Nat} {F : Fun} (h : FOK P f F) (hr : yesB (F [] S0 fun v S => some (v, S)) = true) (w : World) : CallsX P f #[] w fun u w' => u = .bool true ∧ Go.RowKit.Below w.heap.size w w' := by
  obtain ⟨S, hS⟩ := yesB_some hr
  obtain ⟨v, S', h1, h2, h3⟩ := h [] S0 _ _ S0_ok hS
  cases h1
  have hh : HRel (fun _ => none) S0 w := ⟨(fun id L b h => by cases h), (fun id id' L L' b b' h => by cases h), (fun id L h => by cases h)⟩
  have := h3 (fun _ => none) w #[] .nil hh (fun _ _ _ => rfl)
  have fin : ∀ {u : Value} {w' : World}, (∃ ρ', Post (fun _ => none) S0.fl S0 S w w' ρ' ∧ VR ρ' (.b true) u) → u = .bool true ∧ Go.RowKit.Below w.heap.size w w' := fun {u w'} ⟨ρ', p, q⟩ =>
    ⟨q.b_inv, p.os, p.tape, p.output, p.size, fun k hk => p.frame k hk fun id L h => by cases h⟩
  rcases this with ⟨h4, h5⟩ | ⟨u, w', h4, h5⟩
  · exact .inl ⟨h4, h5.mono fun e w' ⟨u, he, ht⟩ => ⟨u, he, fin ht⟩⟩
  · exact .inr ⟨u, w', h4, fin h5⟩
end Go.AM
