/- A function: what the machine's text of it computes is what a call of it returns. -/
import Derived.Test.YtpendgpnikmohaaGreatX19
import Derived.Below
namespace Go.AM
set_option linter.unusedVariables false
set_option linter.unusedSimpArgs false
variable {out : V × St} {P : Program} {cx : Cx}
def mkRes : List V → V
  | [] => .u
  | [v] => v
  | l => .tu l
noncomputable def denRes (P : Program) (γ : Env) : List ResultVar → St → (List V → R) → R
  | [], S, k => k []
  | .tmp t :: r, S, k => denRes P γ r S fun l => k (look γ t :: l)
  | .cell t ty :: r, S, k => match aggP P ty with
    | some false => pLd (look γ t) S fun v => denRes P γ r S fun l => k (v :: l)
    | some true => (match P.info? ty with
      | some i => pLdn i.size (look γ t) S fun v => denRes P γ r S fun l => k (v :: l)
      | none => none)
    | none => none
abbrev Gn : Nat → Type
  | 0 => Sem3
  | n + 1 => V → Gn n
def cur : (n : Nat) → Fun → Gn n
  | 0, f => f []
  | n + 1, f => fun v => cur n fun l => f (v :: l)
def un : (n : Nat) → Gn n → Fun
  | 0, g, l => match l with
    | [] => g
    | _ :: _ => fun _ _ => none
  | n + 1, g, l => match l with
    | [] => fun _ _ => none
    | v :: l => un n (g v) l
theorem un_cur : ∀ (n : Nat) (f : Fun) (vs : List V) (S : St) (k : Cont), un n (cur n f) vs S k = some out → vs.length = n ∧ f vs S k = some out
  | 0, f, [], S, k, h => ⟨rfl, h⟩
  | 0, f, _ :: _, S, k, h => no h
  | n + 1, f, [], S, k, h => no h
  | n + 1, f, v :: vs, S, k, h => by
    obtain ⟨h1, h2⟩ := un_cur n (fun l => f (v :: l)) vs S k h
    exact ⟨by simp [h1], h2⟩
def others : Nat → List V
  | 0 => []
  | n + 1 => .other :: others n
theorem others_len : ∀ n, (others n).length = n
  | 0 => rfl
  | n + 1 => by simp [others, others_len n]
theorem others_get : ∀ (n i : Nat) (v : V), (others n)[i]? = some v → v = .other
  | 0, i, v, h => by simp [others] at h
  | n + 1, 0, v, h => by simp [others] at h; exact h.symm
  | n + 1, i + 1, v, h => others_get n i v (by simpa [others] using h)
noncomputable def resK (P : Program) (vars : List Nat) (n : Nat) (rs : List ResultVar) (k : Cont) : Fn n := curry n fun E S => denRes P (zipE vars E) rs S fun l => k (mkRes l) S
/-- a function with the code C -/
noncomputable def fnB (P : Program) (vars : List Nat) (n np : Nat) (rs : List ResultVar) (C : CS n) : Fun := fun vs S k => ap n (C (resK P vars n rs k) (fun _ => bot n) (resK P vars n rs k)) (vs ++ others (n - np)) S
def parB : Nat → List Nat → Nat → Bool
  | _, _, 0 => true
  | i, t :: ts, np + 1 => Nat.beq t i && parB (i + 1) ts np
  | _, [], _ + 1 => false
theorem parB_ok : ∀ (np i : Nat) (vars : List Nat), parB i vars np = true → ∀ j, j < np → vars[j]? = some (i + j)
  | 0, _, _, _, j, h => by omega
  | np + 1, i, [], h, j, hj => by cases h
  | np + 1, i, t :: ts, h, 0, hj => by simp only [parB, Bool.and_eq_true] at h; simp [Nat.eq_of_beq_eq_true h.1]
  | np + 1, i, t :: ts, h, j + 1, hj => by
    simp only [parB, Bool.and_eq_true] at h
    have := parB_ok np (i + 1) ts h.2 j (by omega)
    simp [this]; omega
theorem zip_env {ρ : Ren} {a : Act} : ∀ (vars : List Nat) (E : List V), (∀ (i t : Nat) (v : V), vars[i]? = some t → E[i]? = some v → VR ρ v (a.tmps.getD t undef)) → EnvR ρ (zipE vars E) a
  | [], _, _ => fun t => .other _
  | _ :: _, [], _ => fun t => .other _
  | t :: ts, v :: vs, h => fun s => by
    show VR ρ (cond (Nat.beq t s) v (look (zipE ts vs) s)) _
    cases hb : Nat.beq t s
    · exact zip_env ts vs (fun i t v h1 h2 => h (i + 1) t v (by simpa using h1) (by simpa using h2)) s
    · rw [← Nat.eq_of_beq_eq_true hb]; exact h 0 t v rfl rfl
noncomputable def resF (a : Act) : ResultVar → Sem Value
  | .tmp t => pure (a.tmps.getD t undef)
  | .cell x t => do loadVar t (← asAddr (a.tmps.getD x undef))
theorem run_cell {a : Act} {x : Tmp} {ty : TypeId} {w : World} {ad : Addr} {u : Value} (h : a.tmps.getD x undef = .pointer (some ad)) (h2 : (loadVar ty ad).run P w = .ok u w) : (resF a (.cell x ty)).run P w = .ok u w := by
  simp only [resF, h, asAddr, Sem.run_bind, Sem.run_pure, Result.andThen_ok, h2]
theorem run_slot {a : Act} {t : Tmp} {w : World} : (resF a (.tmp t)).run P w = .ok (a.tmps.getD t undef) w := rfl
theorem res_ok {γ : Env} {S : St} (ok : SOK S) : ∀ (rs : List ResultVar) (k : List V → R), denRes P γ rs S k = some out → ∃ l, k l = some out ∧ l.length = rs.length ∧ ∀ (ρ : Ren) (a : Act) (w : World), EnvR ρ γ a → HRel ρ S w →
      ∃ us : List Value, (rs.mapM (resF a)).run P w = .ok us w ∧ VRs ρ l us
  | [], k, h => ⟨[], h, rfl, fun ρ a w he hh => ⟨[], rfl, .nil⟩⟩
  | .tmp t :: r, k, h => by
    obtain ⟨l, h1, h2, h3⟩ := res_ok ok r _ h
    refine ⟨_, h1, by simp [h2], fun ρ a w he hh => ?_⟩
    obtain ⟨us, h4, h5⟩ := h3 ρ a w he hh
    exact ⟨a.tmps.getD t undef :: us, by simp only [List.mapM_cons, Sem.run_bind, Sem.run_pure, run_slot, Result.andThen_ok, h4], .cons _ _ _ _ (he t) h5⟩
  | .cell t ty :: r, k, h => by
    simp only [denRes] at h
    cases hg : aggP P ty with
    | none => rw [hg] at h; cases h
    | some g =>
      rw [hg] at h
      cases g
      · obtain ⟨id, off, hx, h1⟩ := vP_some h
        obtain ⟨b, hb, h2⟩ := cellsAt_some h1
        obtain ⟨v, hv, h3⟩ := nthK_some _ _ _ h2
        obtain ⟨l, h4, h5, h6⟩ := res_ok ok r _ h3
        refine ⟨_, h4, by simp [h5], fun ρ a w he hh => ?_⟩
        obtain ⟨us, h7, h8⟩ := h6 ρ a w he hh
        have e := he t; rw [hx] at e
        obtain ⟨L, hL, e1⟩ := e.p_inv
        obtain ⟨u, g1, g2, _⟩ := load_cell ok hh hL hb hv
        exact ⟨u :: us, by simp only [List.mapM_cons, Sem.run_bind, run_cell e1 (run_loadVar hg g1), Sem.run_pure, Result.andThen_ok, h7], .cons _ _ _ _ g2 h8⟩
      · simp only at h
        cases hi : P.info? ty with
        | none => rw [hi] at h; cases h
        | some i =>
          rw [hi] at h
          obtain ⟨id, off, hx, h1⟩ := vP_some h
          obtain ⟨b, hb, h2⟩ := cellsAt_some h1
          obtain ⟨h3, h4⟩ := dropK_some _ _ _ h2
          obtain ⟨h5, h6⟩ := takeK_some _ _ _ h4
          obtain ⟨l, h7, h8, h9⟩ := res_ok ok r _ h6
          refine ⟨_, h7, by simp [h8], fun ρ a w he hh => ?_⟩
          obtain ⟨us, h10, h11⟩ := h9 ρ a w he hh
          have e := he t; rw [hx] at e
          obtain ⟨L, hL, e1⟩ := e.p_inv
          obtain ⟨cs, g1, g2, g3, g4⟩ := load_cells ok hh hL hb (off := off) (n := i.size) (o := L.d + off) (by simp at h5; omega) (fun _ => rfl)
          exact ⟨.agg cs.toArray :: us, by simp only [List.mapM_cons, Sem.run_bind, run_cell e1 (run_loadVarN hg hi g2 g4), Sem.run_pure, Result.andThen_ok, h10], .cons _ _ _ _ (.ag _ _ g3 (by simpa using g1)) h11⟩
theorem mkRes_ok {ρ : Ren} {l : List V} {us : List Value} (h : VRs ρ l us) : VR ρ (mkRes l) (if h : us.toArray.size = 1 then us.toArray[0] else .tuple us.toArray) := by
  cases h with
  | nil => exact .u
  | cons v u l m h1 h2 =>
    cases h2 with
    | nil => exact h1
    | cons v' u' l' m' h3 h4 => exact .tu _ _ (.cons _ _ _ _ h1 (.cons _ _ _ _ h3 h4))
/-- A function whose text is given. -/
theorem fok (hcx : cx.OK P) (hm : P.follows .mixedOrders = true) {f : FuncId} {fn : Func} (hf : P.funcs[f]? = some fn) {c : Code} (hb : fn.body = some c) (hnm : (fn.name == "runtime.NumGoroutine") = false) {vars : List Nat} {n np : Nat} (hv : Nat.beq vars.length n = true) (hp : parB 0 vars np = true) (hnp : Nat.ble np n = true)
    (hN : Nat.ble np fn.ntmps = true) {C : CS n} (hC : denCode P cx vars n fn.ntmps c = C) {F : Gn np} (hF : cur np (fnB P vars n np fn.results.toList C) = F) : FOK P f (un np F) := by
  subst hF hC
  intro vs S k out ok h
  obtain ⟨hlen, h1⟩ := un_cur np _ vs S k h
  have hv' := Nat.eq_of_beq_eq_true hv
  have hnp' := Nat.le_of_ble_eq_true hnp
  have hN' := Nat.le_of_ble_eq_true hN
  obtain ⟨e, E', S', h2, ha, hl, hr⟩ := code_ok hcx hm hv' c _ _ _ (vs ++ others (n - np)) S (by simp [others_len]; omega) ok h1
  have hne : (∀ id, e ≠ .x id) ∧ denRes P (zipE vars E') fn.results.toList S' (fun l => k (mkRes l) S') = some out := by
    cases e with
    | n => exact ⟨by simp, (congrFun (ap_curry n (fun E S => denRes P (zipE vars E) fn.results.toList S fun l => k (mkRes l) S) E' hl) S').symm.trans h2⟩
    | r => exact ⟨by simp, (congrFun (ap_curry n (fun E S => denRes P (zipE vars E) fn.results.toList S fun l => k (mkRes l) S) E' hl) S').symm.trans h2⟩
    | x id => rw [show ap n (kont (resK P vars n fn.results.toList k) (fun _ => bot n) (resK P vars n fn.results.toList k) (.x id)) E' S' = none from ap_bot n E' S'] at h2; cases h2
  obtain ⟨l, h3, h4, h5⟩ := res_ok (ha.ok ok) _ _ hne.2
  refine ⟨_, S', h3, ha, fun ρ w args hargs hh hfr => .inl ⟨?_, ?_⟩⟩
  · simp only [callFunc, Sem.run_bind, run_program, Result.andThen_ok, hf, hnm, Bool.false_eq_true, if_false, hb, Option.isNone_some, Sem.run_pure]
  · have hal : args.size = np := by have := hargs.length; simp at this; omega
    refine calls_of_wp hf hb (hr ρ _ w ?_ hh hfr ?_ _ ?_)
    · refine zip_env vars _ fun i t v hi hvi => ?_
      rcases Nat.lt_or_ge i vs.length with h6 | h6
      · rw [List.getElem?_append_left h6] at hvi
        have := parB_ok np 0 vars hp i (by omega)
        rw [Nat.zero_add] at this
        rw [this] at hi; cases hi
        obtain ⟨u, g1, g2⟩ := hargs.toArray i hvi
        have : (args ++ Array.replicate (fn.ntmps - args.size) undef).getD i undef = u := by
          rw [Array.getD_eq_getD_getElem?, Array.getElem?_append_left (by omega), g1]; rfl
        rw [this]; exact g2
      · rw [List.getElem?_append_right h6] at hvi
        rw [others_get _ _ _ hvi]; exact .other _
    · simp; omega
    · intro a' w' ρ' p he hd hs
      have hd' : a'.defers = [] := hd
      obtain ⟨us, g1, g2⟩ := h5 ρ' a' w' he p.heap
      have hres : (results fn a'.tmps).run P w' = .ok (if h : us.toArray.size = 1 then us.toArray[0] else .tuple us.toArray) w' := by
        unfold results
        simp only [Sem.run_bind]
        rw [Array.mapM_eq_mapM_toList]
        simp only [Sem.run_map]
        have key : ∀ g : ResultVar → Sem Value, (∀ x, g x = resF a' x) → (List.mapM g fn.results.toList).run P w' = .ok us w' := fun g hg => by rw [funext hg]; exact g1
        rw [key _ (fun x => by cases x <;> rfl)]; rfl
      cases e with
      | n => exact ⟨hd', _, hres, _, rfl, ρ', p, mkRes_ok g2⟩
      | r => exact ⟨hd', _, hres, _, rfl, ρ', p, mkRes_ok g2⟩
      | x id => exact absurd rfl (hne.1 id)
def LOK (P : Program) (l : List (Nat × Fun)) : Prop := ∀ f F, (f, F) ∈ l → FOK P f F
theorem LOK.nil : LOK P [] := fun f F h => by cases h
theorem LOK.cons {l : List (Nat × Fun)} {f : Nat} {F : Fun} (h : FOK P f F) (hl : LOK P l) : LOK P ((f, F) :: l) := fun g G hm => by
  rcases List.mem_cons.1 hm with e | e
  · cases e; exact h
  · exact hl g G e
theorem Cx.ok {l t : List (Nat × Fun)} (h : LOK P l) (k : LOK P t) : Cx.OK P ⟨l, t⟩ := ⟨h, k⟩
def S0 : St := ⟨.n, .h, 1, 1⟩
theorem S0_ok : SOK S0 := ⟨rfl, Nat.le_refl _, Nat.le_refl _, fun id b h => by cases id <;> cases h⟩
/-- is the answer true -/
noncomputable def yesB (r : R) : Bool := Option.rec false (fun x => Prod.rec (fun v _ => @V.rec (fun _ => Bool) (fun _ => Unit) false (fun b => b) (fun _ _ => false) (fun _ => false) (fun _ _ => false) false (fun _ _ _ _ => false) (fun _ _ _ _ _ => false) false (fun _ _ => false) (fun _ _ => false) (fun _ _ _ => false) false false () (fun _ _ _ _ => ()) v) x) r
theorem yesB_some {r : R} (h : yesB r = true) : ∃ S, r = some (.b true, S) := by
  cases r with
  | none => cases h
  | some x =>
    obtain ⟨v, S⟩ := x
    cases v <;> first | (cases h; done) | skip
    rename_i b
    cases b
    · cases h
    · exact ⟨S, rfl⟩
/-- A function without arguments that hands back true in the machine does so in the model, whatever the world. -/
theorem top_true {f : Nat} {F : Fun} (h : FOK P f F) (hr : yesB (F [] S0 fun v S => some (v, S)) = true) (w : World) : CallsX P f #[] w fun u w' => u = .bool true ∧ Go.RowKit.Below w.heap.size w w' := by
  obtain ⟨S, hS⟩ := yesB_some hr
  obtain ⟨v, S', h1, h2, h3⟩ := h [] S0 _ _ S0_ok hS
  cases h1
  have hh : HRel (fun _ => none) S0 w := ⟨(fun id L h => by cases h), (fun id L b h => by cases h), (fun id id' L L' b b' h => by cases h)⟩
  have := h3 (fun _ => none) w #[] .nil hh (fun _ _ _ => rfl)
  have fin : ∀ {u : Value} {w' : World}, (∃ ρ', Post (fun _ => none) S0.fl S0 S w w' ρ' ∧ VR ρ' (.b true) u) → u = .bool true ∧ Go.RowKit.Below w.heap.size w w' := fun {u w'} ⟨ρ', p, q⟩ =>
    ⟨q.b_inv, p.os, p.tape, p.output, p.size, fun k hk => p.frame k hk fun id L h => by cases h⟩
  rcases this with ⟨h4, h5⟩ | ⟨u, w', h4, h5⟩
  · exact .inl ⟨h4, h5.mono fun e w' ⟨u, he, ht⟩ => ⟨u, he, fin ht⟩⟩
  · exact .inr ⟨u, w', h4, fin h5⟩
end Go.AM
