/- A function's code: its meaning in the machine, and that the model does the same. -/
import Derived.Test.YtpendgpnikmohaaGreatX18
namespace Go.AM
set_option linter.unusedVariables false
set_option linter.unusedSimpArgs false
variable {out : V × St} {P : Program} {cx : Cx}
def curry : (n : Nat) → (List V → St → R) → Fn n
  | 0, f => f []
  | n + 1, f => fun v => curry n fun l => f (v :: l)
def ap : (n : Nat) → Fn n → List V → St → R
  | 0, f, l => match l with
    | [] => f
    | _ :: _ => fun _ => none
  | n + 1, f, l => match l with
    | [] => fun _ => none
    | v :: l => ap n (f v) l
theorem ap_curry : ∀ (n : Nat) (f : List V → St → R) (l : List V), l.length = n → ap n (curry n f) l = f l
  | 0, f, [], _ => rfl
  | 0, f, _ :: _, h => by simp at h
  | n + 1, f, [], h => by simp at h
  | n + 1, f, v :: l, h => ap_curry n (fun l => f (v :: l)) l (by simpa using h)
theorem ap_bot : ∀ (n : Nat) (l : List V) (S : St), ap n (bot n) l S = none
  | 0, [], S => rfl
  | 0, _ :: _, S => rfl
  | n + 1, [], S => rfl
  | n + 1, v :: l, S => ap_bot n l S
theorem ap_len : ∀ (n : Nat) (f : Fn n) (l : List V) (S : St), ap n f l S = some out → l.length = n
  | 0, f, [], S, _ => rfl
  | 0, f, _ :: _, S, h => no h
  | n + 1, f, [], S, h => no h
  | n + 1, f, v :: l, S, h => by simp [ap_len n (f v) l S h]
def zipE : List Nat → List V → Env
  | t :: ts, v :: vs => (t, v) :: zipE ts vs
  | _, _ => []
noncomputable def looksL (γ : Env) : List Nat → List V
  | [] => []
  | t :: ts => look γ t :: looksL γ ts
def dbB (N : Nat) : List Oper → Bool
  | [] => true
  | o :: r => (match o.dst with | some d => Nat.blt d N | none => true) && dbB N r
theorem dbB_ok {N : Nat} : ∀ l, dbB N l = true → DB N l
  | [], _ => fun o h => by simp at h
  | o :: r, h => fun p hp d hd => by
    simp only [dbB, Bool.and_eq_true] at h
    rcases List.mem_cons.1 hp with rfl | hp
    · rw [hd] at h; exact blt_lt h.1
    · exact dbB_ok r h.2 p hp d hd
noncomputable def denCode (P : Program) (cx : Cx) (vars : List Nat) (n N : Nat) : Code → CS n
  | .skip => cSkip
  | .label _ => cSkip
  | .ret => cRet
  | .exit id => cExit id
  | .seq a b => cSeq (denCode P cx vars n N a) (denCode P cx vars n N b)
  | .block id c => cBlock id (denCode P cx vars n N c)
  | .loop c => cLoop (denCode P cx vars n N c)
  | .cond c a b => cCond (fun x y => curry n fun E S => pIf (val (zipE vars E) c) (ap n x E S) (ap n y E S)) (denCode P cx vars n N a) (denCode P cx vars n N b)
  | .region _ ops draw => cond (dbB N ops.toList && (!draw || okDraw ops.toList)) (cReg fun kn => curry n fun E S => den P cx draw ops.toList ops.toList (zipE vars E) S fun γ S => ap n kn (looksL γ vars) S) cBad
  | _ => cBad
inductive EX | n | x (id : Nat) | r
def kont {n : Nat} (kn : Fn n) (kx : Nat → Fn n) (kr : Fn n) : EX → Fn n
  | .n => kn
  | .x id => kx id
  | .r => kr
def EX.ex : EX → Exit
  | .n => .normal
  | .x id => .exit id
  | .r => .ret
def CodeOK (P : Program) (c : Code) (vars : List Nat) (n N : Nat) (E : List V) (S : St) (e : EX) (E' : List V) (S' : St) : Prop :=
  Abs S.fl S S' ∧ E'.length = n ∧ ∀ (ρ : Ren) (a : Act) (w : World), EnvR ρ (zipE vars E) a → HRel ρ S w → Fresh ρ S.cnt S'.cnt → a.tmps.size = N → ∀ Q : Exit → Act → World → Prop,
    (∀ a' w' ρ', Post ρ S.fl S S' w w' ρ' → EnvR ρ' (zipE vars E') a' → a'.defers = a.defers → a'.tmps.size = N → Q e.ex a' w') → c.wp P Q a w
theorem zip_looks {ρ : Ren} {γ : Env} {a : Act} (h : EnvR ρ γ a) : ∀ vars : List Nat, EnvR ρ (zipE vars (looksL γ vars)) a
  | [] => fun t => .other _
  | t :: ts => fun s => by
    show VR ρ (cond (Nat.beq t s) (look γ t) (look (zipE ts (looksL γ ts)) s)) _
    cases hb : Nat.beq t s
    · exact zip_looks h ts s
    · rw [← Nat.eq_of_beq_eq_true hb]; exact h t
theorem looksL_len (γ : Env) : ∀ vars : List Nat, (looksL γ vars).length = vars.length
  | [] => rfl
  | t :: ts => by simp [looksL, looksL_len γ ts]
/-- m rounds are enough -/
def Rounds (P : Program) (c : Code) (Q : Exit → Act → World → Prop) : Nat → Act → World → Prop
  | 0, _, _ => False
  | m + 1, a, w => c.wp P (Exit.then (Rounds P c Q m) Q) a w
theorem loop_of {c : Code} {Q : Exit → Act → World → Prop} {a : Act} {w : World} (h : ∃ m, Rounds P c Q m a w) : (Code.loop c).wp P Q a w := by
  classical
  let μ : Act → World → Nat := fun a w => if h : ∃ m, Rounds P c Q m a w then Classical.choose (least (p := fun m => Rounds P c Q m a w) _ (Classical.choose_spec h)) else 0
  have hμ : ∀ a w, (∃ m, Rounds P c Q m a w) → Rounds P c Q (μ a w) a w ∧ ∀ k, Rounds P c Q k a w → μ a w ≤ k := fun a w h => by
    have hs := Classical.choose_spec (least (p := fun m => Rounds P c Q m a w) _ (Classical.choose_spec h))
    have e : μ a w = Classical.choose (least (p := fun m => Rounds P c Q m a w) _ (Classical.choose_spec h)) := dif_pos h
    rw [e]
    refine ⟨hs.2.1, fun k hk => ?_⟩
    rcases Nat.lt_or_ge k (Classical.choose (least (p := fun m => Rounds P c Q m a w) _ (Classical.choose_spec h))) with h1 | h1
    · exact absurd hk (hs.2.2 k h1)
    · exact h1
  refine wp_loop (fun a w => ∃ m, Rounds P c Q m a w) μ h fun a w hI => ?_
  obtain ⟨h1, h2⟩ := hμ a w hI
  cases hm : μ a w with
  | zero => rw [hm] at h1; exact h1.elim
  | succ m =>
    rw [hm] at h1
    refine wp_mono h1 fun e a' w' hq => ?_
    cases e with
    | normal => exact ⟨⟨m, hq⟩, Nat.lt_succ_of_le ((hμ a' w' ⟨m, hq⟩).2 m hq)⟩
    | _ => exact hq
theorem code_ok (hcx : cx.OK P) (hm : P.follows .mixedOrders = true) {vars : List Nat} {n N : Nat} (hv : vars.length = n) : ∀ (c : Code) (kn : Fn n) (kx : Nat → Fn n) (kr : Fn n) (E : List V) (S : St), E.length = n → SOK S → ap n (denCode P cx vars n N c kn kx kr) E S = some out →
    ∃ e E' S', ap n (kont kn kx kr e) E' S' = some out ∧ CodeOK P c vars n N E S e E' S' := by
  intro c
  induction c with
  | skip =>
    intro kn kx kr E S hE ok h
    exact ⟨.n, E, S, h, .refl _ _, hE, fun ρ a w he hh hf hN Q hQ => wp_skip (hQ a w ρ (.refl hh) he rfl hN)⟩
  | label l =>
    intro kn kx kr E S hE ok h
    exact ⟨.n, E, S, h, .refl _ _, hE, fun ρ a w he hh hf hN Q hQ => wp_label (hQ a w ρ (.refl hh) he rfl hN)⟩
  | ret =>
    intro kn kx kr E S hE ok h
    exact ⟨.r, E, S, h, .refl _ _, hE, fun ρ a w he hh hf hN Q hQ => wp_ret (hQ a w ρ (.refl hh) he rfl hN)⟩
  | exit id =>
    intro kn kx kr E S hE ok h
    exact ⟨.x id, E, S, h, .refl _ _, hE, fun ρ a w he hh hf hN Q hQ => wp_exit (hQ a w ρ (.refl hh) he rfl hN)⟩
  | seq x y ihx ihy =>
    intro kn kx kr E S hE ok h
    obtain ⟨e1, E1, S1, h1, ha1, hl1, hr1⟩ := ihx _ kx kr E S hE ok h
    have ends : e1 ≠ .n → ∃ e E' S', ap n (kont kn kx kr e) E' S' = some out ∧ CodeOK P (.seq x y) vars n N E S e E' S' := fun hne => by
      refine ⟨e1, E1, S1, by cases e1 <;> first | exact absurd rfl hne | exact h1, ha1, hl1, fun ρ a w he hh hf hN Q hQ => wp_seq (hr1 ρ a w he hh hf hN _ fun a' w' ρ' p q r s => ?_)⟩
      have := hQ a' w' ρ' p q r s
      cases e1 <;> first | exact absurd rfl hne | exact this
    cases e1 with
    | n =>
      obtain ⟨e2, E2, S2, h2, ha2, hl2, hr2⟩ := ihy kn kx kr E1 S1 hl1 (ha1.ok ok) h1
      rw [ha1.fl_] at ha2 hr2
      refine ⟨e2, E2, S2, h2, ha1.trans ha2, hl2, fun ρ a w he hh hf hN Q hQ => wp_seq (hr1 ρ a w he hh (hf.left (S2 := S2) ha2.cnt) hN _ fun a' w' ρ' p q r s => ?_)⟩
      refine hr2 ρ' a' w' q p.heap (hf.right ha1.cnt p) s Q fun a2 w2 ρ2 p2 q2 r2 s2 => hQ a2 w2 ρ2 (p.trans ha1.cnt ha2.cnt p2) q2 (r2.trans r) s2
    | x id => exact ends (by simp)
    | r => exact ends (by simp)
  | cond q x y ihx ihy =>
    intro kn kx kr E S hE ok h
    have h' : ap n (curry n fun E S => pIf (val (zipE vars E) q) (ap n (denCode P cx vars n N x kn kx kr) E S) (ap n (denCode P cx vars n N y kn kx kr) E S)) E S = some out := h
    rw [ap_curry n _ E hE] at h'
    obtain ⟨b, hb, h1⟩ := vB_some h'
    cases b
    · obtain ⟨e, E', S', h2, ha, hl, hr⟩ := ihy kn kx kr E S hE ok h1
      refine ⟨e, E', S', h2, ha, hl, fun ρ a w he hh hf hN Q hQ => ?_⟩
      have e1 := he.val q; rw [hb] at e1
      exact wp_cond_false e1.b_inv (hr ρ a w he hh hf hN Q hQ)
    · obtain ⟨e, E', S', h2, ha, hl, hr⟩ := ihx kn kx kr E S hE ok h1
      refine ⟨e, E', S', h2, ha, hl, fun ρ a w he hh hf hN Q hQ => ?_⟩
      have e1 := he.val q; rw [hb] at e1
      exact wp_cond_true e1.b_inv (hr ρ a w he hh hf hN Q hQ)
  | block id x ih =>
    intro kn kx kr E S hE ok h
    obtain ⟨e1, E1, S1, h1, ha1, hl1, hr1⟩ := ih kn (fun id' => @Bool.rec (fun _ => Fn n → Fn n → Fn n) (fun kx kn => kx) (fun kx kn => kn) (Nat.beq id' id) (kx id') kn) kr E S hE ok h
    cases e1 with
    | n => exact ⟨.n, E1, S1, h1, ha1, hl1, fun ρ a w he hh hf hN Q hQ => wp_block (hr1 ρ a w he hh hf hN _ fun a' w' ρ' p q r s => hQ a' w' ρ' p q r s)⟩
    | r => exact ⟨.r, E1, S1, h1, ha1, hl1, fun ρ a w he hh hf hN Q hQ => wp_block (hr1 ρ a w he hh hf hN _ fun a' w' ρ' p q r s => hQ a' w' ρ' p q r s)⟩
    | x id' =>
      have h1' : ap n (@Bool.rec (fun _ => Fn n → Fn n → Fn n) (fun kx kn => kx) (fun kx kn => kn) (Nat.beq id' id) (kx id') kn) E1 S1 = some out := h1
      cases hb : Nat.beq id' id <;> rw [hb] at h1'
      · have hne : id' ≠ id := fun e => by rw [e, Nat.beq_refl] at hb; cases hb
        exact ⟨.x id', E1, S1, h1', ha1, hl1, fun ρ a w he hh hf hN Q hQ => wp_block (hr1 ρ a w he hh hf hN _ fun a' w' ρ' p q r s => by
          show (if id' = id then Q .normal a' w' else Q (.exit id') a' w'); rw [if_neg hne]; exact hQ a' w' ρ' p q r s)⟩
      · have he' := Nat.eq_of_beq_eq_true hb
        exact ⟨.n, E1, S1, h1', ha1, hl1, fun ρ a w he hh hf hN Q hQ => wp_block (hr1 ρ a w he hh hf hN _ fun a' w' ρ' p q r s => by
          show (if id' = id then Q .normal a' w' else Q (.exit id') a' w'); rw [if_pos he']; exact hQ a' w' ρ' p q r s)⟩
  | loop x ih =>
    intro kn kx kr E S hE ok h
    have main : ∀ (m : Nat) (E : List V) (S : St), E.length = n → SOK S → ap n (loopN (denCode P cx vars n N x) kx kr m) E S = some out →
        ∃ (e : EX) (E' : List V) (S' : St) (r : Nat), e ≠ .n ∧ ap n (kont kn kx kr e) E' S' = some out ∧ Abs S.fl S S' ∧ E'.length = n ∧ ∀ (ρ : Ren) (a : Act) (w : World), EnvR ρ (zipE vars E) a → HRel ρ S w → Fresh ρ S.cnt S'.cnt → a.tmps.size = N → ∀ Q : Exit → Act → World → Prop,
          (∀ a' w' ρ', Post ρ S.fl S S' w w' ρ' → EnvR ρ' (zipE vars E') a' → a'.defers = a.defers → a'.tmps.size = N → Q e.ex a' w') → Rounds P x Q r a w := by
      intro m
      induction m with
      | zero => intro E S hE ok h; rw [show ap n (loopN (denCode P cx vars n N x) kx kr 0) E S = none from ap_bot n E S] at h; cases h
      | succ m ihm =>
        intro E S hE ok h
        obtain ⟨e1, E1, S1, h1, ha1, hl1, hr1⟩ := ih (loopN (denCode P cx vars n N x) kx kr m) kx kr E S hE ok h
        have ends : e1 ≠ .n → ∃ (e : EX) (E' : List V) (S' : St) (r : Nat), e ≠ .n ∧ ap n (kont kn kx kr e) E' S' = some out ∧ Abs S.fl S S' ∧ E'.length = n ∧ ∀ (ρ : Ren) (a : Act) (w : World), EnvR ρ (zipE vars E) a → HRel ρ S w → Fresh ρ S.cnt S'.cnt → a.tmps.size = N → ∀ Q : Exit → Act → World → Prop,
            (∀ a' w' ρ', Post ρ S.fl S S' w w' ρ' → EnvR ρ' (zipE vars E') a' → a'.defers = a.defers → a'.tmps.size = N → Q e.ex a' w') → Rounds P x Q r a w := fun hne => by
          refine ⟨e1, E1, S1, 1, hne, by cases e1 <;> first | exact absurd rfl hne | exact h1, ha1, hl1, fun ρ a w he hh hf hN Q hQ => hr1 ρ a w he hh hf hN _ fun a' w' ρ' p q r s => ?_⟩
          have := hQ a' w' ρ' p q r s
          cases e1 <;> first | exact absurd rfl hne | exact this
        cases e1 with
        | n =>
          obtain ⟨e2, E2, S2, r2, hne, h2, ha2, hl2, hr2⟩ := ihm E1 S1 hl1 (ha1.ok ok) h1
          rw [ha1.fl_] at ha2 hr2
          refine ⟨e2, E2, S2, r2 + 1, hne, h2, ha1.trans ha2, hl2, fun ρ a w he hh hf hN Q hQ => ?_⟩
          exact hr1 ρ a w he hh (hf.left (S2 := S2) ha2.cnt) hN (Exit.then (Rounds P x Q r2) Q) fun a' w' ρ' p q r s =>
            hr2 ρ' a' w' q p.heap (hf.right ha1.cnt p) s Q fun a2 w2 ρ2 p2 q2 r2 s2 => hQ a2 w2 ρ2 (p.trans ha1.cnt ha2.cnt p2) q2 (r2.trans r) s2
        | x id => exact ends (by simp)
        | r => exact ends (by simp)
    obtain ⟨e, E', S', r, hne, h2, ha, hl, hr⟩ := main 1000000 E S hE ok h
    exact ⟨e, E', S', h2, ha, hl, fun ρ a w he hh hf hN Q hQ => loop_of ⟨r, hr ρ a w he hh hf hN Q hQ⟩⟩
  | region id ops draw =>
    intro kn kx kr E S hE ok h
    have h' : ap n ((cond (dbB N ops.toList && (!draw || okDraw ops.toList)) (cReg fun kn => curry n fun E S => den P cx draw ops.toList ops.toList (zipE vars E) S fun γ S => ap n kn (looksL γ vars) S) cBad : CS n) kn kx kr) E S = some out := h
    cases hc : (dbB N ops.toList && (!draw || okDraw ops.toList)) <;> rw [hc] at h'
    · rw [show ap n ((cond false (cReg fun kn => curry n fun E S => den P cx draw ops.toList ops.toList (zipE vars E) S fun γ S => ap n kn (looksL γ vars) S) cBad : CS n) kn kx kr) E S = none from ap_bot n E S] at h'; cases h'
    · simp only [Bool.and_eq_true] at hc
      have hdb := dbB_ok _ hc.1
      have h2 : ap n (curry n fun E S => den P cx draw ops.toList ops.toList (zipE vars E) S fun γ S => ap n kn (looksL γ vars) S) E S = some out := h'
      rw [ap_curry n _ E hE] at h2
      cases draw
      · obtain ⟨γ', S', h3, ha, hr⟩ := den_seq hcx _ _ _ _ h2 ok
        refine ⟨.n, looksL γ' vars, S', h3, ha, by rw [looksL_len]; exact hv, fun ρ a w he hh hf hN Q hQ => wp_region_list ?_⟩
        have := hr ρ a w he hh hf (by rw [hN]; exact hdb) Q fun a' w' ρ' p q r s => hQ a' w' ρ' p (zip_looks q vars) r (s.trans hN)
        simpa using this
      · have hd : okDraw ops.toList = true := by simpa using hc.2
        obtain ⟨γ', S', h3, ha, hr⟩ := den_draw hcx hd h2 ok
        refine ⟨.n, looksL γ' vars, S', h3, ha, by rw [looksL_len]; exact hv, fun ρ a w he hh hf hN Q hQ => wp_region_any hm ?_⟩
        have := hr ρ a { w with drawn := w.drawn + 1 } he ⟨hh.at_, hh.cells, hh.inj⟩ hf (by rw [hN]; exact hdb) Q fun a' w' ρ' p q r s => hQ a' w' ρ' ⟨p.ext, p.heap, p.os, p.tape, p.output, p.size, p.frame, p.new⟩ (zip_looks q vars) r (s.trans hN)
        simpa using this
  | _ =>
    intro kn kx kr E S hE ok h
    exact no (by rw [← h]; exact (ap_bot n E S).symm)
end Go.AM
