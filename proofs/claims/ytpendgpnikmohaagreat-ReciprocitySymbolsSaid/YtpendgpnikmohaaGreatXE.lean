/- Equality of two structs. -/
import Derived.Test.YtpendgpnikmohaaGreatX7
namespace Go.AM
set_option linter.unusedVariables false
set_option linter.unusedSimpArgs false
variable {out : V × St} {ρ : Ren} {P : Program} {w : World} {a : Act}
/-- which cells of a value of the type are compared -/
def flatF (P : Program) (rec : TypeId → Option (List (Nat × Nat))) (n : Nat) : List Field → Option (List (Nat × Nat))
  | [] => some []
  | f :: fs => match rec f.type, P.info? f.type, aggP P f.type, flatF P rec n fs with
    | some is, some i, some g, some r => cond (!(f.name == "_") && is.all (fun j => Nat.blt j.1 i.size) && (g || Nat.beq i.size 1) && Nat.ble (f.offset + i.size) n) (some (is.map (fun j => (f.offset + j.1, j.2)) ++ r)) none
    | _, _, _, _ => none
def flatB (P : Program) : Nat → TypeId → Option (List (Nat × Nat))
  | 0, _ => none
  | d + 1, t => match P.underlying t with
    | some .bool => some [(0, 0)]
    | some (.int _) => some [(0, 1)]
    | some .string => some [(0, 2)]
    | some (.struct fs) => match P.info? t with
      | some i => cond (P.stoodInHeld t) none (flatF P (flatB P d) i.size fs.toList)
      | none => none
    | _ => none
def KT (P : Program) (t : TypeId) : Nat → Prop
  | 0 => P.underlying t = some .bool
  | 1 => ∃ k, P.underlying t = some (.int k)
  | _ => P.underlying t = some .string
theorem blt_lt' {a b : Nat} (h : Nat.blt a b = true) : a < b := Nat.le_of_ble_eq_true h
theorem toArray' {l : List V} {m : Array Value} (h : VRs ρ l m.toList) (i : Nat) {v : V} (hv : l[i]? = some v) : ∃ u, m[i]? = some u ∧ VR ρ v u := by
  obtain ⟨u, h1, h2⟩ := h.get hv; exact ⟨u, by simpa using h1, h2⟩
theorem eqC_ok {q : Nat} {x y : V} {k : Bool → R} (h : eqC q x y k = some out) : ∃ b, k b = some out ∧ ∀ (ρ : Ren) (xu yu : Value), VR ρ x xu → VR ρ y yu → ∀ (D : Nat) (t : TypeId) (w : World), KT P t q → (Op.equalIn (D + 1) t xu yu).run P w = .ok b w := by
  match q, h with
  | 0, h =>
    obtain ⟨p, rfl, h0⟩ := vB_some (show vB x (fun a => vB y (fun b => k (Bool.rec (Bool.not b) b a))) = some out from h)
    obtain ⟨q, rfl, h1⟩ := vB_some h0
    refine ⟨_, h1, fun ρ xu yu hx hy D t w hb => ?_⟩
    have e1 := hx.b_inv; have e2 := hy.b_inv
    subst e1 e2
    rw [run_equalIn_bool w D t p q hb]
    cases p <;> cases q <;> rfl
  | 1, h =>
    obtain ⟨d, p, rfl, h0⟩ := vI_some (show vI x (fun d a => vI y (fun d' b => gu (Nat.beq (kNo d) (kNo d')) (k (Nat.beq a b)))) = some out from h)
    obtain ⟨d', q, rfl, h1⟩ := vI_some h0
    obtain ⟨h2, h3⟩ := gu_some h1
    have := kNo_inj h2
    subst this
    refine ⟨_, h3, fun ρ xu yu hx hy D t w hi => ?_⟩
    obtain ⟨e1, hp⟩ := hx.i_inv; obtain ⟨e2, hq⟩ := hy.i_inv
    subst e1 e2
    obtain ⟨kk, hk⟩ := hi
    rw [run_equalIn_int w D t d kk _ _ hk, beq_dec hp hq]
  | n + 2, h =>
    obtain ⟨l, rfl, h0⟩ := vS_some (show vS x (fun a => vS y (fun b => k (eqB a b))) = some out from h)
    obtain ⟨m, rfl, h1⟩ := vS_some h0
    refine ⟨_, h1, fun ρ xu yu hx hy D t w hs => ?_⟩
    obtain ⟨s, e1, f1⟩ := hx.s_inv; obtain ⟨r, e2, f2⟩ := hy.s_inv
    subst e1 e2
    rw [run_equalIn_string w D t s r hs, eqB_eq, ← f1, ← f2, bytes_eq]
theorem eqC_mono {q : Nat} {x y : V} {K K' : Bool → R} (hK : ∀ e, K e = some out → K' e = some out) (h : eqC q x y K = some out) : eqC q x y K' = some out := by
  match q, h with
  | 0, h =>
    obtain ⟨p, rfl, h0⟩ := vB_some (show vB x (fun a => vB y (fun b => K (Bool.rec (Bool.not b) b a))) = some out from h)
    obtain ⟨q, rfl, h1⟩ := vB_some h0
    exact hK _ h1
  | 1, h =>
    obtain ⟨d, p, rfl, h0⟩ := vI_some (show vI x (fun d a => vI y (fun d' b => gu (Nat.beq (kNo d) (kNo d')) (K (Nat.beq a b)))) = some out from h)
    obtain ⟨d', q, rfl, h1⟩ := vI_some h0
    obtain ⟨h2, h3⟩ := gu_some h1
    show gu _ _ = _
    rw [h2]; exact hK _ h3
  | n + 2, h =>
    obtain ⟨l, rfl, h0⟩ := vS_some (show vS x (fun a => vS y (fun b => K (eqB a b))) = some out from h)
    obtain ⟨m, rfl, h1⟩ := vS_some h0
    exact hK _ h1
/-- one cell, then the rest -/
theorem eqIx_cons (l m : List V) (i q : Nat) (r : List (Nat × Nat)) (k : Bool → R) : eqIx l m ((i, q) :: r) k = nthK l i (fun x => nthK m i (fun y => eqC q x y (fun e => cond e (eqIx l m r k) (k false)))) := by
  show nthK l i (fun x => nthK m i (fun y => eqC q x y (fun e => @Bool.rec (fun _ => (List V → List V → (Bool → R) → R) → List V → List V → (Bool → R) → R) (fun _ _ _ k => k false) (fun ih l m k => ih l m k) e (fun l m k => eqIx l m r k) l m k))) = _
  congr 1; funext x; congr 1; funext y; congr 1; funext e
  cases e <;> rfl
theorem eqIx_app (l m : List V) : ∀ (a b : List (Nat × Nat)) (k : Bool → R), eqIx l m (a ++ b) k = eqIx l m a (fun e => cond e (eqIx l m b k) (k false))
  | [], b, k => rfl
  | (i, q) :: a, b, k => by
    rw [List.cons_append, eqIx_cons, eqIx_cons]
    congr 1; funext x; congr 1; funext y; congr 1; funext e
    cases e
    · rfl
    · exact eqIx_app l m a b k
theorem nthK_get {l : List V} {i : Nat} {v : V} (h : l[i]? = some v) (k : V → R) : nthK l i k = k v := by
  induction l generalizing i with
  | nil => simp at h
  | cons x l ih => cases i with
    | zero => simp at h; subst h; rfl
    | succ i => exact ih (by simpa using h)
/-- in a part of the rows -/
theorem eqIx_sub (l m : List V) (o n : Nat) : ∀ (is : List (Nat × Nat)) {k : Bool → R}, (∀ j ∈ is, j.1 < n) → eqIx l m (is.map fun j => (o + j.1, j.2)) k = some out → eqIx ((l.drop o).take n) ((m.drop o).take n) is k = some out
  | [], k, _, h => h
  | (j, q) :: is, k, hj, h => by
    have hlt : j < n := hj (j, q) (List.mem_cons_self ..)
    rw [List.map_cons, eqIx_cons] at h
    obtain ⟨x, h1, h2⟩ := nthK_some _ _ _ h
    obtain ⟨y, h3, h4⟩ := nthK_some _ _ _ h2
    have g1 : ((l.drop o).take n)[j]? = some x := by rw [List.getElem?_take_of_lt hlt, List.getElem?_drop]; exact h1
    have g3 : ((m.drop o).take n)[j]? = some y := by rw [List.getElem?_take_of_lt hlt, List.getElem?_drop]; exact h3
    rw [eqIx_cons, nthK_get g1, nthK_get g3]
    refine eqC_mono (fun e he => ?_) h4
    cases e
    · exact he
    · exact eqIx_sub l m o n is (fun j hj' => hj j (List.mem_cons_of_mem _ hj')) he
/-- the cells of a value of a type -/
def CellsT (P : Program) (ρ : Ren) (t : TypeId) (l : List V) (u : Value) : Prop := (aggP P t = some true ∧ (∃ xs : Array Value, u = .agg xs ∧ VRs ρ l xs.toList) ∧ ∃ i, P.info? t = some i ∧ l.length = i.size) ∨ (aggP P t = some false ∧ ∃ x, l = [x] ∧ VR ρ x u)
theorem part_cells {t : TypeId} {i : TypeInfo} {g : Bool} (hi : P.info? t = some i) (hg : aggP P t = some g) (hs : g = true ∨ i.size = 1) {l : List V} {xs : Array Value} (h : VRs ρ l xs.toList) (o : Nat) (ho : o + i.size ≤ l.length) :
    ∃ u, (part t xs o).run P w = .ok u w ∧ CellsT P ρ t ((l.drop o).take i.size) u := by
  cases g
  · have h1 : i.size = 1 := by rcases hs with h | h; cases h; exact h
    have hlt : o < l.length := by omega
    obtain ⟨u, h2, h3⟩ := toArray' h o (List.getElem?_eq_getElem hlt)
    refine ⟨u, by simp only [part, Sem.run_bind, run_isAgg hg, Result.andThen_ok, Bool.false_eq_true, if_false, h2, Sem.run_pure], .inr ⟨hg, l[o], ?_, h3⟩⟩
    rw [h1, List.drop_eq_getElem_cons hlt]; rfl
  · refine ⟨.agg (xs.extract o (o + i.size)), by simp only [part, Sem.run_bind, run_isAgg hg, Result.andThen_ok, if_true, run_size hi, Sem.run_pure], .inl ⟨hg, ⟨_, rfl, ?_⟩, i, hi, by simp; omega⟩⟩
    have e2 : (xs.extract o (o + i.size)).toList = (xs.toList.drop o).take i.size := by simp [Array.toList_extract, List.extract_eq_take_drop]
    rw [e2]; exact (h.drop _).take _
theorem fields_ok {rec : TypeId → Option (List (Nat × Nat))} {d n : Nat} (hrec : ∀ (t : TypeId) (idx : List (Nat × Nat)), rec t = some idx → ∀ (l m : List V) (k : Bool → R), eqIx l m idx k = some out → ∃ b, k b = some out ∧ ∀ (ρ : Ren) (xu yu : Value) (D : Nat) (w : World), d ≤ D → CellsT P ρ t l xu → CellsT P ρ t m yu → (Op.equalIn D t xu yu).run P w = .ok b w) :
    ∀ (fs : List Field) (idx : List (Nat × Nat)), flatF P rec n fs = some idx → ∀ (l m : List V) (k : Bool → R), eqIx l m idx k = some out →
      ∃ b, k b = some out ∧ ∀ (ρ : Ren) (xs ys : Array Value) (D : Nat) (w : World), d ≤ D → l.length = n → m.length = n → VRs ρ l xs.toList → VRs ρ m ys.toList → (Op.eqFields D xs ys fs).run P w = .ok b w
  | [], idx, hf, l, m, k, h => by cases hf; exact ⟨true, h, fun ρ xs ys D w _ _ _ _ _ => rfl⟩
  | f :: fs, idx, hf, l, m, k, h => by
    simp only [flatF] at hf
    cases h1 : rec f.type with
    | none => rw [h1] at hf; cases hf
    | some is =>
      cases h2 : P.info? f.type with
      | none => rw [h1, h2] at hf; cases hf
      | some i =>
        cases h3 : aggP P f.type with
        | none => rw [h1, h2, h3] at hf; cases hf
        | some g =>
          cases h4 : flatF P rec n fs with
          | none => rw [h1, h2, h3, h4] at hf; cases hf
          | some r =>
            rw [h1, h2, h3, h4] at hf; simp only at hf
            cases hc : (!(f.name == "_") && is.all (fun j => Nat.blt j.1 i.size) && (g || Nat.beq i.size 1) && Nat.ble (f.offset + i.size) n) <;> rw [hc] at hf <;> simp only [cond_true, cond_false, reduceCtorEq, Option.some.injEq] at hf
            subst hf
            simp only [Bool.and_eq_true] at hc
            obtain ⟨⟨⟨c1, c2⟩, c3⟩, c4⟩ := hc
            have c4 := Nat.le_of_ble_eq_true c4
            rw [eqIx_app] at h
            have hsub := eqIx_sub l m f.offset i.size is (fun j hj => by have := List.all_eq_true.1 c2 j hj; exact blt_lt' this) h
            obtain ⟨b, hb1, hb2⟩ := hrec f.type is h1 _ _ _ hsub
            have hne : f.name ≠ "_" := by intro e; rw [e] at c1; simp at c1
            have hsz : g = true ∨ i.size = 1 := by
              cases g
              · right; exact Nat.eq_of_beq_eq_true (by simpa using c3)
              · left; rfl
            cases b
            · refine ⟨false, hb1, fun ρ xs ys D w hD hln hmn hx hy => ?_⟩
              obtain ⟨u, p1, p2⟩ := part_cells (w := w) h2 h3 hsz hx f.offset (by omega)
              obtain ⟨v, q1, q2⟩ := part_cells (w := w) h2 h3 hsz hy f.offset (by omega)
              simp only [Op.eqFields, hne, ne_eq, not_false_eq_true, if_true, Sem.run_bind, p1, q1, Result.andThen_ok, hb2 ρ u v D w hD p2 q2, Bool.not_false, Sem.run_pure]
            · obtain ⟨b, hb3, hb4⟩ := fields_ok hrec fs r h4 l m k hb1
              refine ⟨b, hb3, fun ρ xs ys D w hD hln hmn hx hy => ?_⟩
              obtain ⟨u, p1, p2⟩ := part_cells (w := w) h2 h3 hsz hx f.offset (by omega)
              obtain ⟨v, q1, q2⟩ := part_cells (w := w) h2 h3 hsz hy f.offset (by omega)
              simp only [Op.eqFields, hne, ne_eq, not_false_eq_true, if_true, Sem.run_bind, p1, q1, Result.andThen_ok, hb2 ρ u v D w hD p2 q2, Bool.not_true, Bool.false_eq_true, if_false, hb4 ρ xs ys D w hD hln hmn hx hy]
theorem flat_ok : ∀ (d : Nat) (t : TypeId) (idx : List (Nat × Nat)), flatB P d t = some idx → ∀ (l m : List V) (k : Bool → R), eqIx l m idx k = some out → ∃ b, k b = some out ∧ ∀ (ρ : Ren) (xu yu : Value) (D : Nat) (w : World), d ≤ D → CellsT P ρ t l xu → CellsT P ρ t m yu → (Op.equalIn D t xu yu).run P w = .ok b w
  | 0, t, idx, hf, _, _, _, _ => by cases hf
  | d + 1, t, idx, hf, l, m, k, h => by
    have cell : ∀ q, KT P t q → aggP P t = some false → eqIx l m [(0, q)] k = some out → ∃ b, k b = some out ∧ ∀ (ρ : Ren) (xu yu : Value) (D : Nat) (w : World), d + 1 ≤ D → CellsT P ρ t l xu → CellsT P ρ t m yu → (Op.equalIn D t xu yu).run P w = .ok b w := fun q hq hg h => by
      rw [eqIx_cons] at h
      obtain ⟨x, h1, h2⟩ := nthK_some _ _ _ h
      obtain ⟨y, h3, h4⟩ := nthK_some _ _ _ h2
      obtain ⟨b, h5, h6⟩ := eqC_ok h4
      have h7 : k b = some out := by cases b <;> exact h5
      refine ⟨b, h7, fun ρ xu yu D w hD hx hy => ?_⟩
      rcases hx with ⟨e, _⟩ | ⟨_, x', rfl, hx⟩
      · rw [hg] at e; cases e
      · rcases hy with ⟨e, _⟩ | ⟨_, y', rfl, hy⟩
        · rw [hg] at e; cases e
        · simp at h1 h3
          subst h1 h3
          obtain ⟨D', rfl⟩ : ∃ D', D = D' + 1 := ⟨D - 1, by omega⟩
          exact h6 ρ xu yu hx hy D' t w hq
    simp only [flatB] at hf
    cases hu : P.underlying t with
    | none => rw [hu] at hf; cases hf
    | some dd =>
      rw [hu] at hf
      cases dd <;> try (cases hf; done)
      case bool => cases hf; exact cell 0 hu (by simp [aggP, hu]) h
      case int kk => cases hf; exact cell 1 ⟨kk, hu⟩ (by simp [aggP, hu]) h
      case string => cases hf; exact cell 2 hu (by simp [aggP, hu]) h
      case struct fs =>
        simp only at hf
        cases hi : P.info? t with
        | none => rw [hi] at hf; cases hf
        | some i =>
          rw [hi] at hf; simp only at hf
          cases hp : P.stoodInHeld t <;> rw [hp] at hf <;> simp only [cond_true, cond_false, reduceCtorEq] at hf
          obtain ⟨b, h1, h2⟩ := fields_ok (P := P) (flat_ok d) fs.toList idx hf l m k h
          have hg : aggP P t = some true := by simp [aggP, hu]
          refine ⟨b, h1, fun ρ xu yu D w hD hx hy => ?_⟩
          rcases hx with ⟨_, ⟨xs, rfl, hx⟩, i1, hi1, hl1⟩ | ⟨e, _⟩
          · rcases hy with ⟨_, ⟨ys, rfl, hy⟩, i2, hi2, hl2⟩ | ⟨e, _⟩
            · rw [hi] at hi1 hi2; cases hi1; cases hi2
              obtain ⟨D', rfl⟩ : ∃ D', D = D' + 1 := ⟨D - 1, by omega⟩
              have hfo : P.fieldsOf t = fs := by simp [Program.fieldsOf, hu]
              rw [run_equalIn_struct w D' t xs ys (by rw [hfo]; exact hu) hp, hfo]
              exact h2 ρ xs ys D' w (by omega) hl1 hl2 hx hy
            · rw [hg] at e; cases e
          · rw [hg] at e; cases e
/-- equality of two structs -/
noncomputable def denE (P : Program) (op : BinOp) (t : TypeId) (a b : V) : Option ((V → R) → R) :=
  match flatB P 12 t, P.info? t, P.eqGuardType P.depth t, P.underlying t with
  | some idx, some i, false, some (.struct _) => (match op with
    | .eql => some (pEqA true i.size idx a b)
    | .neq => some (pEqA false i.size idx a b)
    | _ => none)
  | _, _, _, _ => none
theorem denE_ok {op : BinOp} {t : TypeId} {x y : Operand} {γ : Env} {f : (V → R) → R} (hf : denE P op t (val γ x) (val γ y) = some f) {c : V → R} (h : f c = some out) :
    ∃ v, c v = some out ∧ ∀ (ρ : Ren) (a : Act) (w : World), EnvR ρ γ a → ∃ u, (do eqGuard op t x y (a.eval x) (a.eval y); binOp op t (a.eval x) (a.eval y) : Sem Value).run P w = .ok u w ∧ VR ρ v u := by
  unfold denE at hf
  cases h1 : flatB P 12 t with
  | none => rw [h1] at hf; cases hf
  | some idx =>
    cases h2 : P.info? t with
    | none => rw [h1, h2] at hf; cases hf
    | some i =>
      cases h3 : P.eqGuardType P.depth t with
      | true => rw [h1, h2, h3] at hf; cases hf
      | false =>
        cases h4 : P.underlying t with
        | none => rw [h1, h2, h3, h4] at hf; cases hf
        | some dd =>
          rw [h1, h2, h3, h4] at hf
          cases dd <;> try (cases hf; done)
          rename_i fs
          have key : ∀ wnt : Bool, pEqA wnt i.size idx (val γ x) (val γ y) c = some out → ∃ b, c (.b (if wnt then b else !b)) = some out ∧ ∀ (ρ : Ren) (a : Act) (w : World), EnvR ρ γ a → ∃ xs ys : Array Value, a.eval x = .agg xs ∧ a.eval y = .agg ys ∧ (Op.equalIn 10000 t (.agg xs) (.agg ys)).run P w = .ok b w := fun wnt h => by
            obtain ⟨l, hx, g1⟩ := vA_some h
            obtain ⟨m, hy, g2⟩ := vA_some g1
            rw [lenL_zero, lenL_zero] at g2
            obtain ⟨g3, g4⟩ := gu_some g2
            simp only [Bool.and_eq_true] at g3
            have e1 := Nat.eq_of_beq_eq_true g3.1
            have e2 := Nat.eq_of_beq_eq_true g3.2
            obtain ⟨b, g5, g6⟩ := flat_ok 12 t idx h1 l m _ g4
            rw [retB_eq] at g5
            refine ⟨b, by cases wnt <;> cases b <;> exact g5, fun ρ a w he => ?_⟩
            have ex := he.val x; rw [hx] at ex
            have ey := he.val y; rw [hy] at ey
            obtain ⟨xs, f1, f2⟩ := ex.ag_inv
            obtain ⟨ys, f3, f4⟩ := ey.ag_inv
            have hg : aggP P t = some true := by simp [aggP, h4]
            exact ⟨xs, ys, f1, f3, g6 ρ _ _ 10000 w (by decide) (.inl ⟨hg, ⟨xs, rfl, f2⟩, i, h2, e1⟩) (.inl ⟨hg, ⟨ys, rfl, f4⟩, i, h2, e2⟩)⟩
          cases op <;> simp only [Option.some.injEq, reduceCtorEq] at hf <;> subst hf
          · obtain ⟨b, k1, k2⟩ := key true h
            refine ⟨_, k1, fun ρ a w he => ?_⟩
            obtain ⟨xs, ys, f1, f2, f3⟩ := k2 ρ a w he
            rw [f1, f2]
            refine ⟨_, ?_, .b _⟩
            simp only [Sem.run_bind, run_eqGuard_agg w .eql t x y xs ys h3, Result.andThen_ok, run_eql_struct, f3, if_true]
          · obtain ⟨b, k1, k2⟩ := key false h
            refine ⟨_, k1, fun ρ a w he => ?_⟩
            obtain ⟨xs, ys, f1, f2, f3⟩ := k2 ρ a w he
            rw [f1, f2]
            refine ⟨_, ?_, .b _⟩
            simp only [Sem.run_bind, run_eqGuard_agg w .neq t x y xs ys h3, Result.andThen_ok, run_neq_struct, f3, Bool.false_eq_true, if_false]
end Go.AM
