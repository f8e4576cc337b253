/- Each pure operation: the model yields what the machine computes. -/
import Derived.Test.YtpendgpnikmohaaGreatX8
namespace Go.AM
set_option linter.unusedVariables false
set_option linter.unusedSimpArgs false
variable {out : V × St} {P : Program}
theorem place_field {s : TypeId} {f off : Nat} {ft : TypeId} {i : TypeInfo} {g : Bool} (h : placeP P s f = some (off, ft, i)) (hg : aggP P ft = some g) (cs : Array Value) (w : World) :
    (Instr.field s (.agg cs) f).run P w = (if g then .ok (.agg (cs.extract off (off + i.size))) w else match cs[off]? with | some v => .ok v w | none => .halt (.stuck "part: no such cell") w) := by
  obtain ⟨fs, fd, h1, h2, h3, h4, h5⟩ := placeP_some h
  subst h3 h4
  simp only [Instr.field, asAgg, Sem.run_bind, run_underlying h1, Result.andThen_ok, h2, Sem.run_pure, part, run_isAgg hg]
  cases g
  · simp only [Bool.false_eq_true, if_false]; cases cs[fd.offset]? <;> rfl
  · simp only [if_true, Sem.run_bind, run_size h5, Result.andThen_ok, Sem.run_pure]
theorem denP_ok {o : Oper} {γ : Env} {f : (V → R) → R} (hf : denP P γ o.op = some f) {c : V → R} (h : f c = some out) : ∃ v, c v = some out ∧ PureOK P o γ v := by
  have done : ∀ {v : V}, c v = some out → (∀ (ρ : Ren) (a : Act) (w : World), EnvR ρ γ a → ∃ u, (execOp a.eval o).run P w = .ok (.value u) w ∧ VR ρ v u) → ∃ v, c v = some out ∧ PureOK P o γ v := fun hv hr =>
    ⟨_, hv, fun ρ a w he => by obtain ⟨u, h1, h2⟩ := hr ρ a w he; exact .value h1 ⟨rfl, h2⟩⟩
  cases hop : o.op <;> rw [hop] at hf <;> try (cases hf; done)
  case move x => cases hf; exact done h fun ρ a w he => ⟨_, by simp only [execOp, hop]; rfl, he.val x⟩
  case assign x => cases hf; exact done h fun ρ a w he => ⟨_, by simp only [execOp, hop]; rfl, he.val x⟩
  case pick q x y =>
    cases hf
    obtain ⟨b, hq, h1⟩ := vB_some h
    cases b
    · exact done h1 fun ρ a w he => by
        have e := he.val q; rw [hq] at e
        exact ⟨_, by simp only [execOp, hop, e.b_inv, asBool]; rfl, he.val y⟩
    · exact done h1 fun ρ a w he => by
        have e := he.val q; rw [hq] at e
        exact ⟨_, by simp only [execOp, hop, e.b_inv, asBool]; rfl, he.val x⟩
  case binOp op t x y ty =>
    simp only [denP] at hf
    have fin : (∃ v, c v = some out ∧ ∀ (ρ : Ren) (a : Act) (w : World), EnvR ρ γ a → ∃ u, (do eqGuard op t x y (a.eval x) (a.eval y); binOp op t (a.eval x) (a.eval y) : Sem Value).run P w = .ok u w ∧ VR ρ v u) → ∃ v, c v = some out ∧ PureOK P o γ v := fun ⟨v, hv, hr⟩ =>
      done hv fun ρ a w he => by
        obtain ⟨u, h1, h2⟩ := hr ρ a w he
        refine ⟨u, ?_, h2⟩
        simp only [execOp, hop, Sem.run_bind] at h1 ⊢
        rw [h1]; rfl
    cases hB : denB P op t y (val γ x) (val γ y) with
    | some g => rw [hB] at hf; cases hf; exact fin (denB_ok hB h)
    | none => rw [hB] at hf; exact fin (denE_ok hf h)
  case unOp op t x =>
    cases op <;> try (cases hf; done)
    · cases hf
      obtain ⟨k, n, hx, h1⟩ := vI_some h
      rw [retI_eq] at h1
      exact done h1 fun ρ a w he => by
        have e := he.val x; rw [hx] at e
        obtain ⟨e1, hn⟩ := e.i_inv
        exact ⟨_, by simp only [execOp, hop, e1, Op.unary, Op.intArith]; rfl, .i _ _ _ (mod_lt k _) (neg_ok hn)⟩
    · cases hf
      obtain ⟨b, hx, h1⟩ := vB_some h
      rw [retB_eq] at h1
      exact done h1 fun ρ a w he => by
        have e := he.val x; rw [hx] at e
        exact ⟨_, by simp only [execOp, hop, e.b_inv, Op.unary]; rfl, .b _⟩
  case indexAddr t x i =>
    obtain ⟨v, hv, hr⟩ := idx_ok (P := P) hf h
    exact done hv fun ρ a w he => by
      obtain ⟨u, h1, h2⟩ := hr ρ _ _ w (he.val x) (he.val i)
      exact ⟨u, by simp only [execOp, hop, Sem.run_bind, h1]; rfl, h2⟩
  case index t x i =>
    obtain ⟨v, hv, hr⟩ := ix_ok (P := P) hf h
    exact done hv fun ρ a w he => by
      obtain ⟨u, h1, h2⟩ := hr ρ _ _ w (he.val x) (he.val i)
      exact ⟨u, by simp only [execOp, hop, Sem.run_bind, h1]; rfl, h2⟩
  case fieldAddr s x fi =>
    simp only [denP] at hf
    cases hp : placeP P s fi with
    | none => rw [hp] at hf; cases hf
    | some p =>
      obtain ⟨off, ft, i⟩ := p
      rw [hp] at hf; simp only at hf
      cases hz : Nat.beq i.size 0 <;> rw [hz] at hf <;> simp only [cond_false, cond_true, reduceCtorEq, Option.some.injEq] at hf
      subst hf
      obtain ⟨id, o', hx, h1⟩ := vP_some h
      rw [fN_eq] at h1
      obtain ⟨fs, fd, g1, g2, g3, g4, g5⟩ := placeP_some hp
      exact done h1 fun ρ a w he => by
        have e := he.val x; rw [hx] at e
        obtain ⟨L, hL, e1⟩ := e.p_inv
        refine ⟨.pointer (some ⟨L.b, L.d + (o' + off), none⟩), ?_, .p _ _ _ L hL rfl⟩
        have hsz : i.size ≠ 0 := fun e => by rw [e] at hz; cases hz
        have hadd : (⟨L.b, L.d + o', none⟩ : Addr).add off = ⟨L.b, L.d + (o' + off), none⟩ := by unfold Addr.add; split <;> simp_all; omega
        subst g3 g4
        simp only [execOp, hop, Instr.fieldAt, fieldPlace, Instr.sureAddr, Sem.run_bind, run_underlying g1, Result.andThen_ok, g2, e1, Sem.run_pure, run_size g5, hsz, if_false, hadd]
  case field s x fi =>
    simp only [denP] at hf
    cases hp : placeP P s fi with
    | none => rw [hp] at hf; cases hf
    | some p =>
      obtain ⟨off, ft, i⟩ := p
      rw [hp] at hf; simp only at hf
      cases hg : aggP P ft with
      | none => rw [hg] at hf; cases hf
      | some g =>
        rw [hg] at hf
        cases g <;> simp only [Option.some.injEq] at hf <;> subst hf
        · obtain ⟨l, hx, h1⟩ := vA_some h
          obtain ⟨v, hv, h2⟩ := nthK_some _ _ _ h1
          exact done h2 fun ρ a w he => by
            have e := he.val x; rw [hx] at e
            obtain ⟨cs, e1, hcs⟩ := e.ag_inv
            obtain ⟨u, hu1, hu2⟩ := hcs.toArray off hv
            exact ⟨u, by simp only [execOp, hop, Sem.run_bind, e1, place_field hp hg, Bool.false_eq_true, if_false, hu1]; rfl, hu2⟩
        · obtain ⟨l, hx, h1⟩ := vA_some h
          obtain ⟨h2, h3⟩ := dropK_some _ _ _ h1
          obtain ⟨h4, h5⟩ := takeK_some _ _ _ h3
          exact done h5 fun ρ a w he => by
            have e := he.val x; rw [hx] at e
            obtain ⟨cs, e1, hcs⟩ := e.ag_inv
            refine ⟨_, by simp only [execOp, hop, Sem.run_bind, e1, place_field hp hg, if_true]; rfl, .ag _ _ (one_sub e.ag_one _ _) ?_⟩
            have e2 : (cs.extract off (off + i.size)).toList = (cs.toList.drop off).take i.size := by simp [Array.toList_extract, List.extract_eq_take_drop]
            rw [e2]; exact (hcs.drop _).take _
  case extract x i =>
    cases hf
    obtain ⟨l, hx, h1⟩ := vT_some h
    obtain ⟨v, hv, h2⟩ := nthK_some _ _ _ h1
    exact done h2 fun ρ a w he => by
      have e := he.val x; rw [hx] at e
      obtain ⟨cs, e1, hcs⟩ := e.tu_inv
      obtain ⟨u, hu1, hu2⟩ := hcs.toArray i hv
      exact ⟨u, by simp only [execOp, hop, Instr.extract, e1, hu1]; rfl, hu2⟩
  case convert s d x =>
    simp only [denP, denCv] at hf
    cases hs : P.underlying s with
    | none => rw [hs] at hf; cases hf
    | some ds =>
      cases hd : P.underlying d with
      | none => rw [hs, hd] at hf; cases ds <;> cases hf
      | some dd =>
        rw [hs, hd] at hf
        cases ds <;> try (cases hf; done)
        · cases dd <;> try (cases hf; done)
          cases hf
          obtain ⟨k0, n, hx, h1⟩ := vI_some h
          rw [retI_eq] at h1
          exact done h1 fun ρ a w he => by
            have e := he.val x; rw [hx] at e
            obtain ⟨e1, hn⟩ := e.i_inv
            exact ⟨_, by simp only [execOp, hop, convert, Sem.run_bind, run_underlying hs, run_underlying hd, Result.andThen_ok, e1, Conv.intToInt]; rfl, .i _ _ _ (cv_ok hn).2 (cv_ok hn).1⟩
        · cases dd <;> try (cases hf; done)
          cases hf
          obtain ⟨l, hx, h1⟩ := vS_some h
          exact done h1 fun ρ a w he => by
            have e := he.val x
            have e' := e; rw [hx] at e'
            obtain ⟨t, e1, _⟩ := e'.s_inv
            exact ⟨_, by simp only [execOp, hop, convert, Sem.run_bind, run_underlying hs, run_underlying hd, Result.andThen_ok, e1]; rfl, by rw [← e1]; exact e⟩
  case makeFunc fn first captured =>
    cases fn <;> try (cases hf; done)
    simp only [denP] at hf
    cases hz : first.isEmpty <;> rw [hz] at hf <;> simp only [cond_false, cond_true, reduceCtorEq, Option.some.injEq] at hf
    subst hf
    have hz' : first = #[] := by simpa using hz
    subst hz'
    exact done h fun ρ a w he => ⟨_, by simp only [execOp, hop, Instr.makeFunc, List.map_toArray, List.map_nil, Sem.run_bind, Sem.run_pure, Result.andThen_ok], .f _ _ (captured.map a.eval) (by rw [Array.toList_map]; exact VRs.map he _)⟩
  case nilCheck x =>
    cases hf
    obtain ⟨h1, h2⟩ := vPc_some h
    exact done h2 fun ρ a w he => by
      rcases h1 with ⟨i, o', hx⟩ | ⟨i, cs, hx⟩
      · have e := he.val x
        have e' := e; rw [hx] at e'
        obtain ⟨L, _, e1⟩ := e'.p_inv
        exact ⟨_, by simp only [execOp, hop, e1]; rfl, by rw [← e1]; exact e⟩
      · have e := he.val x
        have e' := e; rw [hx] at e'
        obtain ⟨us, e1, _⟩ := e'.f_inv
        exact ⟨_, by simp only [execOp, hop, e1]; rfl, by rw [← e1]; exact e⟩
  case call c0 =>
    obtain ⟨callee, args, argTypes⟩ := c0
    cases callee <;> try (cases hf; done)
    rename_i b
    cases b <;> try (cases hf; done)
    · -- len
      simp only [denP, denLen] at hf
      cases ha : argTypes.toList with
      | nil => rw [ha] at hf; cases hf
      | cons t ts =>
        cases ts with
        | cons _ _ => rw [ha] at hf; cases hf
        | nil =>
          cases hx : args.toList with
          | nil => rw [ha, hx] at hf; cases hf
          | cons x xs =>
            cases xs with
            | cons _ _ => rw [ha, hx] at hf; cases hf
            | nil =>
              rw [ha, hx] at hf; simp only [List.map_cons, List.map_nil] at hf
              have ea : argTypes = #[t] := by apply Array.ext'; rw [ha]
              have ex : args = #[x] := by apply Array.ext'; rw [hx]
              subst ea ex
              cases hu : P.underlying t with
              | none => rw [hu] at hf; cases hf
              | some d =>
                rw [hu] at hf
                cases d <;> try (cases hf; done)
                · cases hf
                  obtain ⟨l, hv, h1⟩ := vS_some h
                  rw [lenL_zero] at h1
                  obtain ⟨h2, h3⟩ := gu_some h1
                  have hle := Nat.le_of_ble_eq_true h2
                  exact done h3 fun ρ a w he => by
                    have e := he.val x; rw [hv] at e
                    obtain ⟨s, e1, hs⟩ := e.s_inv
                    have hsz : s.size = l.length := by rw [← hs]; simp
                    refine ⟨.int .i64 s.size, by simp only [execOp, hop, resolve, invoke, builtin, Builtin.len_, Sem.run_bind, Sem.run_pure, Result.andThen_ok, List.map_toArray, List.map_cons, List.map_nil, e1, List.getElem?_toArray, List.getElem?_cons_zero, run_underlying hu, goInt], .i _ _ _ (Nat.lt_of_le_of_lt hle (by decide)) ?_⟩
                    rw [hsz, dec_nat ((neg_false .i64 _).2 fun _ => Nat.lt_of_le_of_lt hle (by decide))]
                · cases hf
                  have fin : ∀ n : Nat, gu (Nat.ble n 1073741824) (retI c .i64 n) = some out → c (.i .i64 n) = some out ∧ ∀ ρ, VR ρ (.i .i64 n) (.int .i64 n) := fun n h => by
                    obtain ⟨h2, h3⟩ := gu_some h
                    have hle := Nat.le_of_ble_eq_true h2
                    rw [retI_eq] at h3
                    exact ⟨h3, fun ρ => .i _ _ _ (Nat.lt_of_le_of_lt hle (by decide)) (dec_nat ((neg_false .i64 _).2 fun _ => Nat.lt_of_le_of_lt hle (by decide))).symm⟩
                  rcases vLm_some h with ⟨hv, h1⟩ | ⟨i, o', n, hs, h1⟩
                  · exact done (fin 0 h1).1 fun ρ a w he => by
                      have e := he.val x; rw [hv] at e
                      exact ⟨.int .i64 (0 : Nat), by simp only [execOp, hop, resolve, invoke, builtin, Builtin.len_, Sem.run_bind, Sem.run_pure, Result.andThen_ok, List.map_toArray, List.map_cons, List.map_nil, e.sn_inv, List.getElem?_toArray, List.getElem?_cons_zero, run_underlying hu, goInt], (fin 0 h1).2 ρ⟩
                  · exact done (fin n h1).1 fun ρ a w he => by
                      obtain ⟨L, o'', q, _, e1, _⟩ := (he.val x).sl_any hs
                      exact ⟨.int .i64 (n : Nat), by simp only [execOp, hop, resolve, invoke, builtin, Builtin.len_, Sem.run_bind, Sem.run_pure, Result.andThen_ok, List.map_toArray, List.map_cons, List.map_nil, e1, List.getElem?_toArray, List.getElem?_cons_zero, run_underlying hu, goInt], (fin n h1).2 ρ⟩
    · -- max
      cases hf
      cases hx : args.toList with
      | nil => rw [hx] at h; exact no h
      | cons x xs =>
        rw [hx] at h
        obtain ⟨k, n, hv, h1⟩ := vI_some (show vI (val γ x) (fun _ _ => mxK false (xs.map (val γ)) (val γ x) c) = some out from h)
        obtain ⟨v, h2, hr⟩ := fold_ok false Builtin.max2 (fun k k' x y => rfl) _ _ h1 ⟨k, n, hv⟩
        exact done h2 fun ρ a w he => by
          obtain ⟨u, h3, h4⟩ := hr ρ (xs.map a.eval) (a.eval x) w (VRs.map he _) (he.val x)
          refine ⟨u, ?_, h4⟩
          have e0 : (Builtin.max_ argTypes o.type (args.map a.eval)).run P w = .ok u w := by simp only [Builtin.max_, Array.toList_map, hx, List.map_cons]; exact h3
          simp only [execOp, hop, resolve, invoke, builtin, Sem.run_bind, Sem.run_pure, Result.andThen_ok, e0]
    · -- min
      cases hf
      cases hx : args.toList with
      | nil => rw [hx] at h; exact no h
      | cons x xs =>
        rw [hx] at h
        obtain ⟨k, n, hv, h1⟩ := vI_some (show vI (val γ x) (fun _ _ => mxK true (xs.map (val γ)) (val γ x) c) = some out from h)
        obtain ⟨v, h2, hr⟩ := fold_ok true Builtin.min2 (fun k k' x y => rfl) _ _ h1 ⟨k, n, hv⟩
        exact done h2 fun ρ a w he => by
          obtain ⟨u, h3, h4⟩ := hr ρ (xs.map a.eval) (a.eval x) w (VRs.map he _) (he.val x)
          refine ⟨u, ?_, h4⟩
          have e0 : (Builtin.min_ argTypes o.type (args.map a.eval)).run P w = .ok u w := by simp only [Builtin.min_, Array.toList_map, hx, List.map_cons]; exact h3
          simp only [execOp, hop, resolve, invoke, builtin, Sem.run_bind, Sem.run_pure, Result.andThen_ok, e0]
end Go.AM
