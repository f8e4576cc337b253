/- Slicing. -/
import Derived.Test.YtpendgpnikmohaaGreatX12
namespace Go.AM
set_option linter.unusedVariables false
set_option linter.unusedSimpArgs false
variable {out : V × St} {P : Program} {ρ : Ren} {w : World}
noncomputable def denSl (P : Program) (γ : Env) : Op → Option ((V → R) → R)
  | .slice t x lo hi mx => (match P.underlying t with
    | some (.slice e) => (match P.info? e with
      | some i => cond (mx.isNone || hi.isSome) (some (pSlc i.size (val γ x) (lo.map (val γ)) (hi.map (val γ)) (mx.map (val γ)))) none
      | none => none)
    | some .string => cond mx.isNone (some (pSslc (val γ x) (lo.map (val γ)) (hi.map (val γ)))) none
    | _ => none)
  | _ => none
theorem oN_some {x : Option V} {d : Nat} {k : Nat → R} (h : oN x d k = some out) : (x = none ∧ k d = some out) ∨ ∃ kd n, x = some (.i kd n) ∧ neg kd n = false ∧ k n = some out := by
  cases x with
  | none => exact .inl ⟨rfl, h⟩
  | some v =>
    obtain ⟨kd, n, rfl, h1⟩ := vI_some h
    obtain ⟨h2, h3⟩ := gu_some h1
    exact .inr ⟨kd, n, rfl, by simpa using h2, h3⟩
/-- a bound: left out, or a number -/
def Bd (x : Option Value) (d n : Nat) : Prop := (x = none ∧ n = d) ∨ ∃ k, x = some (.int k (n : Int))
theorem oN_bd {γ : Env} {x : Option Operand} {d : Nat} {k : Nat → R} (h : oN (x.map (val γ)) d k = some out) : ∃ n, k n = some out ∧ (x = none → n = d) ∧ ∀ (ρ : Ren) (a : Act), EnvR ρ γ a → ∀ d', (x = none → n = d') → Bd (x.map a.eval) d' n := by
  rcases oN_some h with ⟨h1, h2⟩ | ⟨kd, n, h1, h2, h3⟩
  · cases x with
    | none => exact ⟨d, h2, fun _ => rfl, fun ρ a he d' hd => .inl ⟨rfl, hd rfl⟩⟩
    | some x => cases h1
  · cases x with
    | none => cases h1
    | some x =>
      refine ⟨n, h3, (fun e => by cases e), fun ρ a he d' hd => .inr ⟨kd, ?_⟩⟩
      have e := he.val x
      rw [Option.some.inj h1] at e
      rw [Option.map_some, e.i_inv.1, dec_nat h2]
theorem run_sb {x : Value} {k : IntKind} {n y : Nat} (hx : x = .int k (n : Int)) (hn : n ≤ y) (code : BoundsCode) : (Instr.sliceBound x y code).run P w = .ok n w := by
  subst hx
  have : (0 : Int) ≤ (n : Int) ∧ (n : Int) ≤ (y : Int) := by omega
  simp only [Instr.sliceBound, asIntOf, Sem.run_bind, Sem.run_pure, Result.andThen_ok, this, and_self, if_true]
  rfl
theorem run_bounds {b : Bool} {len cap l h m : Nat} {lo hi mx : Option Value} (hm : Bd mx cap m) (hh : Bd hi len h) (hl : Bd lo 0 l) (hmh : mx.isNone = true ∨ hi.isSome = true) (h1 : m ≤ cap) (h2 : h ≤ m) (h3 : l ≤ h) :
    (Instr.sliceBounds b len cap lo hi mx).run P w = .ok (l, h, m) w := by
  rcases hm with ⟨rfl, rfl⟩ | ⟨k1, rfl⟩ <;> rcases hh with ⟨rfl, rfl⟩ | ⟨k2, rfl⟩ <;> rcases hl with ⟨rfl, rfl⟩ | ⟨k3, rfl⟩ <;>
    first
      | (simp at hmh; done)
      | simp only [Instr.sliceBounds, Sem.run_bind, Sem.run_pure, Result.andThen_ok, run_sb rfl h1, run_sb rfl h2, run_sb rfl h3]
theorem denSl_ok {o : Oper} {γ : Env} {f : (V → R) → R} (hf : denSl P γ o.op = some f) {c : V → R} (h : f c = some out) : ∃ v, c v = some out ∧ PureOK P o γ v := by
  have done : ∀ {v : V}, c v = some out → (∀ (ρ : Ren) (a : Act) (w : World), EnvR ρ γ a → ∃ u, (execOp a.eval o).run P w = .ok (.value u) w ∧ VR ρ v u) → ∃ v, c v = some out ∧ PureOK P o γ v := fun hv hr =>
    ⟨_, hv, fun ρ a w he => by obtain ⟨u, h1, h2⟩ := hr ρ a w he; exact .value h1 ⟨rfl, h2⟩⟩
  cases hop : o.op <;> rw [hop] at hf <;> try (cases hf; done)
  case slice t x lo hi mx =>
    simp only [denSl] at hf
    cases hu : P.underlying t with
    | none => rw [hu] at hf; cases hf
    | some d =>
      rw [hu] at hf
      cases d <;> try (cases hf; done)
      · -- string
        simp only at hf
        cases hmx : mx.isNone <;> rw [hmx] at hf <;> simp only [cond_true, cond_false, reduceCtorEq, Option.some.injEq] at hf
        subst hf
        have hmx' : mx = none := by simpa using hmx
        subst hmx'
        obtain ⟨s, hx, h1⟩ := vS_some h
        rw [lenL_zero] at h1
        obtain ⟨hh, h2, hd1, hb1⟩ := oN_bd h1
        obtain ⟨h3, h4⟩ := gu_some h2
        obtain ⟨ll, h5, hd2, hb2⟩ := oN_bd h4
        obtain ⟨h6, h7⟩ := gu_some h5
        obtain ⟨h8, h9⟩ := dropK_some _ _ _ h7
        obtain ⟨h10, h11⟩ := takeK_some _ _ _ h9
        have hle := Nat.le_of_ble_eq_true h3
        have hle2 := Nat.le_of_ble_eq_true h6
        exact done h11 fun ρ a w he => by
          have e := he.val x; rw [hx] at e
          obtain ⟨b, e1, hb⟩ := e.s_inv
          have hsz : b.size = s.length := by rw [← hb]; simp
          refine ⟨.string (b.extract ll hh), ?_, .s _ _ ?_⟩
          · have hbd := run_bounds (P := P) (w := w) (b := false) (len := b.size) (cap := b.size) (.inl ⟨rfl, rfl⟩) (hb1 ρ a he b.size (fun e => by rw [hd1 e, hsz])) (hb2 ρ a he 0 hd2) (.inl rfl) (Nat.le_refl _) (by omega) hle2
            simp only [execOp, hop, Instr.sliceAt, Sem.run_bind, run_underlying hu, Result.andThen_ok, Instr.slice, e1, Option.map_none, Option.isSome_none, Bool.false_eq_true, if_false, Sem.run_pure, hbd]
          · rw [← hb]
            have : (b.extract ll hh).data.toList = (b.data.toList.drop ll).take (hh - ll) := by
              rw [ByteArray.data_extract, Array.toList_extract, List.extract_eq_take_drop]
            rw [this, List.map_take, List.map_drop]; rfl
      · rename_i e0
        simp only at hf
        cases hi' : P.info? e0 with
        | none => rw [hi'] at hf; cases hf
        | some i =>
          rw [hi'] at hf; simp only at hf
          cases hmx : (mx.isNone || hi.isSome) <;> rw [hmx] at hf <;> simp only [cond_true, cond_false, reduceCtorEq, Option.some.injEq] at hf
          subst hf
          have hmh : ∀ a : Act, (mx.map a.eval).isNone = true ∨ (hi.map a.eval).isSome = true := fun a => by
            simp only [Bool.or_eq_true] at hmx
            rcases hmx with h | h
            · left; cases mx; rfl; cases h
            · right; cases hi; cases h; rfl
          have fin : ∀ {a : Act} {w : World} {base : Option Addr} {len cap l hh m : Nat}, a.eval x = .slice base len cap → Bd (mx.map a.eval) cap m → Bd (hi.map a.eval) len hh → Bd (lo.map a.eval) 0 l → m ≤ cap → hh ≤ m → l ≤ hh →
              (execOp a.eval o).run P w = .ok (.value (.slice (if m = l then base else base.map (·.add (l * i.size))) (hh - l) (m - l))) w := fun {a w base len cap l hh m} e1 b1 b2 b3 c1 c2 c3 => by
            have hbd := run_bounds (P := P) (w := w) (b := true) b1 b2 b3 (hmh a) c1 c2 c3
            simp only [execOp, hop, Instr.sliceAt, Sem.run_bind, run_underlying hu, Result.andThen_ok, Instr.slice, e1, hbd, run_size hi', Sem.run_pure]
          rcases vS4_some h with ⟨hx, h1⟩ | ⟨id, off, len, cap, hx, h1⟩ | ⟨id, off, len, cap, sz, hx, h1⟩
          · obtain ⟨m, h2, hd1, hb1⟩ := oN_bd h1
            obtain ⟨h3, h4⟩ := gu_some h2
            obtain ⟨hh, h5, hd2, hb2⟩ := oN_bd h4
            obtain ⟨h6, h7⟩ := gu_some h5
            obtain ⟨l, h8, hd3, hb3⟩ := oN_bd h7
            obtain ⟨h9, h10⟩ := gu_some h8
            have em := Nat.eq_of_beq_eq_true h3
            have eh := Nat.eq_of_beq_eq_true h6
            have el := Nat.eq_of_beq_eq_true h9
            subst em eh el
            exact done h10 fun ρ a w he => by
              have e := he.val x; rw [hx] at e
              have := fin (w := w) e.sn_inv (hb1 ρ a he 0 hd1) (hb2 ρ a he 0 hd2) (hb3 ρ a he 0 hd3) (Nat.le_refl _) (Nat.le_refl _) (Nat.le_refl _)
              exact ⟨_, this, by simpa using VR.sn⟩
          · obtain ⟨m, h2, hd1, hb1⟩ := oN_bd h1
            obtain ⟨h3, h4⟩ := gu_some h2
            obtain ⟨hh, h5, hd2, hb2⟩ := oN_bd h4
            obtain ⟨h6, h7⟩ := gu_some h5
            obtain ⟨l, h8, hd3, hb3⟩ := oN_bd h7
            obtain ⟨h9, h10⟩ := gu_some h8
            simp only [fN_eq] at h10
            have c1 := Nat.le_of_ble_eq_true h3
            have c2 := Nat.le_of_ble_eq_true h6
            have c3 := Nat.le_of_ble_eq_true h9
            exact done h10 fun ρ a w he => by
              have e := he.val x; rw [hx] at e
              generalize hxu : a.eval x = xu at e
              cases e with | sl _ _ _ _ o' L hL hlc ho =>
              have := fin (w := w) hxu (hb1 ρ a he cap hd1) (hb2 ρ a he len hd2) (hb3 ρ a he 0 hd3) c1 c2 c3
              refine ⟨_, this, ?_⟩
              unfold cut
              by_cases hml : m = l
              · subst hml
                rw [if_pos rfl, Nat.beq_refl]
                exact .sl _ _ _ _ _ _ hL (Nat.sub_le_sub_right c2 m) (fun hp => by have hp' : 0 < m - m := hp; omega)
              · rw [if_neg hml, show Nat.beq m l = false from by cases hq : Nat.beq m l; rfl; exact absurd (Nat.eq_of_beq_eq_true hq) hml]
                simp only [Option.map_some, add_at]
                exact .sl _ _ _ _ _ _ hL (Nat.sub_le_sub_right c2 l) (fun hp => by
                  have hp' : 0 < m - l := hp
                  rw [ho (by omega)]; show L.d + off + l * i.size = L.d + (off + l * i.size); omega)
          · obtain ⟨hsz, h12⟩ := gu_some h1
            clear h1
            have hsz' : sz = i.size := Nat.eq_of_beq_eq_true hsz
            subst hsz'
            cases hmxx : mx with
            | none =>
              rw [hmxx] at h12
              obtain ⟨hh, h5, hd2, hb2⟩ := oN_bd (show oN (hi.map (val γ)) len _ = some out from h12)
              obtain ⟨h6, h7⟩ := gu_some h5
              obtain ⟨l, h8, hd3, hb3⟩ := oN_bd h7
              obtain ⟨h9, h10⟩ := gu_some h8
              simp only [fN_eq] at h10
              have c2 := Nat.le_of_ble_eq_true h6
              have c3 := Nat.le_of_ble_eq_true h9
              exact done h10 fun ρ a w he => by
                have e := he.val x; rw [hx] at e
                generalize hxu : a.eval x = xu at e
                cases e with | so _ _ _ _ _ o' cc L hL hlc hcc hls ho =>
                have := fin (w := w) hxu (m := cc) (by rw [hmxx]; exact .inl ⟨rfl, rfl⟩) (hb2 ρ a he len hd2) (hb3 ρ a he 0 hd3) (Nat.le_refl _) (by omega) c3
                refine ⟨_, this, ?_⟩
                have hmul : (cc - l) * i.size + l * i.size = cc * i.size := by rw [← Nat.add_mul]; congr 1; omega
                by_cases hml : cc = l
                · rw [if_pos hml]
                  have hz : cap - l = 0 := by omega
                  exact .so _ _ _ _ _ _ _ _ hL (Nat.sub_le_sub_right c2 l) (Nat.sub_le_sub_right hcc l) (by omega) (fun hp => by
                    have hp' : 0 < cap - l := hp
                    omega)
                · rw [if_neg hml]
                  simp only [Option.map_some, add_at]
                  exact .so _ _ _ _ _ _ _ _ hL (Nat.sub_le_sub_right c2 l) (Nat.sub_le_sub_right hcc l) (by omega) (fun hp => by
                    have hp' : 0 < cap - l := hp
                    rw [ho (by omega)]; show L.d + off + l * i.size = L.d + (off + l * i.size); omega)
            | some mm =>
              rw [hmxx] at h12
              obtain ⟨m, h2, hd1, hb1⟩ := oN_bd (x := some mm) (show oN ((some mm).map (val γ)) cap (fun m => gu (Nat.ble m cap) (oN (hi.map (val γ)) len (fun h => gu (Nat.ble h m) (oN (lo.map (val γ)) 0 (fun l => gu (Nat.ble l h) (fN (cut i.size off l m) (fun o => fN (Nat.sub h l) (fun n => fN (Nat.sub m l) (fun q => c (.sl id o n q)))))))))) = some out from h12)
              obtain ⟨h3, h4⟩ := gu_some h2
              obtain ⟨hh, h5, hd2, hb2⟩ := oN_bd h4
              obtain ⟨h6, h7⟩ := gu_some h5
              obtain ⟨l, h8, hd3, hb3⟩ := oN_bd h7
              obtain ⟨h9, h10⟩ := gu_some h8
              simp only [fN_eq] at h10
              have c1 := Nat.le_of_ble_eq_true h3
              have c2 := Nat.le_of_ble_eq_true h6
              have c3 := Nat.le_of_ble_eq_true h9
              exact done h10 fun ρ a w he => by
                have e := he.val x; rw [hx] at e
                generalize hxu : a.eval x = xu at e
                cases e with | so _ _ _ _ _ o' cc L hL hlc hcc hls ho =>
                have := fin (w := w) hxu (m := m) (by rw [hmxx]; exact hb1 ρ a he cc (fun e => by cases e)) (hb2 ρ a he len hd2) (hb3 ρ a he 0 hd3) (by omega) c2 c3
                refine ⟨_, this, ?_⟩
                unfold cut
                by_cases hml : m = l
                · subst hml
                  rw [if_pos rfl, Nat.beq_refl]
                  exact .sl _ _ _ _ _ _ hL (Nat.sub_le_sub_right c2 m) (fun hp => by have hp' : 0 < m - m := hp; omega)
                · rw [if_neg hml, show Nat.beq m l = false from by cases hq : Nat.beq m l; rfl; exact absurd (Nat.eq_of_beq_eq_true hq) hml]
                  simp only [Option.map_some, add_at]
                  exact .sl _ _ _ _ _ _ hL (Nat.sub_le_sub_right c2 l) (fun hp => by
                    have hp' : 0 < m - l := hp
                    rw [ho (by omega)]; show L.d + off + l * i.size = L.d + (off + l * i.size); omega)
end Go.AM
