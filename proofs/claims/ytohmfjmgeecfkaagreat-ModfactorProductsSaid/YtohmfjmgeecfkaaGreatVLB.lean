/- The pure operations of a region: their meaning in the machine, and that the model yields it. -/
import Derived.Test.YtohmfjmgeecfkaaGreatVLA
import Derived.Laws.MakeOwn
import Derived.Laws.AppendOwn
namespace Go.AM
set_option linter.unusedVariables false
set_option linter.unusedSimpArgs false
variable {out : V × St} {ρ : Ren} {P : Program} {w : World} {a : Act}
def placeP (P : Program) (s : TypeId) (f : Nat) : Option (Nat × TypeId × TypeInfo) :=
  match P.underlying s with
  | some (.struct fs) => match fs[f]? with
    | some fd => match P.info? fd.type with
      | some i => some (fd.offset, fd.type, i)
      | none => none
    | none => none
  | _ => none
theorem placeP_some {s : TypeId} {f off : Nat} {ft : TypeId} {i : TypeInfo} (h : placeP P s f = some (off, ft, i)) : ∃ fs fd, P.underlying s = some (.struct fs) ∧ fs[f]? = some fd ∧ fd.offset = off ∧ fd.type = ft ∧ P.info? ft = some i := by
  unfold placeP at h
  cases hu : P.underlying s with
  | none => rw [hu] at h; cases h
  | some d =>
    rw [hu] at h
    cases d <;> try (cases h; done)
    rename_i fs
    simp only at h
    cases hf : fs[f]? with
    | none => rw [hf] at h; cases h
    | some fd =>
      rw [hf] at h; simp only at h
      cases hi : P.info? fd.type with
      | none => rw [hi] at h; cases h
      | some i' => rw [hi] at h; cases h; exact ⟨fs, fd, rfl, hf, rfl, rfl, hi⟩
noncomputable def denIdx (P : Program) (t : TypeId) (x i : V) : Option ((V → R) → R) :=
  match P.underlying t with
  | some (.slice e) => match P.info? e with | some inf => some (pIdx inf.size x i) | none => none
  | some (.array n e) => match P.info? e with | some inf => some (pIdxa n inf.size x i) | none => none
  | _ => none
noncomputable def denIx (P : Program) (t : TypeId) (x i : V) : Option ((V → R) → R) :=
  match P.underlying t with
  | some .string => some (pSidx x i)
  | some (.array n e) => match P.info? e with
    | some inf => match aggP P e with
      | some true => some (pAidxn n inf.size x i)
      | some false => cond (Nat.beq inf.size 1) (some (pAidx n x i)) none
      | none => none
    | none => none
  | _ => none
noncomputable def denCv (P : Program) (s d : TypeId) (x : V) : Option ((V → R) → R) :=
  match P.underlying s, P.underlying d with
  | some (.int _), some (.int k) => some (pConv k x)
  | some .string, some .string => some (fun c => vS x (fun _ => c x))
  | _, _ => none
noncomputable def denLen (P : Program) (ts : List TypeId) (vs : List V) : Option ((V → R) → R) :=
  match ts, vs with
  | [t], [x] => match P.underlying t with
    | some (.slice _) => some (pLen x)
    | some .string => some (pLenS x)
    | _ => none
  | _, _ => none
noncomputable def denP (P : Program) (γ : Env) : Op → Option ((V → R) → R)
  | .move x | .assign x => some (fun c => c (val γ x))
  | .pick q a b => some (pPick (val γ q) (val γ a) (val γ b))
  | .binOp op t x y _ => (match denB P op t y (val γ x) (val γ y) with | some f => some f | none => denE P op t (val γ x) (val γ y))
  | .unOp .not _ x => some (pNot (val γ x))
  | .unOp .neg _ x => some (pNeg (val γ x))
  | .indexAddr t x i => denIdx P t (val γ x) (val γ i)
  | .fieldAddr s x f => match placeP P s f with | some (off, _, i) => cond (Nat.beq i.size 0) none (some (pFa off (val γ x))) | none => none
  | .field s x f => match placeP P s f with | some (off, t, i) => (match aggP P t with | some true => some (pFldn off i.size (val γ x)) | some false => some (pFld off (val γ x)) | none => none) | none => none
  | .index t x i => denIx P t (val γ x) (val γ i)
  | .extract x i => some (pExt (val γ x) i)
  | .convert s d x => denCv P s d (val γ x)
  | .makeFunc (.func f) first captured => cond first.isEmpty (some (fun c => c (.f f (captured.toList.map (val γ))))) none
  | .nilCheck x => some (pNc (val γ x))
  | .call { callee := .builtin .len, args, argTypes } => denLen P argTypes.toList (args.toList.map (val γ))
  | .call { callee := .builtin .max, args, argTypes } => some (pMx (args.toList.map (val γ)))
  | .call { callee := .builtin .min, args, argTypes } => some (pMn (args.toList.map (val γ)))
  | _ => none
theorem idx_ok {t : TypeId} {x i : V} {f : (V → R) → R} (hf : denIdx P t x i = some f) {c : V → R} (h : f c = some out) :
    ∃ v, c v = some out ∧ ∀ (ρ : Ren) (xu iu : Value) (w : World), VR ρ x xu → VR ρ i iu → ∃ u, (Instr.indexAt t xu iu).run P w = .ok u w ∧ VR ρ v u := by
  unfold denIdx at hf
  cases hu : P.underlying t with
  | none => rw [hu] at hf; cases hf
  | some d =>
    rw [hu] at hf
    cases d <;> try (cases hf; done)
    case slice e =>
      simp only at hf
      cases hi : P.info? e with
      | none => rw [hi] at hf; cases hf
      | some inf =>
        rw [hi] at hf; cases hf
        obtain ⟨k, n, rfl, h1⟩ := vI_some h
        obtain ⟨h2, h3⟩ := gu_some h1
        obtain ⟨id, off, len, hs, h4⟩ := vLs_some h3
        obtain ⟨h5, h6⟩ := gu_some h4
        rw [fN_eq] at h6
        have hnn : neg k n = false := by simpa using h2
        have hlt : n < len := Nat.le_of_ble_eq_true h5
        refine ⟨_, h6, fun ρ xu iu w hx hi' => ?_⟩
        obtain ⟨L, o, q, hL, hk, rfl, _, ho⟩ := hx.sl_any hs
        obtain ⟨rfl, hn⟩ := hi'.i_inv
        have h0 : 0 ≤ dec k n ∧ dec k n < (len : Int) := by rw [dec_nat hnn]; omega
        have ht : (dec k n).toNat = n := by rw [dec_nat hnn]; rfl
        refine ⟨_, ?_, .p id _ (L.d + (off + n * inf.size)) L hL hk rfl⟩
        simp only [Instr.indexAt, asIntOf, Sem.run_bind, Sem.run_pure, Result.andThen_ok, run_underlying hu, run_size hi, h0, and_self, if_true, ht]
        have : o.add (n * inf.size) = ⟨L.b, L.d + (off + n * inf.size), none⟩ := by
          rw [ho (by omega)]; unfold Addr.add; split
          · rename_i hz; rw [hz]; rfl
          · simp; omega
        rw [this]
    case array n' e =>
      simp only at hf
      cases hi : P.info? e with
      | none => rw [hi] at hf; cases hf
      | some inf =>
        rw [hi] at hf; cases hf
        obtain ⟨k, n, rfl, h1⟩ := vI_some h
        obtain ⟨h2, h3⟩ := gu_some h1
        obtain ⟨id, off, rfl, h4⟩ := vP_some h3
        obtain ⟨h5, h6⟩ := gu_some h4
        rw [fN_eq] at h6
        have hnn : neg k n = false := by simpa using h2
        have hlt : n < n' := Nat.le_of_ble_eq_true h5
        refine ⟨_, h6, fun ρ xu iu w hx hi' => ?_⟩
        obtain ⟨L, hL, hk, rfl⟩ := hx.p_inv
        obtain ⟨rfl, hn⟩ := hi'.i_inv
        have h0 : 0 ≤ dec k n ∧ dec k n < (n' : Int) := by rw [dec_nat hnn]; omega
        have ht : (dec k n).toNat = n := by rw [dec_nat hnn]; rfl
        refine ⟨_, ?_, .p id _ (L.d + (off + n * inf.size)) L hL hk rfl⟩
        have : (⟨L.b, L.d + off, none⟩ : Addr).add (n * inf.size) = ⟨L.b, L.d + (off + n * inf.size), none⟩ := by
          unfold Addr.add; split
          · rename_i hz; rw [hz]; rfl
          · simp; omega
        simp only [Instr.indexAt, asIntOf, Instr.sureAddr, Sem.run_bind, Sem.run_pure, Result.andThen_ok, run_underlying hu, run_size hi, h0, and_self, if_true, ht, this]
theorem fold_ok (less : Bool) (f2 : Value → Value → Sem Value) (hf2 : ∀ k k' x y, f2 (.int k x) (.int k' y) = pure (.int k (if less then (if y < x then y else x) else (if y > x then y else x)))) : ∀ (l : List V) (m : V) {c : V → R}, mxK less l m c = some out → (∃ k n, m = .i k n) →
    ∃ v, c v = some out ∧ ∀ (ρ : Ren) (ls : List Value) (mu : Value) (w : World), VRs ρ l ls → VR ρ m mu → ∃ u, (ls.foldlM f2 mu).run P w = .ok u w ∧ VR ρ v u
  | [], m, c, h, _ => ⟨m, h, fun ρ ls mu w hl hm => by cases hl; exact ⟨mu, rfl, hm⟩⟩
  | x :: l, m, c, h, _ => by
    obtain ⟨k, p, q, rfl, rfl, h1⟩ := two_some (show two m x (fun kd a b c => retI c kd (pickI kd less a b)) (fun m => mxK less l m c) = some out from h)
    rw [retI_eq] at h1
    obtain ⟨v, hv, hr⟩ := fold_ok less f2 hf2 l _ h1 ⟨k, _, rfl⟩
    refine ⟨v, hv, fun ρ ls mu w hl hm => ?_⟩
    cases hl with | cons _ xu _ ls' hx hl' =>
    obtain ⟨rfl, hp⟩ := hm.i_inv
    obtain ⟨rfl, hq⟩ := hx.i_inv
    have hpk : VR ρ (.i k (pickI k less p q)) (.int k (if less then (if dec k q < dec k p then dec k q else dec k p) else (if dec k q > dec k p then dec k q else dec k p))) := by
      unfold pickI
      cases less
      · simp only [Bool.false_eq_true, if_false]
        by_cases hh : dec k q > dec k p
        · rw [if_pos hh, show Nat.blt (sh k p) (sh k q) = true by rw [blt_sh hp hq]; exact decide_eq_true hh]; exact .i _ _ _ hq rfl
        · rw [if_neg hh, show Nat.blt (sh k p) (sh k q) = false by rw [blt_sh hp hq]; exact decide_eq_false hh]; exact .i _ _ _ hp rfl
      · simp only [if_true]
        by_cases hh : dec k q < dec k p
        · rw [if_pos hh, show Nat.blt (sh k q) (sh k p) = true by rw [blt_sh hq hp]; exact decide_eq_true hh]; exact .i _ _ _ hq rfl
        · rw [if_neg hh, show Nat.blt (sh k q) (sh k p) = false by rw [blt_sh hq hp]; exact decide_eq_false hh]; exact .i _ _ _ hp rfl
    obtain ⟨u, h2, h3⟩ := hr ρ ls' _ w hl' hpk
    refine ⟨u, ?_, h3⟩
    rw [List.foldlM_cons, hf2]
    simpa using h2
theorem VRs.toArray {l : List V} {m : Array Value} (h : VRs ρ l m.toList) (i : Nat) {v : V} (hv : l[i]? = some v) : ∃ u, m[i]? = some u ∧ VR ρ v u := by
  obtain ⟨u, h1, h2⟩ := h.get hv; exact ⟨u, by simpa using h1, h2⟩
theorem ix_ok {t : TypeId} {x i : V} {f : (V → R) → R} (hf : denIx P t x i = some f) {c : V → R} (h : f c = some out) :
    ∃ v, c v = some out ∧ ∀ (ρ : Ren) (xu iu : Value) (w : World), VR ρ x xu → VR ρ i iu → ∃ u, (Instr.index t xu iu).run P w = .ok u w ∧ VR ρ v u := by
  unfold denIx at hf
  cases hu : P.underlying t with
  | none => rw [hu] at hf; cases hf
  | some d =>
    rw [hu] at hf
    cases d <;> try (cases hf; done)
    case string =>
      cases hf
      obtain ⟨k, n, rfl, h1⟩ := vI_some h
      obtain ⟨h2, h3⟩ := gu_some h1
      obtain ⟨l, rfl, h4⟩ := vS_some h3
      obtain ⟨m, hm, h5⟩ := nthK_some _ _ _ h4
      have hnn : neg k n = false := by simpa using h2
      refine ⟨_, h5, fun ρ xu iu w hx hi' => ?_⟩
      obtain ⟨s, rfl, hs⟩ := hx.s_inv
      obtain ⟨rfl, hn⟩ := hi'.i_inv
      have h0 : 0 ≤ dec k n := by rw [dec_nat hnn]; omega
      have ht : (dec k n).toNat = n := by rw [dec_nat hnn]; rfl
      rw [← hs, List.getElem?_map] at hm
      cases hb : s.data.toList[n]? with
      | none => rw [hb] at hm; cases hm
      | some b =>
        rw [hb] at hm; cases hm
        obtain ⟨hlt, hbe⟩ := List.getElem?_eq_some_iff.1 hb
        have hlt' : n < s.size := by simpa using hlt
        have : s[n]? = some b := by
          rw [getElem?_pos s n hlt']; congr 1
        refine ⟨_, ?_, .i .u8 b.toNat _ (by have := b.toNat_lt; exact this) rfl⟩
        simp only [Instr.index, asIntOf, Sem.run_bind, Sem.run_pure, Result.andThen_ok, run_underlying hu, h0, if_true, ht, this]
        rw [dec_nat (show neg .u8 b.toNat = false from rfl)]
    case array n' e =>
      simp only at hf
      cases hi : P.info? e with
      | none => rw [hi] at hf; cases hf
      | some inf =>
        rw [hi] at hf; simp only at hf
        cases hg : aggP P e with
        | none => rw [hg] at hf; cases hf
        | some g =>
          rw [hg] at hf
          cases g
          · simp only at hf
            cases hsz : Nat.beq inf.size 1 <;> rw [hsz] at hf <;> simp only [cond_false, cond_true, reduceCtorEq, Option.some.injEq] at hf
            subst hf
            have hsz1 : inf.size = 1 := Nat.eq_of_beq_eq_true hsz
            obtain ⟨k, n, rfl, h1⟩ := vI_some h
            obtain ⟨h2, h3⟩ := gu_some h1
            obtain ⟨l, rfl, h4⟩ := vA_some h3
            obtain ⟨h5, h6⟩ := gu_some h4
            obtain ⟨v, hv, h7⟩ := nthK_some _ _ _ h6
            have hnn : neg k n = false := by simpa using h2
            have hlt : n < n' := Nat.le_of_ble_eq_true h5
            refine ⟨v, h7, fun ρ xu iu w hx hi' => ?_⟩
            obtain ⟨cs, rfl, hcs⟩ := hx.ag_inv
            obtain ⟨rfl, hn⟩ := hi'.i_inv
            have h0 : 0 ≤ dec k n ∧ dec k n < (n' : Int) := by rw [dec_nat hnn]; omega
            have ht : (dec k n).toNat = n := by rw [dec_nat hnn]; rfl
            obtain ⟨u, hu1, hu2⟩ := hcs.toArray n hv
            refine ⟨u, ?_, hu2⟩
            simp only [Instr.index, asIntOf, Sem.run_bind, Sem.run_pure, Result.andThen_ok, run_underlying hu, h0, and_self, if_true, ht, run_size hi, hsz1, Nat.mul_one, part, run_isAgg hg, Bool.false_eq_true, if_false, hu1]
          · simp only [Option.some.injEq] at hf
            subst hf
            obtain ⟨k, n, rfl, h1⟩ := vI_some h
            obtain ⟨h2, h3⟩ := gu_some h1
            obtain ⟨l, rfl, h4⟩ := vA_some h3
            obtain ⟨h5, h6⟩ := gu_some h4
            obtain ⟨h7, h8⟩ := dropK_some _ _ _ h6
            obtain ⟨h9, h10⟩ := takeK_some _ _ _ h8
            have hnn : neg k n = false := by simpa using h2
            have hlt : n < n' := Nat.le_of_ble_eq_true h5
            refine ⟨_, h10, fun ρ xu iu w hx hi' => ?_⟩
            obtain ⟨cs, rfl, hcs⟩ := hx.ag_inv
            obtain ⟨rfl, hn⟩ := hi'.i_inv
            have h0 : 0 ≤ dec k n ∧ dec k n < (n' : Int) := by rw [dec_nat hnn]; omega
            have ht : (dec k n).toNat = n := by rw [dec_nat hnn]; rfl
            refine ⟨_, ?_, .ag _ (cs.extract (n * inf.size) (n * inf.size + inf.size)) (one_sub hx.ag_one _ _) ?_⟩
            · simp only [Instr.index, asIntOf, Sem.run_bind, Sem.run_pure, Result.andThen_ok, run_underlying hu, h0, and_self, if_true, ht, run_size hi, part, run_isAgg hg]
            · have e : (cs.extract (n * inf.size) (n * inf.size + inf.size)).toList = (cs.toList.drop (n * inf.size)).take inf.size := by
                simp [List.take_drop, Array.toList_extract, List.extract_eq_take_drop]
              rw [e]; exact (hcs.drop _).take _
end Go.AM

/- Each pure operation: the model yields what the machine computes. -/
namespace Go.AM
set_option linter.unusedVariables false
set_option linter.unusedSimpArgs false
variable {out : V × St} {P : Program}
theorem place_field {s : TypeId} {f off : Nat} {ft : TypeId} {i : TypeInfo} {g : Bool} (h : placeP P s f = some (off, ft, i)) (hg : aggP P ft = some g) (cs : Array Value) (w : World) :
    (Instr.field s (.agg cs) f).run P w = (if g then .ok (.agg (cs.extract off (off + i.size))) w else match cs[off]? with | some v => .ok v w | none => .halt (.stuck "part: no such cell") w) := by
  obtain ⟨fs, fd, h1, h2, h3, h4, h5⟩ := placeP_some h
  subst h3 h4
  simp only [Instr.field, asAgg, Sem.run_bind, run_underlying h1, Result.andThen_ok, h2, Sem.run_pure, part, run_isAgg hg]
  cases g
  · simp only [Bool.false_eq_true, if_false]; cases cs[fd.offset]? <;> rfl
  · simp only [if_true, Sem.run_bind, run_size h5, Result.andThen_ok, Sem.run_pure]
theorem denP_ok {o : Oper} {γ : Env} {f : (V → R) → R} (hf : denP P γ o.op = some f) {c : V → R} (h : f c = some out) : ∃ v, c v = some out ∧ PureOK P o γ v := by
  have done : ∀ {v : V}, c v = some out → (∀ (ρ : Ren) (a : Act) (w : World), EnvR ρ γ a → ∃ u, (execOp a.eval o).run P w = .ok (.value u) w ∧ VR ρ v u) → ∃ v, c v = some out ∧ PureOK P o γ v := fun hv hr =>
    ⟨_, hv, fun ρ a w he => by obtain ⟨u, h1, h2⟩ := hr ρ a w he; exact .value h1 ⟨rfl, h2⟩⟩
  cases hop : o.op <;> rw [hop] at hf <;> try (cases hf; done)
  case move x => cases hf; exact done h fun ρ a w he => ⟨_, by simp only [execOp, hop]; rfl, he.val x⟩
  case assign x => cases hf; exact done h fun ρ a w he => ⟨_, by simp only [execOp, hop]; rfl, he.val x⟩
  case pick q x y =>
    cases hf
    obtain ⟨b, hq, h1⟩ := vB_some h
    cases b
    · exact done h1 fun ρ a w he => by
        have e := he.val q; rw [hq] at e
        exact ⟨_, by simp only [execOp, hop, e.b_inv, asBool]; rfl, he.val y⟩
    · exact done h1 fun ρ a w he => by
        have e := he.val q; rw [hq] at e
        exact ⟨_, by simp only [execOp, hop, e.b_inv, asBool]; rfl, he.val x⟩
  case binOp op t x y ty =>
    simp only [denP] at hf
    have fin : (∃ v, c v = some out ∧ ∀ (ρ : Ren) (a : Act) (w : World), EnvR ρ γ a → ∃ u, (do eqGuard op t x y (a.eval x) (a.eval y); binOp op t (a.eval x) (a.eval y) : Sem Value).run P w = .ok u w ∧ VR ρ v u) → ∃ v, c v = some out ∧ PureOK P o γ v := fun ⟨v, hv, hr⟩ =>
      done hv fun ρ a w he => by
        obtain ⟨u, h1, h2⟩ := hr ρ a w he
        refine ⟨u, ?_, h2⟩
        simp only [execOp, hop, Sem.run_bind] at h1 ⊢
        rw [h1]; rfl
    cases hB : denB P op t y (val γ x) (val γ y) with
    | some g => rw [hB] at hf; cases hf; exact fin (denB_ok hB h)
    | none => rw [hB] at hf; exact fin (denE_ok hf h)
  case unOp op t x =>
    cases op <;> try (cases hf; done)
    · cases hf
      obtain ⟨k, n, hx, h1⟩ := vI_some h
      rw [retI_eq] at h1
      exact done h1 fun ρ a w he => by
        have e := he.val x; rw [hx] at e
        obtain ⟨e1, hn⟩ := e.i_inv
        exact ⟨_, by simp only [execOp, hop, e1, Op.unary, Op.intArith]; rfl, .i _ _ _ (mod_lt k _) (neg_ok hn)⟩
    · cases hf
      obtain ⟨b, hx, h1⟩ := vB_some h
      rw [retB_eq] at h1
      exact done h1 fun ρ a w he => by
        have e := he.val x; rw [hx] at e
        exact ⟨_, by simp only [execOp, hop, e.b_inv, Op.unary]; rfl, .b _⟩
  case indexAddr t x i =>
    obtain ⟨v, hv, hr⟩ := idx_ok (P := P) hf h
    exact done hv fun ρ a w he => by
      obtain ⟨u, h1, h2⟩ := hr ρ _ _ w (he.val x) (he.val i)
      exact ⟨u, by simp only [execOp, hop, Sem.run_bind, h1]; rfl, h2⟩
  case index t x i =>
    obtain ⟨v, hv, hr⟩ := ix_ok (P := P) hf h
    exact done hv fun ρ a w he => by
      obtain ⟨u, h1, h2⟩ := hr ρ _ _ w (he.val x) (he.val i)
      exact ⟨u, by simp only [execOp, hop, Sem.run_bind, h1]; rfl, h2⟩
  case fieldAddr s x fi =>
    simp only [denP] at hf
    cases hp : placeP P s fi with
    | none => rw [hp] at hf; cases hf
    | some p =>
      obtain ⟨off, ft, i⟩ := p
      rw [hp] at hf; simp only at hf
      cases hz : Nat.beq i.size 0 <;> rw [hz] at hf <;> simp only [cond_false, cond_true, reduceCtorEq, Option.some.injEq] at hf
      subst hf
      obtain ⟨id, o', hx, h1⟩ := vP_some h
      rw [fN_eq] at h1
      obtain ⟨fs, fd, g1, g2, g3, g4, g5⟩ := placeP_some hp
      exact done h1 fun ρ a w he => by
        have e := he.val x; rw [hx] at e
        obtain ⟨L, hL, hk, e1⟩ := e.p_inv
        refine ⟨.pointer (some ⟨L.b, L.d + (o' + off), none⟩), ?_, .p _ _ _ L hL hk rfl⟩
        have hsz : i.size ≠ 0 := fun e => by rw [e] at hz; cases hz
        have hadd : (⟨L.b, L.d + o', none⟩ : Addr).add off = ⟨L.b, L.d + (o' + off), none⟩ := by unfold Addr.add; split <;> simp_all; omega
        subst g3 g4
        simp only [execOp, hop, Instr.fieldAt, fieldPlace, Instr.sureAddr, Sem.run_bind, run_underlying g1, Result.andThen_ok, g2, e1, Sem.run_pure, run_size g5, hsz, if_false, hadd]
  case field s x fi =>
    simp only [denP] at hf
    cases hp : placeP P s fi with
    | none => rw [hp] at hf; cases hf
    | some p =>
      obtain ⟨off, ft, i⟩ := p
      rw [hp] at hf; simp only at hf
      cases hg : aggP P ft with
      | none => rw [hg] at hf; cases hf
      | some g =>
        rw [hg] at hf
        cases g <;> simp only [Option.some.injEq] at hf <;> subst hf
        · obtain ⟨l, hx, h1⟩ := vA_some h
          obtain ⟨v, hv, h2⟩ := nthK_some _ _ _ h1
          exact done h2 fun ρ a w he => by
            have e := he.val x; rw [hx] at e
            obtain ⟨cs, e1, hcs⟩ := e.ag_inv
            obtain ⟨u, hu1, hu2⟩ := hcs.toArray off hv
            exact ⟨u, by simp only [execOp, hop, Sem.run_bind, e1, place_field hp hg, Bool.false_eq_true, if_false, hu1]; rfl, hu2⟩
        · obtain ⟨l, hx, h1⟩ := vA_some h
          obtain ⟨h2, h3⟩ := dropK_some _ _ _ h1
          obtain ⟨h4, h5⟩ := takeK_some _ _ _ h3
          exact done h5 fun ρ a w he => by
            have e := he.val x; rw [hx] at e
            obtain ⟨cs, e1, hcs⟩ := e.ag_inv
            refine ⟨_, by simp only [execOp, hop, Sem.run_bind, e1, place_field hp hg, if_true]; rfl, .ag _ _ (one_sub e.ag_one _ _) ?_⟩
            have e2 : (cs.extract off (off + i.size)).toList = (cs.toList.drop off).take i.size := by simp [Array.toList_extract, List.extract_eq_take_drop]
            rw [e2]; exact (hcs.drop _).take _
  case extract x i =>
    cases hf
    obtain ⟨l, hx, h1⟩ := vT_some h
    obtain ⟨v, hv, h2⟩ := nthK_some _ _ _ h1
    exact done h2 fun ρ a w he => by
      have e := he.val x; rw [hx] at e
      obtain ⟨cs, e1, hcs⟩ := e.tu_inv
      obtain ⟨u, hu1, hu2⟩ := hcs.toArray i hv
      exact ⟨u, by simp only [execOp, hop, Instr.extract, e1, hu1]; rfl, hu2⟩
  case convert s d x =>
    simp only [denP, denCv] at hf
    cases hs : P.underlying s with
    | none => rw [hs] at hf; cases hf
    | some ds =>
      cases hd : P.underlying d with
      | none => rw [hs, hd] at hf; cases ds <;> cases hf
      | some dd =>
        rw [hs, hd] at hf
        cases ds <;> try (cases hf; done)
        · cases dd <;> try (cases hf; done)
          cases hf
          obtain ⟨k0, n, hx, h1⟩ := vI_some h
          rw [retI_eq] at h1
          exact done h1 fun ρ a w he => by
            have e := he.val x; rw [hx] at e
            obtain ⟨e1, hn⟩ := e.i_inv
            exact ⟨_, by simp only [execOp, hop, convert, Sem.run_bind, run_underlying hs, run_underlying hd, Result.andThen_ok, e1, Conv.intToInt]; rfl, .i _ _ _ (cv_ok hn).2 (cv_ok hn).1⟩
        · cases dd <;> try (cases hf; done)
          cases hf
          obtain ⟨l, hx, h1⟩ := vS_some h
          exact done h1 fun ρ a w he => by
            have e := he.val x
            have e' := e; rw [hx] at e'
            obtain ⟨t, e1, _⟩ := e'.s_inv
            exact ⟨_, by simp only [execOp, hop, convert, Sem.run_bind, run_underlying hs, run_underlying hd, Result.andThen_ok, e1]; rfl, by rw [← e1]; exact e⟩
  case makeFunc fn first captured =>
    cases fn <;> try (cases hf; done)
    simp only [denP] at hf
    cases hz : first.isEmpty <;> rw [hz] at hf <;> simp only [cond_false, cond_true, reduceCtorEq, Option.some.injEq] at hf
    subst hf
    have hz' : first = #[] := by simpa using hz
    subst hz'
    exact done h fun ρ a w he => ⟨_, by simp only [execOp, hop, Instr.makeFunc, List.map_toArray, List.map_nil, Sem.run_bind, Sem.run_pure, Result.andThen_ok], .f _ _ (captured.map a.eval) (by rw [Array.toList_map]; exact VRs.map he _)⟩
  case nilCheck x =>
    cases hf
    obtain ⟨h1, h2⟩ := vPc_some h
    exact done h2 fun ρ a w he => by
      rcases h1 with ⟨i, o', hx⟩ | ⟨i, cs, hx⟩
      · have e := he.val x
        have e' := e; rw [hx] at e'
        obtain ⟨L, _, _, e1⟩ := e'.p_inv
        exact ⟨_, by simp only [execOp, hop, e1]; rfl, by rw [← e1]; exact e⟩
      · have e := he.val x
        have e' := e; rw [hx] at e'
        obtain ⟨us, e1, _⟩ := e'.f_inv
        exact ⟨_, by simp only [execOp, hop, e1]; rfl, by rw [← e1]; exact e⟩
  case call c0 =>
    obtain ⟨callee, args, argTypes⟩ := c0
    cases callee <;> try (cases hf; done)
    rename_i b
    cases b <;> try (cases hf; done)
    · -- len
      simp only [denP, denLen] at hf
      cases ha : argTypes.toList with
      | nil => rw [ha] at hf; cases hf
      | cons t ts =>
        cases ts with
        | cons _ _ => rw [ha] at hf; cases hf
        | nil =>
          cases hx : args.toList with
          | nil => rw [ha, hx] at hf; cases hf
          | cons x xs =>
            cases xs with
            | cons _ _ => rw [ha, hx] at hf; cases hf
            | nil =>
              rw [ha, hx] at hf; simp only [List.map_cons, List.map_nil] at hf
              have ea : argTypes = #[t] := by apply Array.ext'; rw [ha]
              have ex : args = #[x] := by apply Array.ext'; rw [hx]
              subst ea ex
              cases hu : P.underlying t with
              | none => rw [hu] at hf; cases hf
              | some d =>
                rw [hu] at hf
                cases d <;> try (cases hf; done)
                · cases hf
                  obtain ⟨l, hv, h1⟩ := vS_some h
                  rw [lenL_zero] at h1
                  obtain ⟨h2, h3⟩ := gu_some h1
                  have hle := Nat.le_of_ble_eq_true h2
                  exact done h3 fun ρ a w he => by
                    have e := he.val x; rw [hv] at e
                    obtain ⟨s, e1, hs⟩ := e.s_inv
                    have hsz : s.size = l.length := by rw [← hs]; simp
                    refine ⟨.int .i64 s.size, by simp only [execOp, hop, resolve, invoke, builtin, Builtin.len_, Sem.run_bind, Sem.run_pure, Result.andThen_ok, List.map_toArray, List.map_cons, List.map_nil, e1, List.getElem?_toArray, List.getElem?_cons_zero, run_underlying hu, goInt], .i _ _ _ (Nat.lt_of_le_of_lt hle (by decide)) ?_⟩
                    rw [hsz, dec_nat ((neg_false .i64 _).2 fun _ => Nat.lt_of_le_of_lt hle (by decide))]
                · cases hf
                  have fin : ∀ n : Nat, gu (Nat.ble n 9223372036854775807) (retI c .i64 n) = some out → c (.i .i64 n) = some out ∧ ∀ ρ, VR ρ (.i .i64 n) (.int .i64 n) := fun n h => by
                    obtain ⟨h2, h3⟩ := gu_some h
                    have hle := Nat.le_of_ble_eq_true h2
                    rw [retI_eq] at h3
                    exact ⟨h3, fun ρ => .i _ _ _ (Nat.lt_of_le_of_lt hle (by decide)) (dec_nat ((neg_false .i64 _).2 fun _ => Nat.lt_of_le_of_lt hle (by decide))).symm⟩
                  rcases vLm_some h with ⟨hv, h1⟩ | ⟨i, o', n, hs, h1⟩
                  · exact done (fin 0 h1).1 fun ρ a w he => by
                      have e := he.val x; rw [hv] at e
                      exact ⟨.int .i64 (0 : Nat), by simp only [execOp, hop, resolve, invoke, builtin, Builtin.len_, Sem.run_bind, Sem.run_pure, Result.andThen_ok, List.map_toArray, List.map_cons, List.map_nil, e.sn_inv, List.getElem?_toArray, List.getElem?_cons_zero, run_underlying hu, goInt], (fin 0 h1).2 ρ⟩
                  · exact done (fin n h1).1 fun ρ a w he => by
                      obtain ⟨L, o'', q, _, _, e1, _⟩ := (he.val x).sl_any hs
                      exact ⟨.int .i64 (n : Nat), by simp only [execOp, hop, resolve, invoke, builtin, Builtin.len_, Sem.run_bind, Sem.run_pure, Result.andThen_ok, List.map_toArray, List.map_cons, List.map_nil, e1, List.getElem?_toArray, List.getElem?_cons_zero, run_underlying hu, goInt], (fin n h1).2 ρ⟩
    · -- max
      cases hf
      cases hx : args.toList with
      | nil => rw [hx] at h; exact no h
      | cons x xs =>
        rw [hx] at h
        obtain ⟨k, n, hv, h1⟩ := vI_some (show vI (val γ x) (fun _ _ => mxK false (xs.map (val γ)) (val γ x) c) = some out from h)
        obtain ⟨v, h2, hr⟩ := fold_ok false Builtin.max2 (fun k k' x y => rfl) _ _ h1 ⟨k, n, hv⟩
        exact done h2 fun ρ a w he => by
          obtain ⟨u, h3, h4⟩ := hr ρ (xs.map a.eval) (a.eval x) w (VRs.map he _) (he.val x)
          refine ⟨u, ?_, h4⟩
          have e0 : (Builtin.max_ argTypes o.type (args.map a.eval)).run P w = .ok u w := by simp only [Builtin.max_, Array.toList_map, hx, List.map_cons]; exact h3
          simp only [execOp, hop, resolve, invoke, builtin, Sem.run_bind, Sem.run_pure, Result.andThen_ok, e0]
    · -- min
      cases hf
      cases hx : args.toList with
      | nil => rw [hx] at h; exact no h
      | cons x xs =>
        rw [hx] at h
        obtain ⟨k, n, hv, h1⟩ := vI_some (show vI (val γ x) (fun _ _ => mxK true (xs.map (val γ)) (val γ x) c) = some out from h)
        obtain ⟨v, h2, hr⟩ := fold_ok true Builtin.min2 (fun k k' x y => rfl) _ _ h1 ⟨k, n, hv⟩
        exact done h2 fun ρ a w he => by
          obtain ⟨u, h3, h4⟩ := hr ρ (xs.map a.eval) (a.eval x) w (VRs.map he _) (he.val x)
          refine ⟨u, ?_, h4⟩
          have e0 : (Builtin.min_ argTypes o.type (args.map a.eval)).run P w = .ok u w := by simp only [Builtin.min_, Array.toList_map, hx, List.map_cons]; exact h3
          simp only [execOp, hop, resolve, invoke, builtin, Sem.run_bind, Sem.run_pure, Result.andThen_ok, e0]
end Go.AM

/- Operations that read memory or make new blocks. -/
namespace Go.AM
set_option linter.unusedVariables false
set_option linter.unusedSimpArgs false
variable {out : V × St} {P : Program} {ρ : Ren} {w : World}
noncomputable def zc (P : Program) (t : TypeId) : Option (List V) := match P.info? t with
  | some i => match i.zero with
    | some z => cond ((z.cells.toList.map cv0).all V.one) (some (z.cells.toList.map cv0)) none
    | none => none
  | none => none
theorem zc_some {t : TypeId} {l : List V} (h : zc P t = some l) : ∃ i z, P.info? t = some i ∧ i.zero = some z ∧ l = z.cells.toList.map cv0 ∧ (∀ v ∈ l, v.one = true) := by
  unfold zc at h
  cases hi : P.info? t with
  | none => rw [hi] at h; cases h
  | some i =>
    rw [hi] at h; simp only at h
    cases hz : i.zero with
    | none => rw [hz] at h; cases h
    | some z =>
      rw [hz] at h; simp only at h
      cases ha : (z.cells.toList.map cv0).all V.one <;> rw [ha] at h <;> simp only [cond_true, cond_false, reduceCtorEq, Option.some.injEq] at h
      subst h
      exact ⟨i, z, rfl, hz, rfl, List.all_eq_true.1 ha⟩
/-- where a part lies: a field of a struct, an element of an array or a slice -/
noncomputable def part1 (P : Program) (γ : Env) (place : Nat → Option (Nat × Nat)) : List (Nat × Operand) → Option (List (Nat × Nat × V))
  | [] => some []
  | (i, x) :: r => match place i with
    | some (off, sz) => match part1 P γ place r with
      | some ps => some ((off, sz, val γ x) :: ps)
      | none => none
    | none => none
theorem foldl_put (vs : List Value) : ∀ (cs : Array Value) (off j : Nat), off + j + vs.length ≤ cs.size →
    ((vs.zipIdx j).foldl (fun cs (x : Value × Nat) => cs.setIfInBounds (off + x.2) x.1) cs).toList = cs.toList.take (off + j) ++ vs ++ cs.toList.drop (off + j + vs.length) := by
  induction vs with
  | nil => intro cs off j h; simp
  | cons v vs ih =>
    intro cs off j h
    simp only [List.zipIdx_cons, List.foldl_cons]
    have hl : off + j < cs.size := by simp at h; omega
    rw [ih _ _ _ (by simp at h ⊢; omega)]
    rw [Array.toList_setIfInBounds]
    have e1 : (cs.toList.set (off + j) v).take (off + (j + 1)) = cs.toList.take (off + j) ++ [v] := by
      rw [show off + (j + 1) = (off + j) + 1 by omega, List.take_succ_eq_append_getElem (by simpa using hl)]
      rw [List.take_set_of_le (Nat.le_refl _)]; simp
    have e2 : (cs.toList.set (off + j) v).drop (off + (j + 1) + vs.length) = cs.toList.drop (off + j + (v :: vs).length) := by
      rw [List.drop_set_of_lt (by omega)]; congr 1; simp; omega
    rw [e1, e2]; simp
theorem VRs.cells {v : V} {k : List V → R} (h : cellsK v k = some out) : ∃ l, k l = some out ∧ (∀ (ρ : Ren) (u : Value), VR ρ v u → VRs ρ l u.cells.toList ∧ ∀ x ∈ l, x.one = true) := by
  rcases cellsK_some h with ⟨l, rfl, h1⟩ | ⟨h1, h2⟩
  · exact ⟨l, h1, fun ρ u hu => by obtain ⟨cs, rfl, hc⟩ := hu.ag_inv; exact ⟨hc, hu.ag_one⟩⟩
  · refine ⟨[v], h2, fun ρ u hu => ?_⟩
    obtain ⟨h3, h4⟩ := hu.one h1
    rw [h4]
    exact ⟨.cons _ _ _ _ hu .nil, fun x hx => by rw [List.mem_singleton] at hx; rw [hx]; exact h1⟩
/-- parts put in: the model's fill -/
theorem fill_ok {place : Nat → Option (Nat × Nat)} {γ : Env} : ∀ (parts : List (Nat × Operand)) (ps : List (Nat × Nat × V)), part1 P γ place parts = some ps → ∀ (l : List V) {k : List V → R}, putParts ps l k = some out →
    ∃ l', k l' = some out ∧ ∀ (ρ : Ren) (a : Act) (cs : Array Value), EnvR ρ γ a → VRs ρ l cs.toList → (∀ v ∈ l, v.one = true) → ∃ cs' : Array Value, Instr.fill place cs (parts.map fun p => (p.1, a.eval p.2)) = some cs' ∧ VRs ρ l' cs'.toList ∧ ∀ v ∈ l', v.one = true
  | [], ps, hp, l, k, h => by
    cases hp
    exact ⟨l, h, fun ρ a cs he hl h1 => ⟨cs, rfl, hl, h1⟩⟩
  | (i, x) :: r, ps, hp, l, k, h => by
    simp only [part1] at hp
    cases hq : place i with
    | none => rw [hq] at hp; cases hp
    | some os =>
      obtain ⟨off, sz⟩ := os
      rw [hq] at hp; simp only at hp
      cases hr : part1 P γ place r with
      | none => rw [hr] at hp; cases hp
      | some qs =>
        rw [hr] at hp; cases hp
        obtain ⟨vs, h1, hv⟩ := VRs.cells (show cellsK (val γ x) (fun vs => lenL vs 0 (fun m => gu (Nat.beq m sz) (putK l off vs (fun cs' => putParts qs cs' k)))) = some out from h)
        rw [lenL_zero] at h1
        obtain ⟨h2, h3⟩ := gu_some h1
        have hsz : vs.length = sz := Nat.eq_of_beq_eq_true h2
        obtain ⟨h4, h5⟩ := putK_some _ _ _ _ h3
        obtain ⟨l', h6, h7⟩ := fill_ok r qs hr _ h5
        refine ⟨l', h6, fun ρ a cs he hl hone => ?_⟩
        obtain ⟨g1, g2⟩ := hv ρ _ (he.val x)
        have hlen := g1.length
        have hlc := hl.length
        have hcs : (a.eval x).cells.size = sz := by rw [← hsz, hlen]; simp
        have hput := foldl_put (a.eval x).cells.toList cs off 0 (by simp at hlen hlc ⊢; omega)
        simp only [Nat.add_zero] at hput
        let cs1 : Array Value := (a.eval x).cells.zipIdx.foldl (fun cs (x : Value × Nat) => cs.setIfInBounds (off + x.2) x.1) cs
        have hcs1 : cs1.toList = cs.toList.take off ++ (a.eval x).cells.toList ++ cs.toList.drop (off + (a.eval x).cells.toList.length) := by
          rw [← hput]
          have : cs1 = (a.eval x).cells.toList.zipIdx.foldl (fun cs (x : Value × Nat) => cs.setIfInBounds (off + x.2) x.1) cs := by
            show (a.eval x).cells.zipIdx.foldl _ cs = _
            rw [← Array.foldl_toList, Array.toList_zipIdx]
          rw [this]
        have hvr : VRs ρ (l.take off ++ vs ++ l.drop (off + vs.length)) cs1.toList := by
          rw [hcs1, ← hlen]; exact ((hl.take off).append g1).append (hl.drop _)
        have hone1 : ∀ v ∈ l.take off ++ vs ++ l.drop (off + vs.length), v.one = true := fun v hv' => by
          simp only [List.mem_append] at hv'
          rcases hv' with (h | h) | h
          · exact hone v (List.mem_of_mem_take h)
          · exact g2 v h
          · exact hone v (List.mem_of_mem_drop h)
        obtain ⟨cs', f1, f2, f3⟩ := h7 ρ a cs1 he hvr hone1
        refine ⟨cs', ?_, f2, f3⟩
        have hbig : ¬ (off + (a.eval x).cells.size > cs.size) := by simp at hlen hlc; omega
        have hc : ¬ ((decide ((a.eval x).cells.size ≠ sz) || decide (off + (a.eval x).cells.size > cs.size)) = true) := by simp [hcs]; omega
        simp only [List.map_cons, Instr.fill, hq]
        rw [if_neg hc]
        exact f1
/-- an operation that reads or makes memory -/
def OpOK (P : Program) (o : Oper) (γ : Env) (fl : Nat) (S : St) (v : V) (S' : St) : Prop :=
  Abs fl S S' ∧ ∀ (ρ : Ren) (a : Act) (w : World), EnvR ρ γ a → HRel ρ S w → Fresh ρ S.cnt S'.cnt → Runs P o a w fun u w' => ∃ ρ', Post ρ fl S S' w w' ρ' ∧ VR ρ' v u
theorem PureOK.op {o : Oper} {γ : Env} {v : V} (h : PureOK P o γ v) (fl : Nat) (S : St) : OpOK P o γ fl S v S :=
  ⟨.refl _ _, fun ρ a w he hh _ => by obtain ⟨u, w', h1, rfl, h2⟩ := h ρ a w he; exact ⟨u, _, h1, ρ, .refl hh, h2⟩⟩
/-- a new block, all of whose cells are known -/
theorem new_ok {S : St} (ok : SOK S) (hh : HRel ρ S w) (hf : Fresh ρ S.cnt (S.cnt + 1)) {cs : List V} {c : Array Value} (hc : VRs ρ cs c.toList) (h1 : ∀ v ∈ cs, v.one = true) (e : TypeId) (fl : Nat) :
    Post ρ fl S (S.new cs) w { w with heap := w.heap.push (.cells c e) } (ρ.up S.nx ⟨w.heap.size, 0, c.size, false⟩) := by
  have hl := hc.length
  refine new_post ok hh (hf _ (by rw [ok.nx]; exact Nat.le_refl _) (by rw [ok.nx]; omega)) (c := c) (e := e) (fr := (0, 0)) rfl rfl rfl rfl (fun i _ h => by simp at h) (by simp at hl; omega) fun i v hv => ?_
  obtain ⟨u, h2, h3⟩ := hc.get hv
  exact ⟨u, by simpa using h2, h3, h1 v (List.mem_of_getElem? hv)⟩
end Go.AM

/- Operations that read memory or make new blocks: each in the model. -/
namespace Go.AM
set_option linter.unusedVariables false
set_option linter.unusedSimpArgs false
variable {out : V × St} {P : Program} {ρ : Ren} {w : World}
noncomputable def denMk (P : Program) (t : TypeId) (l c : V) : Option Sem3 := match P.underlying t with
  | some (.slice e) => match zc P e, P.info? e with
    | some z, some i => cond (Nat.ble i.bytes 65536 && Nat.beq z.length i.size) (some (pMks z l c)) none
    | _, _ => none
  | _ => none
noncomputable def denBs (P : Program) (γ : Env) (t : TypeId) (n : Nat) (parts : List (Nat × Operand)) : Option Sem3 := match P.underlying t with
  | some (.slice e) => match zc P e, P.info? e with
    | some z, some inf => match part1 P γ (fun i => some (i * inf.size, inf.size)) parts with
      | some ps => cond (Nat.beq z.length inf.size && Nat.ble (n * inf.size) 65536) (some (pBsl (List.replicate n z).flatten n ps)) none
      | none => none
    | _, _ => none
  | _ => none
noncomputable def denBuild (P : Program) (γ : Env) (t : TypeId) (parts : List (Nat × Operand)) : Option ((V → R) → R) := match P.underlying t, zc P t with
  | some (.struct fs), some z => match fs.toList.mapM (fun f => (P.info? f.type).map fun i => (f.offset, i.size)) with
    | some places => match part1 P γ (fun i => places[i]?) parts with
      | some ps => some (pBuild z ps)
      | none => none
    | none => none
  | some (.array _ e), some z => match P.info? e with
    | some inf => match part1 P γ (fun i => some (i * inf.size, inf.size)) parts with
      | some ps => some (pBuild z ps)
      | none => none
    | none => none
  | _, _ => none
noncomputable def denCq (P : Program) (s d : TypeId) (x : V) : Option Sem3 := match P.underlying s, P.underlying d with
  | some (.slice e), some .string => (match P.underlying e with | some (.int .u8) => some (fun S k => pB2s x S (fun v => k v S)) | _ => none)
  | some .string, some (.slice e) => (match P.underlying e with | some (.int .u8) => some (pS2b x) | _ => none)
  | _, _ => none
noncomputable def denQ (P : Program) (γ : Env) : Op → Option Sem3
  | .load t x => (match aggP P t with
    | some false => some (fun S k => pLd (val γ x) S (fun v => k v S))
    | some true => (match P.info? t with | some i => some (fun S k => pLdn i.size (val γ x) S (fun v => k v S)) | none => none)
    | none => none)
  | .alloc t => (match zc P t with | some z => some (pAlloc z) | none => none)
  | .box _ x => some (pBox (val γ x))
  | .makeSlice t l c => denMk P t (val γ l) (val γ c)
  | .buildSlice t n parts => denBs P γ t n parts.toList
  | .build t parts => (match denBuild P γ t parts.toList with | some f => some (fun S k => f (fun v => k v S)) | none => none)
  | .convert s d x => denCq P s d (val γ x)
  | _ => none
theorem run_zero {t : TypeId} {i : TypeInfo} {z : Value} (h : P.info? t = some i) (hz : i.zero = some z) : (zeroValue t).run P w = .ok z w := by simp [zeroValue, typeInfo, h, hz]
theorem run_loadVar {t : TypeId} {b o : Nat} (h : aggP P t = some false) {u : Value} (hc : w.cell? ⟨b, o, none⟩ = some u) : (loadVar t ⟨b, o, none⟩).run P w = .ok u w := by
  simp [loadVar, run_isAgg h, hc]
theorem run_loadVarN {t : TypeId} {i : TypeInfo} {a : Addr} (h : aggP P t = some true) (hi : P.info? t = some i) {us : List Value} (hl : us.length = i.size) (hc : ∀ j u, us[j]? = some u → w.cell? (a.add j) = some u) : (loadVar t a).run P w = .ok (.agg us.toArray) w := by
  simp [loadVar, run_isAgg h, run_size hi, ← hl, run_loadCells_list w a us hc]
theorem flat_get {α : Type} (z : List α) : ∀ (n i : Nat), i < n * z.length → (List.replicate n z).flatten[i]? = z[i % z.length]?
  | 0, i, h => by simp at h
  | n + 1, i, h => by
    rw [List.replicate_succ, List.flatten_cons]
    have hz : 0 < z.length := Nat.pos_of_ne_zero fun e => by rw [e] at h; simp at h
    rcases Nat.lt_or_ge i z.length with h1 | h1
    · rw [List.getElem?_append_left h1, Nat.mod_eq_of_lt h1]
    · rw [List.getElem?_append_right h1, flat_get z n _ (by rw [Nat.add_mul] at h; omega)]
      congr 1
      conv => rhs; rw [show i = i - z.length + z.length by omega, Nat.add_mod_right]
theorem flat_len {α : Type} (z : List α) (n : Nat) : (List.replicate n z).flatten.length = n * z.length := by simp
/-- zero cells, n times over -/
theorem zeros_ok {t : TypeId} {l : List V} {i : TypeInfo} {z : Value} (hl : l = z.cells.toList.map cv0) (h1 : ∀ v ∈ l, v.one = true) (n m : Nat) (hm : m = n * z.cells.size) :
    VRs ρ (List.replicate n l).flatten ((Array.range m).map (z.cells[· % z.cells.size]!)).toList ∧ ∀ v ∈ (List.replicate n l).flatten, v.one = true := by
  have hzl : l.length = z.cells.size := by rw [hl]; simp
  refine ⟨VRs.of_get (by rw [flat_len, hzl]; simp [hm]) fun j v u hv hu => ?_, fun v hv => ?_⟩
  · have hj : j < n * l.length := by have := (List.getElem?_eq_some_iff.1 hv).1; rwa [flat_len] at this
    have hz : 0 < z.cells.size := by rw [← hzl]; exact Nat.pos_of_ne_zero fun e => by rw [e] at hj; simp at hj
    rw [flat_get l n j hj, hzl, hl, List.getElem?_map] at hv
    have hjm : j < m := by rw [hm, ← hzl]; exact hj
    simp [hjm] at hu
    have hlt : j % z.cells.size < z.cells.size := Nat.mod_lt _ hz
    rw [show z.cells.toList[j % z.cells.size]? = some z.cells[j % z.cells.size] by simp [hlt]] at hv
    simp at hv
    rw [← hu, ← hv, getElem!_pos z.cells _ hlt]
    exact cv0_ok _
  · rw [List.mem_flatten] at hv
    obtain ⟨l', h2, h3⟩ := hv
    have := List.eq_of_mem_replicate h2
    subst this; exact h1 v h3
theorem push_modify {α : Type} (h : Array α) (x : α) (f : α → α) : (h.push x).modify h.size f = h.push (f x) := by
  apply Array.ext_getElem?
  intro i
  rw [Array.getElem?_modify, Array.getElem?_push, Array.getElem?_push]
  by_cases hi : h.size = i
  · subst hi; simp
  · have : ¬ i = h.size := fun e => hi e.symm
    simp [hi, this]
theorem bytes_back : ∀ (ns : List Nat) (s0 : ByteArray), (∀ n ∈ ns, n < 256) → ((ns.map (fun n : Nat => (n : Int))).foldl (fun r n => r.push (UInt8.ofNat n.toNat)) s0).data.toList.map UInt8.toNat = s0.data.toList.map UInt8.toNat ++ ns
  | [], s0, _ => by simp
  | n :: ns, s0, h => by
    simp only [List.map_cons, List.foldl_cons]
    rw [bytes_back ns _ fun m hm => h m (by simp [hm])]
    have : n < 256 := h n (by simp)
    simp [ByteArray.push, Nat.mod_eq_of_lt this]
theorem denQ_ok {o : Oper} {γ : Env} {S : St} {f : Sem3} (hf : denQ P γ o.op = some f) (ok : SOK S) {c : Cont} (h : f S c = some out) :
    ∃ v S', c v S' = some out ∧ OpOK P o γ S.cnt S v S' := by
  have same : ∀ {v : V}, c v S = some out → (∀ (ρ : Ren) (a : Act) (w : World), EnvR ρ γ a → HRel ρ S w → ∃ u, (execOp a.eval o).run P w = .ok (.value u) w ∧ VR ρ v u) → ∃ v S', c v S' = some out ∧ OpOK P o γ S.cnt S v S' := fun hv hr =>
    ⟨_, S, hv, .refl _ _, fun ρ a w he hh _ => by obtain ⟨u, h1, h2⟩ := hr ρ a w he hh; exact .value h1 ⟨ρ, .refl hh, h2⟩⟩
  have made : ∀ {v : V} {cs : List V}, c v (S.new cs) = some out → (∀ (ρ : Ren) (a : Act) (w : World), EnvR ρ γ a → HRel ρ S w → Fresh ρ S.cnt (S.cnt + 1) → Runs P o a w fun u w' => ∃ ρ', Post ρ S.cnt S (S.new cs) w w' ρ' ∧ VR ρ' v u) → ∃ v S', c v S' = some out ∧ OpOK P o γ S.cnt S v S' := fun hv hr =>
    ⟨_, _, hv, .new (Nat.le_refl _) _ ok, hr⟩
  have fresh : ∀ {ρ : Ren}, Fresh ρ S.cnt (S.cnt + 1) → ρ S.nx = none := fun hf => hf _ (by rw [ok.nx]; exact Nat.le_refl _) (by rw [ok.nx]; omega)
  cases hop : o.op <;> rw [hop] at hf <;> try (cases hf; done)
  case load t x =>
    simp only [denQ] at hf
    cases hg : aggP P t with
    | none => rw [hg] at hf; cases hf
    | some g =>
      rw [hg] at hf
      cases g
      · cases hf
        obtain ⟨id, off, hx, h1⟩ := vP_some h
        obtain ⟨b, hb, h2⟩ := cellsAt_some h1
        obtain ⟨v, hv, h3⟩ := nthK_some _ _ _ h2
        exact same h3 fun ρ a w he hh => by
          have e := he.val x; rw [hx] at e
          obtain ⟨L, hL, hk, e1⟩ := e.p_inv
          obtain ⟨u, g1, g2, _⟩ := load_cell ok hh hL hk hb hv
          exact ⟨u, by simp only [execOp, hop, Instr.loadAt, e1, Instr.sureAddr, Sem.run_bind, Sem.run_pure, Result.andThen_ok, run_loadVar hg g1], g2⟩
      · simp only at hf
        cases hi : P.info? t with
        | none => rw [hi] at hf; cases hf
        | some i =>
          rw [hi] at hf; cases hf
          obtain ⟨id, off, hx, h1⟩ := vP_some h
          obtain ⟨b, hb, h2⟩ := cellsAt_some h1
          obtain ⟨h3, h4⟩ := dropK_some _ _ _ h2
          obtain ⟨h5, h6⟩ := takeK_some _ _ _ h4
          exact same h6 fun ρ a w he hh => by
            have e := he.val x; rw [hx] at e
            obtain ⟨L, hL, hk, e1⟩ := e.p_inv
            obtain ⟨us, g1, g2, g3, g4⟩ := load_cells ok hh hL hk hb (off := off) (n := i.size) (a := ⟨L.b, L.d + off, none⟩) (by simp at h5; omega) (fun _ => rfl)
            exact ⟨.agg us.toArray, by simp only [execOp, hop, Instr.loadAt, e1, Instr.sureAddr, Sem.run_bind, Sem.run_pure, Result.andThen_ok, run_loadVarN hg hi g2 g4], .ag _ _ g3 (by simpa using g1)⟩
  case alloc t =>
    simp only [denQ] at hf
    cases hz : zc P t with
    | none => rw [hz] at hf; cases hf
    | some z =>
      rw [hz] at hf; cases hf
      rw [pAlloc, newK_eq] at h
      obtain ⟨i, zv, hi, hzv, hl, h1⟩ := zc_some hz
      exact made h fun ρ a w he hh hfr => .value (u := .pointer (some ⟨w.heap.size, 0, none⟩)) (w' := { w with heap := w.heap.push (.cells zv.cells t) }) (by simp only [execOp, hop, Instr.alloc, Sem.run_bind, run_zero hi hzv, Result.andThen_ok, newVar, newRow, run_newObj, Sem.run_pure])
        ⟨_, new_ok ok hh hfr (by rw [hl]; exact cv0s_ok _) h1 t _, .p _ _ _ _ (Ren.up_same _ _ _) (Nat.zero_le _) rfl⟩
  case box t x =>
    cases hf
    obtain ⟨l, h1, h2⟩ := VRs.cells (show cellsK (val γ x) (fun cs => newK cs S (fun nx S' => c (.p nx 0) S')) = some out from h)
    rw [newK_eq] at h1
    exact made h1 fun ρ a w he hh hfr => by
      obtain ⟨g1, g2⟩ := h2 ρ _ (he.val x)
      exact .value (u := .pointer (some ⟨w.heap.size, 0, none⟩)) (w' := { w with heap := w.heap.push (.cells (a.eval x).cells t) }) (by simp only [execOp, hop, Instr.box, newVar, newRow, Sem.run_bind, run_newObj, Result.andThen_ok, Sem.run_pure]) ⟨_, new_ok ok hh hfr g1 g2 t _, .p _ _ _ _ (Ren.up_same _ _ _) (Nat.zero_le _) rfl⟩
  case makeSlice t l q =>
    simp only [denQ, denMk] at hf
    cases hu : P.underlying t with
    | none => rw [hu] at hf; cases hf
    | some d =>
      rw [hu] at hf
      cases d <;> try (cases hf; done)
      rename_i e
      simp only at hf
      cases hz : zc P e with
      | none => rw [hz] at hf; cases hf
      | some z =>
        obtain ⟨i, zv, hi, hzv, hl, h1⟩ := zc_some hz
        rw [hz, hi] at hf; simp only at hf
        cases hbt : (Nat.ble i.bytes 65536 && Nat.beq z.length i.size) <;> rw [hbt] at hf <;> simp only [cond_true, cond_false, reduceCtorEq, Option.some.injEq] at hf
        subst hf
        simp only [Bool.and_eq_true] at hbt
        have hb := Nat.le_of_ble_eq_true hbt.1
        have hzs : z.length = i.size := Nat.eq_of_beq_eq_true hbt.2
        obtain ⟨k1, n1, hx, h2⟩ := vI_some h
        obtain ⟨k2, n2, hy, h3⟩ := vI_some h2
        obtain ⟨h4, h5⟩ := gu_some h3
        rw [repK_eq, newK_eq] at h5
        simp only [Bool.and_eq_true, Bool.not_eq_true'] at h4
        obtain ⟨⟨h6, h7⟩, h8, h9⟩ := h4
        have hle := Nat.le_of_ble_eq_true h8
        have hmx := Nat.le_of_ble_eq_true h9
        exact made h5 fun ρ a w he hh hfr => by
          have e1 := he.val l; rw [hx] at e1
          have e2 := he.val q; rw [hy] at e2
          obtain ⟨e3, _⟩ := e1.i_inv
          obtain ⟨e4, _⟩ := e2.i_inv
          rw [dec_nat h6] at e3
          rw [dec_nat h7] at e4
          have hbig : (i.bytes : Int) * (n2 : Int) ≤ 281474976710656 := by
            have h1 : i.bytes * n2 ≤ 65536 * 16777216 := Nat.mul_le_mul hb hmx
            have h2 : ((i.bytes * n2 : Nat) : Int) ≤ (1099511627776 : Int) := by omega
            push_cast at h2
            omega
          have hz0 := zeros_ok (ρ := ρ) (t := e) (i := i) hl h1 n2 (n2 * i.size) (by rw [← hzs, hl]; simp)
          have hrun := run_make (P := P) w t e i zv hu hi hzv k1 k2 (n1 : Int) (n2 : Int) (by omega) (by omega) hbig (by omega)
          simp only [Int.toNat_natCast] at hrun
          refine .value (u := .slice (some ⟨w.heap.size, 0, none⟩) n1 n2) (w' := { w with heap := w.heap.push (.cells (madeCells zv.cells (n2 * i.size)) e) }) (by simp only [execOp, hop, e3, e4, Sem.run_bind, hrun, Result.andThen_ok, Sem.run_pure]; rfl) ?_
          exact ⟨_, new_ok ok hh hfr hz0.1 hz0.2 e _, .sl _ _ _ _ _ _ (Ren.up_same _ _ _) (Nat.zero_le _) hle (fun _ => rfl)⟩
  case buildSlice t n parts =>
    simp only [denQ, denBs] at hf
    cases hu : P.underlying t with
    | none => rw [hu] at hf; cases hf
    | some d =>
      rw [hu] at hf
      cases d <;> try (cases hf; done)
      rename_i e
      simp only at hf
      cases hz : zc P e with
      | none => rw [hz] at hf; cases hf
      | some z =>
        obtain ⟨i, zv, hi, hzv, hl, h1⟩ := zc_some hz
        rw [hz, hi] at hf; simp only at hf
        cases hp : part1 P γ (fun j => some (j * i.size, i.size)) parts.toList with
        | none => rw [hp] at hf; cases hf
        | some ps =>
          rw [hp] at hf; simp only at hf
          cases hbt : (Nat.beq z.length i.size && Nat.ble (n * i.size) 65536) <;> rw [hbt] at hf <;> simp only [cond_true, cond_false, reduceCtorEq, Option.some.injEq] at hf
          subst hf
          simp only [Bool.and_eq_true] at hbt
          have hzs : z.length = i.size := Nat.eq_of_beq_eq_true hbt.1
          have hb := Nat.le_of_ble_eq_true hbt.2
          obtain ⟨l', h2, h3⟩ := fill_ok parts.toList ps hp _ (show putParts ps (List.replicate n z).flatten (fun cs => newK cs S (fun nx S' => c (.sl nx 0 n n) S')) = some out from h)
          rw [newK_eq] at h2
          exact made h2 fun ρ a w he hh hfr => by
            have hz0 := zeros_ok (ρ := ρ) (t := e) (i := i) hl h1 n (n * i.size) (by rw [← hzs, hl]; simp)
            obtain ⟨cs', g1, g2, g3⟩ := h3 ρ a _ he hz0.1 hz0.2
            have hmap : (parts.map fun (p : Nat × Operand) => (p.1, a.eval p.2)).toList = parts.toList.map fun p => (p.1, a.eval p.2) := by simp
            refine .value (u := .slice (some ⟨w.heap.size, 0, none⟩) n n) (w' := { w with heap := w.heap.push (.cells cs' e) }) ?_ ⟨_, new_ok ok hh hfr g2 g3 e _, .sl _ _ _ _ _ _ (Ren.up_same _ _ _) (Nat.zero_le _) (Nat.le_refl _) (fun _ => rfl)⟩
            have hnb : ¬ (n * i.size > 2 ^ 24) := by omega
            by_cases hn0 : n * i.size = 0
            · rw [hn0] at g1
              have : (Array.range 0).map (fun j => zv.cells[j % zv.cells.size]!) = (Array.range 0).map (fun j => (#[] : Array Value)[j % (#[] : Array Value).size]!) := by simp [Array.range_zero']
              rw [this] at g1
              simp only [execOp, hop, Instr.buildSlice, Sem.run_bind, run_underlying hu, Result.andThen_ok, run_size hi, hn0, hmap, Sem.run_pure, if_true, Nat.not_lt_zero, gt_iff_lt, if_false, g1, newRow, run_newObj]
            · simp only [execOp, hop, Instr.buildSlice, Sem.run_bind, run_underlying hu, Result.andThen_ok, run_size hi, hnb, if_false, hn0, run_zero hi hzv, hmap, Sem.run_pure, g1, newRow, run_newObj]
  case build t parts =>
    simp only [denQ, denBuild] at hf
    cases hu : P.underlying t with
    | none => rw [hu] at hf; cases hf
    | some d =>
      rw [hu] at hf
      cases d <;> try (cases hf; done)
      · -- array
        rename_i n e
        cases hz : zc P t with
        | none => rw [hz] at hf; cases hf
        | some z =>
          obtain ⟨i, zv, hi, hzv, hl, h1⟩ := zc_some hz
          rw [hz] at hf; simp only at hf
          cases hie : P.info? e with
          | none => rw [hie] at hf; cases hf
          | some inf =>
            rw [hie] at hf; simp only at hf
            cases hp : part1 P γ (fun j => some (j * inf.size, inf.size)) parts.toList with
            | none => rw [hp] at hf; cases hf
            | some ps =>
              rw [hp] at hf; cases hf
              obtain ⟨l', h2, h3⟩ := fill_ok parts.toList ps hp _ (show putParts ps z (fun cs => c (.ag cs) S) = some out from h)
              exact same h2 fun ρ a w he hh => by
                obtain ⟨cs', g1, g2, g3⟩ := h3 ρ a zv.cells he (by rw [hl]; exact cv0s_ok _) h1
                refine ⟨.agg cs', ?_, .ag _ _ g3 g2⟩
                have hmap : (parts.map fun (p : Nat × Operand) => (p.1, a.eval p.2)).toList = parts.toList.map fun p => (p.1, a.eval p.2) := by simp
                simp only [execOp, hop, Instr.build, Sem.run_bind, run_zero hi hzv, run_underlying hu, Result.andThen_ok, run_size hie, hmap, g1, Sem.run_pure]
      · rename_i fs
        cases hz : zc P t with
        | none => rw [hz] at hf; cases hf
        | some z =>
          obtain ⟨i, zv, hi, hzv, hl, h1⟩ := zc_some hz
          rw [hz] at hf; simp only at hf
          cases hpl : fs.toList.mapM (fun f => (P.info? f.type).map fun i => (f.offset, i.size)) with
          | none => rw [hpl] at hf; cases hf
          | some places =>
            rw [hpl] at hf; simp only at hf
            cases hp : part1 P γ (fun j => places[j]?) parts.toList with
            | none => rw [hp] at hf; cases hf
            | some ps =>
              rw [hp] at hf; cases hf
              obtain ⟨l', h2, h3⟩ := fill_ok parts.toList ps hp _ (show putParts ps z (fun cs => c (.ag cs) S) = some out from h)
              exact same h2 fun ρ a w he hh => by
                obtain ⟨cs', g1, g2, g3⟩ := h3 ρ a zv.cells he (by rw [hl]; exact cv0s_ok _) h1
                refine ⟨.agg cs', ?_, .ag _ _ g3 g2⟩
                have hmap : (parts.map fun (p : Nat × Operand) => (p.1, a.eval p.2)).toList = parts.toList.map fun p => (p.1, a.eval p.2) := by simp
                have hb : P.built t (parts.map fun (p : Nat × Operand) => (p.1, a.eval p.2)).toList = some cs' := by
                  simp only [Program.built, hi, hu, hzv, hpl, hmap, List.getElem?_toArray]
                  exact g1
                have := run_build (P := P) w t (parts.map fun (p : Nat × Operand) => (p.1, a.eval p.2)) cs' hb
                simp only [execOp, hop, Sem.run_bind, this, Result.andThen_ok, Sem.run_pure]
  case convert s d x =>
    simp only [denQ, denCq] at hf
    cases hs : P.underlying s with
    | none => rw [hs] at hf; cases hf
    | some ds =>
      cases hd : P.underlying d with
      | none => rw [hs, hd] at hf; cases ds <;> cases hf
      | some dd =>
        rw [hs, hd] at hf
        cases ds <;> try (cases hf; done)
        · -- string to bytes
          cases dd <;> try (cases hf; done)
          rename_i e
          simp only at hf
          cases hue : P.underlying e with
          | none => rw [hue] at hf; cases hf
          | some de =>
            rw [hue] at hf
            cases de <;> try (cases hf; done)
            rename_i kk
            cases kk <;> try (cases hf; done)
            cases hf
            obtain ⟨l, hx, h1⟩ := vS_some h
            rw [u8sK_eq, lenL_zero] at h1
            obtain ⟨h2, h3⟩ := gu_some h1
            rw [newK_eq] at h3
            exact made h3 fun ρ a w he hh hfr => by
              have e0 := he.val x; rw [hx] at e0
              obtain ⟨t, e1, ht⟩ := e0.s_inv
              have hts : t.size = l.length := by rw [← ht]; simp
              let q : Nat := (Question.appendCap t.size 0 e).cut (w.tape w.drawn (Question.appendCap t.size 0 e))
              have hq : t.size ≤ q := Nat.le_add_right _ _
              let arr : Array Value := t.data.map (fun b => Value.int .u8 b.toNat) ++ Array.replicate (q - t.size) (.int .u8 0)
              have harr : arr.size = q := by
                have : t.data.size = t.size := rfl
                simp [arr, this]; omega
              let w' : World := { w with heap := w.heap.push (.cells arr e (arr.size, arr.size + 1)), drawn := w.drawn + 1 }
              have hcells : ∀ (i : Nat) (v : V), (l.map (V.i .u8))[i]? = some v → ∃ u, arr[i]? = some u ∧ VR ρ v u ∧ v.one = true := fun i v hv => by
                rw [← ht, List.map_map, List.getElem?_map] at hv
                cases hb : t.data.toList[i]? with
                | none => rw [hb] at hv; cases hv
                | some b =>
                  rw [hb] at hv; cases hv
                  have hlt : i < t.data.size := by simpa using (List.getElem?_eq_some_iff.1 hb).1
                  refine ⟨.int .u8 b.toNat, ?_, .i _ _ _ b.toNat_lt rfl, rfl⟩
                  have hb' : t.data[i]? = some b := by simpa using hb
                  simp only [arr]
                  rw [Array.getElem?_append_left (by simpa using hlt), Array.getElem?_map, hb']; rfl
              have hpost := new_post (fl := S.cnt) (w' := w') (cs := l.map (V.i .u8)) ok hh (fresh hfr) (c := arr) (e := e) (fr := (arr.size, arr.size + 1)) rfl rfl rfl rfl (fun i hi hc => by simp at hc; omega) (by simp [harr]; omega) hcells
              refine .value (u := .slice (some ⟨w.heap.size, 0, none⟩) t.size q) (w' := w') ?_ ⟨_, hpost, ?_⟩
              · have hrun : (convert s d (.string t)).run P w = .ok (.slice (some ⟨w.heap.size, 0, none⟩) t.size q) w' := by
                  simp only [convert, Sem.run_bind, run_underlying hs, run_underlying hd, Result.andThen_ok, run_underlying hue, Conv.stringToBytes, run_choose, Question.forced, Bool.false_eq_true, if_false, newRow, run_newObj, Sem.run_pure, markStringish, run_shape, World.shape?]
                  simp only [Array.getElem?_push_size, run_freeze, Result.andThen_ok, Sem.run_pure, World.freeze, push_modify, Nat.one_ne_zero, if_false]
                  rfl
                simp only [execOp, hop, e1, Sem.run_bind, hrun, Result.andThen_ok, Sem.run_pure]
              · rw [hts]
                simp only [List.length_map]
                exact .so _ _ _ _ _ _ _ _ (Ren.up_same _ _ _) (Nat.zero_le _) (Nat.le_refl _) (by omega) (by simp [harr]) (fun _ => rfl)
        · -- bytes to string
          rename_i e
          cases dd <;> try (cases hf; done)
          simp only at hf
          cases hue : P.underlying e with
          | none => rw [hue] at hf; cases hf
          | some de =>
            rw [hue] at hf
            cases de <;> try (cases hf; done)
            rename_i kk
            cases kk <;> try (cases hf; done)
            cases hf
            rcases vLz_some (show vLz (val γ x) (c (.s []) S) (fun id o n => elems 1 id o n S (fun l => bytesK l (fun s => c (.s s) S))) = some out from h) with ⟨hx, h1⟩ | ⟨id, off, n, hsl, h1⟩
            · exact same h1 fun ρ a w he hh => by
                have e0 := he.val x; rw [hx] at e0
                refine ⟨.string .empty, ?_, .s _ _ rfl⟩
                have := run_convert_bytes_string (P := P) w s d e none 0 0 hs hue hd
                simp only [execOp, hop, e0.sn_inv, Sem.run_bind, this, Conv.bytesToString, Sem.run_pure, Result.andThen_ok]
            · obtain ⟨b, hb, h2, h3⟩ := elems_some h1
              rw [Nat.mul_one] at h2 h3
              obtain ⟨ns, hns, h4⟩ := bytesK_some _ _ h3
              exact same h4 fun ρ a w he hh => by
                obtain ⟨L, o', q, hL, hk, e1, hq, ho⟩ := (he.val x).sl_any hsl
                obtain ⟨us, g1, g2, g3, g4⟩ := load_cells ok hh hL hk hb (off := off) (n := n) (a := o') h2 ho
                have hus : us = (ns.map (fun n : Nat => (n : Int))).map (Value.int .u8) ∧ ∀ m ∈ ns, m < 256 := by
                  rw [hns] at g1
                  clear h2 h3 h4 hns g2 g3 g4
                  induction ns generalizing us with
                  | nil => cases g1; exact ⟨rfl, fun m hm => by simp at hm⟩
                  | cons m ns ih =>
                    cases g1 with | cons _ u _ us' hu hr =>
                    obtain ⟨r1, r2⟩ := ih us' hr
                    obtain ⟨r3, r4⟩ := hu.i_inv
                    refine ⟨by rw [r1, r3, dec_nat (show neg .u8 m = false from rfl)]; rfl, fun k hk => ?_⟩
                    rcases List.mem_cons.1 hk with rfl | hk
                    · exact r4
                    · exact r2 k hk
                have hld := run_loadCells_list (P := P) w _ us g4
                rw [g2, hus.1] at hld
                have hrun := run_bytesToString (P := P) w o' n q _ hld
                have := run_convert_bytes_string (P := P) w s d e (some o') n q hs hue hd
                refine ⟨.string ((ns.map (fun n : Nat => (n : Int))).foldl (fun r n => r.push (UInt8.ofNat n.toNat)) ByteArray.empty), by simp only [execOp, hop, e1, Sem.run_bind, this, hrun, Result.andThen_ok, Sem.run_pure], .s _ _ ?_⟩
                rw [bytes_back ns _ hus.2]; simp
end Go.AM

/- Stores and appends. -/
namespace Go.AM
set_option linter.unusedVariables false
set_option linter.unusedSimpArgs false
variable {out : V × St} {P : Program} {ρ : Ren} {w : World}
noncomputable def denApp (P : Program) (ts : List TypeId) (vs : List V) : Option Sem3 := match ts, vs with
  | [t, u], [x, y] => match P.underlying t, P.underlying u with
    | some (.slice e), some (.slice _) => match P.info? e, zc P e with
      | some i, some z => cond (Nat.beq z.length i.size && Nat.ble i.bytes 65536 && Nat.blt 0 i.size) (some (pApp i.size x y)) none
      | _, _ => none
    | _, _ => none
  | _, _ => none
noncomputable def denW (P : Program) (γ : Env) : Op → Option Sem3
  | .store t x y => (match P.info? t with | some i => some (fun S k => pSt i.size (val γ x) (val γ y) S (fun S => k .u S)) | none => none)
  | .call { callee := .builtin .append, args, argTypes } => denApp P argTypes.toList (args.toList.map (val γ))
  | _ => none
section append
variable {t u ty e e2 : TypeId} {i : TypeInfo} {z : Value}
theorem run_app_room (ht : P.underlying t = some (.slice e)) (hu : P.underlying u = some (.slice e2)) (hi : P.info? e = some i) (base : Option Addr) (sLen sCap : Nat) (a : Addr) (n c : Nat) (news : List Value) (hl : news.length = n * i.size)
    (hnews : ∀ j v, news[j]? = some v → w.cell? (a.add j) = some v) (hroom : sLen + n ≤ sCap) {w' : World} (hst : ∀ b, base = some b → (storeCells (b.add (sLen * i.size)) news).run P w = .ok () w') (hb : base ≠ none) :
    (Builtin.append_ #[t, u] ty #[.slice base sLen sCap, .slice (some a) n c]).run P w = .ok (.slice base (sLen + n) sCap) w' := by
  have hf := run_firstCells_some (P := P) w i.size n a n c news hl hnews
  cases base with
  | none => exact absurd rfl hb
  | some b =>
    have hs := hst b rfl
    simp [Builtin.append_, run_underlying ht, run_underlying hu, sizeOf, typeInfo, hi, Builtin.lenOf, hroom, hf, hs]
theorem run_app_grow (ht : P.underlying t = some (.slice e)) (hu : P.underlying u = some (.slice e2)) (hi : P.info? e = some i) (hz : i.zero = some z) (base : Option Addr) (sLen sCap : Nat) (olds : List Value)
    (hfo : (Builtin.firstCells i.size sLen (.slice base sLen sCap)).run P w.drew = .ok olds.toArray w.drew) (a : Addr) (n c : Nat) (news : List Value) (hl : news.length = n * i.size)
    (hnews : ∀ j v, news[j]? = some v → w.cell? (a.add j) = some v) (hg : sCap < sLen + n) (hsm : sLen + n ≤ 1073741824) (hb : i.bytes ≤ 65536) :
    (Builtin.append_ #[t, u] ty #[.slice base sLen sCap, .slice (some a) n c]).run P w =
      .ok (.slice (some ⟨w.heap.size, 0, none⟩) (sLen + n) (grownCap w (sLen + n) sCap e)) { w with heap := w.heap.push (.cells ((olds ++ news).toArray ++ Builtin.zeroCells z.cells (grownCap w (sLen + n) sCap e - (sLen + n))) e), drawn := w.drawn + 1 } := by
  have hn : ¬ (sLen + n ≤ sCap) := by omega
  have h63' : ¬ (9223372036854775807 < ((sLen : Int) + (n : Int))) := by omega
  have hfit : Builtin.nextslicecap (sLen + n) sCap * i.bytes ≤ 281474976710656 := by
    have h1 := nextslicecap_le (need := sLen + n) (old := sCap) hg
    have h2 : Builtin.nextslicecap (sLen + n) sCap * i.bytes ≤ (2 * 1073741824) * 65536 := Nat.mul_le_mul (by omega) hb
    omega
  have h48' : ¬ (281474976710656 < Builtin.nextslicecap (sLen + n) sCap * i.bytes) := by omega
  have hf := run_firstCells_some (P := P) w.drew i.size n a n c news hl (by simpa using hnews)
  simp [Builtin.append_, run_underlying ht, run_underlying hu, sizeOf, typeInfo, zeroValue, hi, hz, Builtin.lenOf, hn, h63', h48', Question.forced, hf, hfo, newRow, grownCap]
  rw [show (olds ++ news).toArray = olds.toArray ++ news.toArray by simp, Array.append_assoc]
  rfl
theorem run_app_none (ht : P.underlying t = some (.slice e)) (hu : P.underlying u = some (.slice e2)) (hi : P.info? e = some i) (base : Option Addr) (sLen sCap : Nat) (hle : sLen ≤ sCap) (y : Value) (hy : y = .slice none 0 0 ∨ ∃ a c, y = .slice (some a) 0 c) :
    (Builtin.append_ #[t, u] ty #[.slice base sLen sCap, y]).run P w = .ok (.slice base sLen sCap) w := by
  rcases hy with rfl | ⟨a, c, rfl⟩
  · cases base <;> simp [Builtin.append_, run_underlying ht, run_underlying hu, sizeOf, typeInfo, hi, Builtin.lenOf, hle, Builtin.firstCells, storeCells]
  · have hf := run_firstCells_some (P := P) w i.size 0 a 0 c [] (by simp) (by simp)
    cases base <;> simp [Builtin.append_, run_underlying ht, run_underlying hu, sizeOf, typeInfo, hi, Builtin.lenOf, hle, hf, storeCells]
end append
theorem VRs.mem_take {l : List V} (h : ∀ v ∈ l, v.one = true) {m : List V} (h2 : ∀ v ∈ m, v.one = true) : ∀ v ∈ l ++ m, v.one = true := fun v hv => by
  rcases List.mem_append.1 hv with h3 | h3
  · exact h v h3
  · exact h2 v h3
theorem zero_len {t : TypeId} {l : List V} {i : TypeInfo} {z : Value} (hl : l = z.cells.toList.map cv0) (hs : l.length = i.size) : z.cells.size = i.size := by rw [← hs, hl]; simp
/-- growth: the block that an append makes -/
theorem grown_ok {S : St} (ok : SOK S) (hh : HRel ρ S w) (hn : ρ S.nx = none) {cs : List V} {us : List Value} (hc : VRs ρ cs us) (h1 : ∀ v ∈ cs, v.one = true) (z : Array Value) (e : TypeId) (need q sz fl : Nat) (hq : need ≤ q) (hu : us.length = need * sz) (hz : z.size = sz) :
    Post ρ fl S (S.new cs) w { w with heap := w.heap.push (.cells (us.toArray ++ Builtin.zeroCells z (q - need)) e), drawn := w.drawn + 1 } (ρ.up S.nx ⟨w.heap.size, 0, q * sz, false⟩) := by
  have hsz : (us.toArray ++ Builtin.zeroCells z (q - need)).size = q * sz := by
    simp [size_zeroCells, hu, hz, Nat.sub_mul]
    have := Nat.mul_le_mul_right sz hq
    omega
  rw [← hsz]
  refine new_post ok hh hn (fr := (0, 0)) rfl rfl rfl rfl (fun i _ h => by simp at h) (by have := hc.length; simp; omega) fun i v hv => ?_
  obtain ⟨u, h2, h3⟩ := hc.get hv
  have hlt : i < us.length := (List.getElem?_eq_some_iff.1 h2).1
  exact ⟨u, by rw [Array.getElem?_append_left (by simpa using hlt)]; simpa using h2, h3, h1 v (List.mem_of_getElem? hv)⟩
theorem add_at (b o n : Nat) : (⟨b, o, none⟩ : Addr).add n = ⟨b, o + n, none⟩ := by unfold Addr.add; split <;> simp_all
/-- the runs of an append of n > 0 elements -/
theorem app1_ok {t u ty e e2 : TypeId} {i : TypeInfo} {zv : Value} {z : List V} (ht : P.underlying t = some (.slice e)) (hu : P.underlying u = some (.slice e2)) (hi : P.info? e = some i) (hz : i.zero = some zv) (hzs : zv.cells.size = i.size) (hb : i.bytes ≤ 65536) (h0 : 0 < i.size)
    {S : St} (ok : SOK S) {x : V} {n : Nat} (hn : 0 < n) {new : List V} (hnl : new.length = n * i.size) {c : Cont} (h : app1 i.size n new x S c = some out) (hn30 : n ≤ 1073741824) :
    ∃ v S', c v S' = some out ∧ Abs S.fl S S' ∧ ∀ (ρ : Ren) (w : World) (xu : Value) (us : List Value) (a : Addr) (cp : Nat), VR ρ x xu → HRel ρ S w → Fresh ρ S.cnt S'.cnt → VRs ρ new us → (∀ v ∈ new, v.one = true) → (∀ j v, us[j]? = some v → w.cell? (a.add j) = some v) →
      ∃ r w' ρ', (Builtin.append_ #[t, u] ty #[xu, .slice (some a) n cp]).run P w = .ok r w' ∧ Post ρ S.fl S S' w w' ρ' ∧ VR ρ' v r := by
  have fresh : ∀ {ρ : Ren}, Fresh ρ S.cnt (S.cnt + 1) → ρ S.nx = none := fun hf => hf _ (by rw [ok.nx]; exact Nat.le_refl _) (by rw [ok.nx]; omega)
  have hnpos : 0 < n * i.size := Nat.mul_pos hn h0
  rcases vS4_some h with ⟨rfl, h2⟩ | ⟨id, off, len, cap, rfl, h2⟩ | ⟨id, off, len, cap, sz, rfl, h2⟩
  · rw [newK_eq] at h2
    refine ⟨_, _, h2, .new ok.le _ ok, fun ρ w xu us a cp hx hh hf hus h1 hcell => ?_⟩
    have e1 := hx.sn_inv; subst e1
    have hul : us.length = n * i.size := by rw [← hus.length, hnl]
    have hrun := run_app_grow (P := P) (ty := ty) (w := w) ht hu hi hz none 0 0 [] (by simp [Builtin.firstCells]) a n cp us hul hcell (by omega) (by omega) hb
    rw [Nat.zero_add] at hrun
    have hq : n ≤ grownCap w n 0 e := by have := grownCap_ge w n 0 e; omega
    refine ⟨_, _, _, hrun, grown_ok ok hh (fresh hf) hus h1 zv.cells e n _ i.size S.fl hq hul hzs, ?_⟩
    exact .so _ _ _ _ _ _ _ _ (Ren.up_same _ _ _) (Nat.zero_le _) (Nat.le_refl _) hq (by simp) (fun _ => rfl)
  · cases hroom : Nat.ble (Nat.add len n) cap <;> rw [hroom] at h2
    · -- growth
      obtain ⟨b, hbk, h3, h4⟩ := elems_some (show elems i.size id off len S _ = some out from h2)
      rw [appK_eq, newK_eq, fN_eq] at h4
      obtain ⟨h5, h6⟩ := gu_some h4
      have hsm : len + n ≤ 1073741824 := Nat.le_of_ble_eq_true h5
      have hgr : cap < len + n := by
        rcases Nat.lt_or_ge cap (len + n) with h | h
        · exact h
        · have := Nat.ble_eq_true_of_le h; rw [show Nat.ble (len + n) cap = Nat.ble (Nat.add len n) cap from rfl, hroom] at this; cases this
      refine ⟨_, _, h6, .new ok.le _ ok, fun ρ w xu us a cp hx hh hf hus h1 hcell => ?_⟩
      have hul : us.length = n * i.size := by rw [← hus.length, hnl]
      cases hx with | sl _ _ _ _ o L hL hk hlc ho =>
      obtain ⟨os, g1, g2, g3, g4⟩ := load_cells ok hh hL hk hbk (off := off) (n := len * i.size) (a := o) h3 (fun hp => ho (by rcases Nat.eq_zero_or_pos len with h | h; rw [h] at hp; simp at hp; omega))
      have hrun := run_app_grow (P := P) (ty := ty) (w := w) ht hu hi hz (some o) len cap os (run_firstCells_some w.drew i.size len _ _ _ os g2 (by simpa using g4)) a n cp us hul hcell hgr hsm hb
      have hq : len + n ≤ grownCap w (len + n) cap e := grownCap_ge w (len + n) cap e
      refine ⟨_, _, _, hrun, grown_ok ok hh (fresh hf) (g1.append hus) (VRs.mem_take g3 h1) zv.cells e (len + n) _ i.size S.fl hq (by simp [g2, hul, Nat.add_mul]) hzs, ?_⟩
      exact .so _ _ _ _ _ _ _ _ (Ren.up_same _ _ _) (Nat.zero_le _) (Nat.le_refl _) hq (by simp) (fun _ => rfl)
    · -- room
      obtain ⟨b, hbk, hfl, h3, h4⟩ := updK_some (show updK id S (Nat.add off (Nat.mul len i.size)) new _ = some out from h2)
      rw [fN_eq] at h4
      have hr : len + n ≤ cap := Nat.le_of_ble_eq_true hroom
      refine ⟨_, _, h4, .upd ok hbk hfl (.inl rfl), fun ρ w xu us a cp hx hh hf hus h1 hcell => ?_⟩
      have hul : us.length = n * i.size := by rw [← hus.length, hnl]
      cases hx with | sl _ _ _ _ o L hL hk hlc ho =>
      have ho0 := ho (by have := hlc; omega)
      subst ho0
      obtain ⟨w', hst, hpost⟩ := store_post (P := P) ok hh hL hk hbk hfl (off := off + len * i.size) (o := L.d + off + len * i.size) hus h1 h3 (fun _ => by omega)
      have hrun := run_app_room (P := P) (ty := ty) (w := w) ht hu hi (some ⟨L.b, L.d + off, none⟩) len cap a n cp us hul hcell hr (w' := w') (fun b hb => by cases hb; rw [add_at]; exact hst) (by simp)
      exact ⟨_, _, ρ, hrun, hpost, .sl _ _ _ _ _ _ hL hk hr (fun _ => rfl)⟩
  · obtain ⟨hsz, h8⟩ := gu_some h2
    clear h2
    have hsz' : sz = i.size := Nat.eq_of_beq_eq_true hsz
    subst hsz'
    cases hroom : Nat.ble (Nat.add len n) cap <;> rw [hroom] at h8
    · obtain ⟨b, hbk, h3, h4⟩ := elems_some (show elems i.size id off len S _ = some out from h8)
      rw [appK_eq] at h4
      obtain ⟨b', hbk', hfl, h5⟩ := killK_some h4
      rw [hbk] at hbk'; cases hbk'
      rw [newK_eq, fN_eq] at h5
      obtain ⟨h6, h7⟩ := gu_some h5
      have hsm : len + n ≤ 1073741824 := Nat.le_of_ble_eq_true h6
      have hgr : cap < len + n := by
        rcases Nat.lt_or_ge cap (len + n) with h | h
        · exact h
        · have := Nat.ble_eq_true_of_le h; rw [show Nat.ble (len + n) cap = Nat.ble (Nat.add len n) cap from rfl, hroom] at this; cases this
      have ok1 : SOK (S.upd id ⟨0, []⟩) := ok.upd hbk (.inr ⟨rfl, rfl⟩)
      refine ⟨_, _, h7, (Abs.upd (b' := ⟨0, []⟩) ok hbk hfl (.inr ⟨rfl, rfl⟩)).trans (Abs.new (fl := S.fl) ok1.le _ ok1), fun ρ w xu us a cp hx hh hf hus h1 hcell => ?_⟩
      have hul : us.length = n * i.size := by rw [← hus.length, hnl]
      cases hx with | so _ _ _ _ _ o cc L hL hk hlc hcc hlsz ho =>
      obtain ⟨os, g1, g2, g3, g4⟩ := load_cells ok hh hL hk hbk (off := off) (n := len * i.size) (a := ⟨L.b, o, none⟩) h3 (fun hp => by rw [ho (by rcases Nat.eq_zero_or_pos len with h | h; rw [h] at hp; simp at hp; omega)])
      rcases Nat.lt_or_ge cc (len + n) with hlt | hge
      · have hrun := run_app_grow (P := P) (ty := ty) (w := w) ht hu hi hz (some ⟨L.b, o, none⟩) len cc os (run_firstCells_some w.drew i.size len _ _ _ os g2 (by simpa using g4)) a n cp us hul hcell hlt hsm hb
        have hq : len + n ≤ grownCap w (len + n) cc e := grownCap_ge w (len + n) cc e
        have p1 := kill_post (fl := S.fl) ok hh hbk
        have p2 := grown_ok (fl := S.fl) ok1 p1.heap (fresh hf) (g1.append hus) (VRs.mem_take g3 h1) zv.cells e (len + n) _ i.size hq (by simp [g2, hul, Nat.add_mul]) hzs
        refine ⟨_, _, _, hrun, Post.trans (S1 := S.upd id ⟨0, []⟩) (Nat.le_refl _) (Nat.le_succ _) p1 p2, ?_⟩
        exact .so _ _ _ _ _ _ _ _ (Ren.up_same _ _ _) (Nat.zero_le _) (Nat.le_refl _) hq (by simp) (fun _ => rfl)
      · have hroom' : o + len * i.size + new.length ≤ L.sz := by
          have := Nat.mul_le_mul_right i.size hge
          rw [Nat.add_mul] at this; omega
        obtain ⟨w', hst, hpost⟩ := grow_post (P := P) ok hh hL hk (fresh hf) hbk hfl (off := off) (o := o) (n := len * i.size) hus h1 h3 (fun hp => ho (by rcases Nat.eq_zero_or_pos len with h | h; rw [h] at hp; simp at hp; omega)) hroom'
        have hrun := run_app_room (P := P) (ty := ty) (w := w) ht hu hi (some ⟨L.b, o, none⟩) len cc a n cp us hul hcell hge (w' := w') (fun b hb => by cases hb; rw [add_at]; exact hst) (by simp)
        refine ⟨_, _, _, hrun, hpost, ?_⟩
        exact .so _ _ _ _ _ _ _ ⟨L.b, o, L.sz, false⟩ (Ren.up_same _ _ _) (show o ≤ L.sz by omega) (Nat.le_refl _) hge hlsz (fun _ => rfl)
    · obtain ⟨b, hbk, hfl, h3, h4⟩ := updK_some (show updK id S (Nat.add off (Nat.mul len i.size)) new _ = some out from h8)
      rw [fN_eq] at h4
      have hr : len + n ≤ cap := Nat.le_of_ble_eq_true hroom
      refine ⟨_, _, h4, .upd ok hbk hfl (.inl rfl), fun ρ w xu us a cp hx hh hf hus h1 hcell => ?_⟩
      have hul : us.length = n * i.size := by rw [← hus.length, hnl]
      cases hx with | so _ _ _ _ _ o cc L hL hk hlc hcc hlsz ho =>
      obtain ⟨w', hst, hpost⟩ := store_post (P := P) ok hh hL hk hbk hfl (off := off + len * i.size) (o := o + len * i.size) hus h1 h3 (fun _ => by rw [ho (by omega)]; omega)
      have hrun := run_app_room (P := P) (ty := ty) (w := w) ht hu hi (some ⟨L.b, o, none⟩) len cc a n cp us hul hcell (by omega) (w' := w') (fun b hb => by cases hb; rw [add_at]; exact hst) (by simp)
      exact ⟨_, _, ρ, hrun, hpost, .so _ _ _ _ _ _ _ _ hL hk hr hcc hlsz ho⟩
theorem denW_ok {o : Oper} {γ : Env} {S : St} {f : Sem3} (hf : denW P γ o.op = some f) (ok : SOK S) {c : Cont} (h : f S c = some out) :
    ∃ v S', c v S' = some out ∧ OpOK P o γ S.fl S v S' := by
  cases hop : o.op <;> rw [hop] at hf <;> try (cases hf; done)
  case store t x y =>
    simp only [denW] at hf
    cases hi : P.info? t with
    | none => rw [hi] at hf; cases hf
    | some i =>
      rw [hi] at hf; cases hf
      obtain ⟨id, off, hx, h1⟩ := vP_some (show vP (val γ x) (fun id o => cellsK (val γ y) (fun ys => lenL ys 0 (fun m => gu (Nat.beq m i.size) (updK id S o ys (fun S => c .u S))))) = some out from h)
      obtain ⟨ys, h2, hy⟩ := VRs.cells h1
      rw [lenL_zero] at h2
      obtain ⟨h3, h4⟩ := gu_some h2
      obtain ⟨b, hbk, hfl, h5, h6⟩ := updK_some h4
      have hlen : ys.length = i.size := Nat.eq_of_beq_eq_true h3
      refine ⟨_, _, h6, .upd ok hbk hfl (.inl rfl), fun ρ a w he hh hfr => ?_⟩
      have e0 := he.val x; rw [hx] at e0
      obtain ⟨L, hL, hk, e1⟩ := e0.p_inv
      obtain ⟨g1, g2⟩ := hy ρ _ (he.val y)
      obtain ⟨w', hst, hpost⟩ := store_post (P := P) ok hh hL hk hbk hfl (off := off) (o := L.d + off) g1 g2 h5 (fun _ => rfl)
      refine ⟨undef, w', .inr ⟨?_, rfl⟩, ρ, hpost, .u⟩
      have hsz : ¬ ((a.eval y).cells.size ≠ i.size) := by have := g1.length; simp at this; omega
      simp only [execOp, hop, Instr.storeAt, e1, Instr.sureAddr, Sem.run_bind, Sem.run_pure, Result.andThen_ok, storeVar, run_size hi, hsz, if_false, hst]
  case call c0 =>
    obtain ⟨callee, args, argTypes⟩ := c0
    cases callee <;> try (cases hf; done)
    rename_i b
    cases b <;> try (cases hf; done)
    simp only [denW, denApp] at hf
    cases ha : argTypes.toList with
    | nil => rw [ha] at hf; cases hf
    | cons t ts =>
      cases ts with
      | nil => rw [ha] at hf; cases hf
      | cons u us =>
        cases us with
        | cons _ _ => rw [ha] at hf; cases hf
        | nil =>
          cases hx : args.toList with
          | nil => rw [ha, hx] at hf; cases hf
          | cons x xs =>
            cases xs with
            | nil => rw [ha, hx] at hf; cases hf
            | cons y ys =>
              cases ys with
              | cons _ _ => rw [ha, hx] at hf; cases hf
              | nil =>
                rw [ha, hx] at hf; simp only [List.map_cons, List.map_nil] at hf
                have ea : argTypes = #[t, u] := by apply Array.ext'; rw [ha]
                have ex : args = #[x, y] := by apply Array.ext'; rw [hx]
                subst ea ex
                cases hut : P.underlying t with
                | none => rw [hut] at hf; cases hf
                | some dt =>
                  cases huu : P.underlying u with
                  | none => rw [hut, huu] at hf; cases dt <;> cases hf
                  | some du =>
                    rw [hut, huu] at hf
                    cases dt <;> try (cases hf; done)
                    rename_i e
                    cases du <;> try (cases hf; done)
                    rename_i e2
                    simp only at hf
                    cases hi : P.info? e with
                    | none => rw [hi] at hf; cases hf
                    | some i =>
                      cases hz : zc P e with
                      | none => rw [hi, hz] at hf; cases hf
                      | some z =>
                        rw [hi, hz] at hf; simp only at hf
                        cases hc : (Nat.beq z.length i.size && Nat.ble i.bytes 65536 && Nat.blt 0 i.size) <;> rw [hc] at hf <;> simp only [cond_true, cond_false, reduceCtorEq, Option.some.injEq] at hf
                        subst hf
                        simp only [Bool.and_eq_true] at hc
                        obtain ⟨⟨c1, c2⟩, c3⟩ := hc
                        obtain ⟨i', zv, hi', hzv, hzl, _⟩ := zc_some hz
                        rw [hi] at hi'; cases hi'
                        have hzs : zv.cells.size = i.size := zero_len (t := e) (i := i) hzl (Nat.eq_of_beq_eq_true c1)
                        have hb := Nat.le_of_ble_eq_true c2
                        have h0 : 0 < i.size := Nat.le_of_ble_eq_true c3
                        have fin : ∀ {a : Act} {w w' : World} {r : Value}, (Builtin.append_ #[t, u] o.type #[a.eval x, a.eval y]).run P w = .ok r w' → (execOp a.eval o).run P w = .ok (.value r) w' := fun hr => by
                          simp only [execOp, hop, resolve, invoke, builtin, Sem.run_bind, Sem.run_pure, Result.andThen_ok, List.map_toArray, List.map_cons, List.map_nil, hr]
                        -- nothing appended
                        have none' : vS4 (val γ x) (c (val γ x) S) (fun _ _ _ _ => c (val γ x) S) (fun _ _ _ _ _ => c (val γ x) S) = some out → (∀ (ρ : Ren) (a : Act), EnvR ρ γ a → a.eval y = .slice none 0 0 ∨ ∃ b q, a.eval y = .slice (some b) 0 q) → ∃ v S', c v S' = some out ∧ OpOK P o γ S.fl S v S' := fun h hy => by
                          have key : c (val γ x) S = some out ∧ ∀ (ρ : Ren) (a : Act), EnvR ρ γ a → ∃ base len cap, a.eval x = .slice base len cap ∧ len ≤ cap := by
                            rcases vS4_some h with ⟨hx, h1⟩ | ⟨_, _, _, _, hx, h1⟩ | ⟨_, _, _, _, _, hx, h1⟩
                            · exact ⟨h1, fun ρ a he => by have e0 := he.val x; rw [hx] at e0; exact ⟨_, _, _, e0.sn_inv, Nat.le_refl _⟩⟩
                            · exact ⟨h1, fun ρ a he => by obtain ⟨L, o', q, _, _, e1, hq, _⟩ := (he.val x).sl_any (hx ▸ IsSl.sl ..); exact ⟨_, _, _, e1, hq⟩⟩
                            · exact ⟨h1, fun ρ a he => by obtain ⟨L, o', q, _, _, e1, hq, _⟩ := (he.val x).sl_any (hx ▸ IsSl.so ..); exact ⟨_, _, _, e1, hq⟩⟩
                          refine ⟨_, S, key.1, .refl _ _, fun ρ a w he hh hfr => ?_⟩
                          obtain ⟨base, len, cap, e1, hle⟩ := key.2 ρ a he
                          have hr := run_app_none (P := P) (w := w) (ty := o.type) hut huu hi base len cap hle (a.eval y) (hy ρ a he)
                          rw [← e1] at hr
                          exact .value (fin hr) ⟨ρ, .refl hh, he.val x⟩
                        rcases vLz_some h with ⟨hy, h1⟩ | ⟨id2, o2, n2, hsl, h1⟩
                        · exact none' h1 fun ρ a he => by have e0 := he.val y; rw [hy] at e0; exact .inl e0.sn_inv
                        · obtain ⟨h2, h3⟩ := gu_some h1
                          have hn30 := Nat.le_of_ble_eq_true h2
                          cases n2 with
                          | zero => exact none' h3 fun ρ a he => by obtain ⟨L, o', q, _, _, e1, _⟩ := (he.val y).sl_any hsl; exact .inr ⟨_, _, e1⟩
                          | succ n2 =>
                            obtain ⟨b, hbk, h4, h5⟩ := elems_some (show elems i.size id2 o2 (n2 + 1) S (fun new => app1 i.size (n2 + 1) new (val γ x) S c) = some out from h3)
                            obtain ⟨v, S', h6, habs, hr⟩ := app1_ok (P := P) (ty := o.type) (z := z) hut huu hi hzv hzs hb h0 ok (Nat.succ_pos n2) (by simp; omega) h5 hn30
                            refine ⟨v, S', h6, habs, fun ρ a w he hh hfr => ?_⟩
                            obtain ⟨L, o', q, hL, hk, e1, hq, ho⟩ := (he.val y).sl_any hsl
                            obtain ⟨us, g1, g2, g3, g4⟩ := load_cells ok hh hL hk hbk (off := o2) (n := (n2 + 1) * i.size) (a := o') h4 (fun _ => ho (Nat.succ_pos _))
                            obtain ⟨r, w', ρ', k1, k2, k3⟩ := hr ρ w (a.eval x) us o' q (he.val x) hh hfr g1 g3 g4
                            rw [← e1] at k1
                            exact .value (fin k1) ⟨ρ', k2, k3⟩
end Go.AM

/- Slicing. -/
namespace Go.AM
set_option linter.unusedVariables false
set_option linter.unusedSimpArgs false
variable {out : V × St} {P : Program} {ρ : Ren} {w : World}
noncomputable def denSl (P : Program) (γ : Env) : Op → Option ((V → R) → R)
  | .slice t x lo hi mx => (match P.underlying t with
    | some (.slice e) => (match P.info? e with
      | some i => cond (mx.isNone || hi.isSome) (some (pSlc i.size (val γ x) (lo.map (val γ)) (hi.map (val γ)) (mx.map (val γ)))) none
      | none => none)
    | some .string => cond mx.isNone (some (pSslc (val γ x) (lo.map (val γ)) (hi.map (val γ)))) none
    | _ => none)
  | _ => none
theorem oN_some {x : Option V} {d : Nat} {k : Nat → R} (h : oN x d k = some out) : (x = none ∧ k d = some out) ∨ ∃ kd n, x = some (.i kd n) ∧ neg kd n = false ∧ k n = some out := by
  cases x with
  | none => exact .inl ⟨rfl, h⟩
  | some v =>
    obtain ⟨kd, n, rfl, h1⟩ := vI_some h
    obtain ⟨h2, h3⟩ := gu_some h1
    exact .inr ⟨kd, n, rfl, by simpa using h2, h3⟩
/-- a bound: left out, or a number -/
def Bd (x : Option Value) (d n : Nat) : Prop := (x = none ∧ n = d) ∨ ∃ k, x = some (.int k (n : Int))
theorem oN_bd {γ : Env} {x : Option Operand} {d : Nat} {k : Nat → R} (h : oN (x.map (val γ)) d k = some out) : ∃ n, k n = some out ∧ (x = none → n = d) ∧ ∀ (ρ : Ren) (a : Act), EnvR ρ γ a → ∀ d', (x = none → n = d') → Bd (x.map a.eval) d' n := by
  rcases oN_some h with ⟨h1, h2⟩ | ⟨kd, n, h1, h2, h3⟩
  · cases x with
    | none => exact ⟨d, h2, fun _ => rfl, fun ρ a he d' hd => .inl ⟨rfl, hd rfl⟩⟩
    | some x => cases h1
  · cases x with
    | none => cases h1
    | some x =>
      refine ⟨n, h3, (fun e => by cases e), fun ρ a he d' hd => .inr ⟨kd, ?_⟩⟩
      have e := he.val x
      rw [Option.some.inj h1] at e
      rw [Option.map_some, e.i_inv.1, dec_nat h2]
theorem run_sb {x : Value} {k : IntKind} {n y : Nat} (hx : x = .int k (n : Int)) (hn : n ≤ y) (code : BoundsCode) : (Instr.sliceBound x y code).run P w = .ok n w := by
  subst hx
  have : (0 : Int) ≤ (n : Int) ∧ (n : Int) ≤ (y : Int) := by omega
  simp only [Instr.sliceBound, asIntOf, Sem.run_bind, Sem.run_pure, Result.andThen_ok, this, and_self, if_true]
  rfl
theorem run_bounds {b : Bool} {len cap l h m : Nat} {lo hi mx : Option Value} (hm : Bd mx cap m) (hh : Bd hi len h) (hl : Bd lo 0 l) (hmh : mx.isNone = true ∨ hi.isSome = true) (h1 : m ≤ cap) (h2 : h ≤ m) (h3 : l ≤ h) :
    (Instr.sliceBounds b len cap lo hi mx).run P w = .ok (l, h, m) w := by
  rcases hm with ⟨rfl, rfl⟩ | ⟨k1, rfl⟩ <;> rcases hh with ⟨rfl, rfl⟩ | ⟨k2, rfl⟩ <;> rcases hl with ⟨rfl, rfl⟩ | ⟨k3, rfl⟩ <;>
    first
      | (simp at hmh; done)
      | simp only [Instr.sliceBounds, Sem.run_bind, Sem.run_pure, Result.andThen_ok, run_sb rfl h1, run_sb rfl h2, run_sb rfl h3]
theorem denSl_ok {o : Oper} {γ : Env} {f : (V → R) → R} (hf : denSl P γ o.op = some f) {c : V → R} (h : f c = some out) : ∃ v, c v = some out ∧ PureOK P o γ v := by
  have done : ∀ {v : V}, c v = some out → (∀ (ρ : Ren) (a : Act) (w : World), EnvR ρ γ a → ∃ u, (execOp a.eval o).run P w = .ok (.value u) w ∧ VR ρ v u) → ∃ v, c v = some out ∧ PureOK P o γ v := fun hv hr =>
    ⟨_, hv, fun ρ a w he => by obtain ⟨u, h1, h2⟩ := hr ρ a w he; exact .value h1 ⟨rfl, h2⟩⟩
  cases hop : o.op <;> rw [hop] at hf <;> try (cases hf; done)
  case slice t x lo hi mx =>
    simp only [denSl] at hf
    cases hu : P.underlying t with
    | none => rw [hu] at hf; cases hf
    | some d =>
      rw [hu] at hf
      cases d <;> try (cases hf; done)
      · -- string
        simp only at hf
        cases hmx : mx.isNone <;> rw [hmx] at hf <;> simp only [cond_true, cond_false, reduceCtorEq, Option.some.injEq] at hf
        subst hf
        have hmx' : mx = none := by simpa using hmx
        subst hmx'
        obtain ⟨s, hx, h1⟩ := vS_some h
        rw [lenL_zero] at h1
        obtain ⟨hh, h2, hd1, hb1⟩ := oN_bd h1
        obtain ⟨h3, h4⟩ := gu_some h2
        obtain ⟨ll, h5, hd2, hb2⟩ := oN_bd h4
        obtain ⟨h6, h7⟩ := gu_some h5
        obtain ⟨h8, h9⟩ := dropK_some _ _ _ h7
        obtain ⟨h10, h11⟩ := takeK_some _ _ _ h9
        have hle := Nat.le_of_ble_eq_true h3
        have hle2 := Nat.le_of_ble_eq_true h6
        exact done h11 fun ρ a w he => by
          have e := he.val x; rw [hx] at e
          obtain ⟨b, e1, hb⟩ := e.s_inv
          have hsz : b.size = s.length := by rw [← hb]; simp
          refine ⟨.string (b.extract ll hh), ?_, .s _ _ ?_⟩
          · have hbd := run_bounds (P := P) (w := w) (b := false) (len := b.size) (cap := b.size) (.inl ⟨rfl, rfl⟩) (hb1 ρ a he b.size (fun e => by rw [hd1 e, hsz])) (hb2 ρ a he 0 hd2) (.inl rfl) (Nat.le_refl _) (by omega) hle2
            simp only [execOp, hop, Instr.sliceAt, Sem.run_bind, run_underlying hu, Result.andThen_ok, Instr.slice, e1, Option.map_none, Option.isSome_none, Bool.false_eq_true, if_false, Sem.run_pure, hbd]
          · rw [← hb]
            have : (b.extract ll hh).data.toList = (b.data.toList.drop ll).take (hh - ll) := by
              rw [ByteArray.data_extract, Array.toList_extract, List.extract_eq_take_drop]
            rw [this, List.map_take, List.map_drop]; rfl
      · rename_i e0
        simp only at hf
        cases hi' : P.info? e0 with
        | none => rw [hi'] at hf; cases hf
        | some i =>
          rw [hi'] at hf; simp only at hf
          cases hmx : (mx.isNone || hi.isSome) <;> rw [hmx] at hf <;> simp only [cond_true, cond_false, reduceCtorEq, Option.some.injEq] at hf
          subst hf
          have hmh : ∀ a : Act, (mx.map a.eval).isNone = true ∨ (hi.map a.eval).isSome = true := fun a => by
            simp only [Bool.or_eq_true] at hmx
            rcases hmx with h | h
            · left; cases mx; rfl; cases h
            · right; cases hi; cases h; rfl
          have fin : ∀ {a : Act} {w : World} {base : Option Addr} {len cap l hh m : Nat}, a.eval x = .slice base len cap → Bd (mx.map a.eval) cap m → Bd (hi.map a.eval) len hh → Bd (lo.map a.eval) 0 l → m ≤ cap → hh ≤ m → l ≤ hh →
              (execOp a.eval o).run P w = .ok (.value (.slice (if m = l then base else base.map (·.add (l * i.size))) (hh - l) (m - l))) w := fun {a w base len cap l hh m} e1 b1 b2 b3 c1 c2 c3 => by
            have hbd := run_bounds (P := P) (w := w) (b := true) b1 b2 b3 (hmh a) c1 c2 c3
            simp only [execOp, hop, Instr.sliceAt, Sem.run_bind, run_underlying hu, Result.andThen_ok, Instr.slice, e1, hbd, run_size hi', Sem.run_pure]
          rcases vS4_some h with ⟨hx, h1⟩ | ⟨id, off, len, cap, hx, h1⟩ | ⟨id, off, len, cap, sz, hx, h1⟩
          · obtain ⟨m, h2, hd1, hb1⟩ := oN_bd h1
            obtain ⟨h3, h4⟩ := gu_some h2
            obtain ⟨hh, h5, hd2, hb2⟩ := oN_bd h4
            obtain ⟨h6, h7⟩ := gu_some h5
            obtain ⟨l, h8, hd3, hb3⟩ := oN_bd h7
            obtain ⟨h9, h10⟩ := gu_some h8
            have em := Nat.eq_of_beq_eq_true h3
            have eh := Nat.eq_of_beq_eq_true h6
            have el := Nat.eq_of_beq_eq_true h9
            subst em eh el
            exact done h10 fun ρ a w he => by
              have e := he.val x; rw [hx] at e
              have := fin (w := w) e.sn_inv (hb1 ρ a he 0 hd1) (hb2 ρ a he 0 hd2) (hb3 ρ a he 0 hd3) (Nat.le_refl _) (Nat.le_refl _) (Nat.le_refl _)
              exact ⟨_, this, by simpa using VR.sn⟩
          · obtain ⟨m, h2, hd1, hb1⟩ := oN_bd h1
            obtain ⟨h3, h4⟩ := gu_some h2
            obtain ⟨hh, h5, hd2, hb2⟩ := oN_bd h4
            obtain ⟨h6, h7⟩ := gu_some h5
            obtain ⟨l, h8, hd3, hb3⟩ := oN_bd h7
            obtain ⟨h9, h10⟩ := gu_some h8
            simp only [fN_eq] at h10
            have c1 := Nat.le_of_ble_eq_true h3
            have c2 := Nat.le_of_ble_eq_true h6
            have c3 := Nat.le_of_ble_eq_true h9
            exact done h10 fun ρ a w he => by
              have e := he.val x; rw [hx] at e
              generalize hxu : a.eval x = xu at e
              cases e with | sl _ _ _ _ o' L hL hk hlc ho =>
              have := fin (w := w) hxu (hb1 ρ a he cap hd1) (hb2 ρ a he len hd2) (hb3 ρ a he 0 hd3) c1 c2 c3
              refine ⟨_, this, ?_⟩
              unfold cut
              by_cases hml : m = l
              · subst hml
                rw [if_pos rfl, Nat.beq_refl]
                exact .sl _ _ _ _ _ _ hL hk (Nat.sub_le_sub_right c2 m) (fun hp => by have hp' : 0 < m - m := hp; omega)
              · rw [if_neg hml, show Nat.beq m l = false from by cases hq : Nat.beq m l; rfl; exact absurd (Nat.eq_of_beq_eq_true hq) hml]
                have ho0 := ho (by omega)
                subst ho0
                simp only [Option.map_some, add_at]
                exact .sl _ _ _ _ _ _ hL hk (Nat.sub_le_sub_right c2 l) (fun hp => by
                  show (⟨L.b, L.d + off + l * i.size, none⟩ : Addr) = ⟨L.b, L.d + (off + l * i.size), none⟩
                  rw [Nat.add_assoc])
          · obtain ⟨hsz, h12⟩ := gu_some h1
            clear h1
            have hsz' : sz = i.size := Nat.eq_of_beq_eq_true hsz
            subst hsz'
            cases hmxx : mx with
            | none =>
              rw [hmxx] at h12
              obtain ⟨hh, h5, hd2, hb2⟩ := oN_bd (show oN (hi.map (val γ)) len _ = some out from h12)
              obtain ⟨h6, h7⟩ := gu_some h5
              obtain ⟨l, h8, hd3, hb3⟩ := oN_bd h7
              obtain ⟨h9, h10⟩ := gu_some h8
              simp only [fN_eq] at h10
              have c2 := Nat.le_of_ble_eq_true h6
              have c3 := Nat.le_of_ble_eq_true h9
              exact done h10 fun ρ a w he => by
                have e := he.val x; rw [hx] at e
                generalize hxu : a.eval x = xu at e
                cases e with | so _ _ _ _ _ o' cc L hL hk hlc hcc hls ho =>
                have := fin (w := w) hxu (m := cc) (by rw [hmxx]; exact .inl ⟨rfl, rfl⟩) (hb2 ρ a he len hd2) (hb3 ρ a he 0 hd3) (Nat.le_refl _) (by omega) c3
                refine ⟨_, this, ?_⟩
                have hmul : (cc - l) * i.size + l * i.size = cc * i.size := by rw [← Nat.add_mul]; congr 1; omega
                by_cases hml : cc = l
                · rw [if_pos hml]
                  have hz : cap - l = 0 := by omega
                  exact .so _ _ _ _ _ _ _ _ hL hk (Nat.sub_le_sub_right c2 l) (Nat.sub_le_sub_right hcc l) (by omega) (fun hp => by
                    have hp' : 0 < cap - l := hp
                    omega)
                · rw [if_neg hml]
                  simp only [Option.map_some, add_at]
                  exact .so _ _ _ _ _ _ _ _ hL hk (Nat.sub_le_sub_right c2 l) (Nat.sub_le_sub_right hcc l) (by omega) (fun hp => by
                    have hp' : 0 < cap - l := hp
                    rw [ho (by omega)]; show L.d + off + l * i.size = L.d + (off + l * i.size); omega)
            | some mm =>
              rw [hmxx] at h12
              obtain ⟨m, h2, hd1, hb1⟩ := oN_bd (x := some mm) (show oN ((some mm).map (val γ)) cap (fun m => gu (Nat.ble m cap) (oN (hi.map (val γ)) len (fun h => gu (Nat.ble h m) (oN (lo.map (val γ)) 0 (fun l => gu (Nat.ble l h) (fN (cut i.size off l m) (fun o => fN (Nat.sub h l) (fun n => fN (Nat.sub m l) (fun q => c (.sl id o n q)))))))))) = some out from h12)
              obtain ⟨h3, h4⟩ := gu_some h2
              obtain ⟨hh, h5, hd2, hb2⟩ := oN_bd h4
              obtain ⟨h6, h7⟩ := gu_some h5
              obtain ⟨l, h8, hd3, hb3⟩ := oN_bd h7
              obtain ⟨h9, h10⟩ := gu_some h8
              simp only [fN_eq] at h10
              have c1 := Nat.le_of_ble_eq_true h3
              have c2 := Nat.le_of_ble_eq_true h6
              have c3 := Nat.le_of_ble_eq_true h9
              exact done h10 fun ρ a w he => by
                have e := he.val x; rw [hx] at e
                generalize hxu : a.eval x = xu at e
                cases e with | so _ _ _ _ _ o' cc L hL hk hlc hcc hls ho =>
                have := fin (w := w) hxu (m := m) (by rw [hmxx]; exact hb1 ρ a he cc (fun e => by cases e)) (hb2 ρ a he len hd2) (hb3 ρ a he 0 hd3) (by omega) c2 c3
                refine ⟨_, this, ?_⟩
                unfold cut
                by_cases hml : m = l
                · subst hml
                  rw [if_pos rfl, Nat.beq_refl]
                  exact .sl _ _ _ _ _ _ hL hk (Nat.sub_le_sub_right c2 m) (fun hp => by have hp' : 0 < m - m := hp; omega)
                · rw [if_neg hml, show Nat.beq m l = false from by cases hq : Nat.beq m l; rfl; exact absurd (Nat.eq_of_beq_eq_true hq) hml]
                  simp only [Option.map_some, add_at]
                  exact .sl _ _ _ _ _ _ hL hk (Nat.sub_le_sub_right c2 l) (fun hp => by
                    have hp' : 0 < m - l := hp
                    rw [ho (by omega)]
                    show (⟨L.b, L.d + off + l * i.size, none⟩ : Addr) = ⟨L.b, L.d + (off + l * i.size), none⟩
                    rw [Nat.add_assoc])
end Go.AM

/- Maps with keys of one cell: make, look up, update. -/
namespace Go.AM
set_option linter.unusedVariables false
set_option linter.unusedSimpArgs false
variable {out : V × St} {P : Program} {ρ : Ren} {w : World}
/-- what kind of cell a key or an element is: 0 a bool, 1 an integer, 2 a string -/
def kq (P : Program) (t : TypeId) : Option Nat := match P.underlying t with
  | some .bool => some 0
  | some (.int _) => some 1
  | some .string => some 2
  | _ => none
def zM (P : Program) (t : TypeId) : Option V := match P.info? t with
  | some i => (match i.zero with
    | some (.bool b) => some (.b b)
    | some (.int k n) => cond (n == 0) (some (.i k 0)) none
    | some (.string s) => cond s.data.toList.isEmpty (some (.s [])) none
    | _ => none)
  | none => none
theorem zM_some {t : TypeId} {z : V} (h : zM P t = some z) : ∃ i zv, P.info? t = some i ∧ i.zero = some zv ∧ ∀ ρ, VR ρ z zv := by
  unfold zM at h
  cases hi : P.info? t with
  | none => rw [hi] at h; cases h
  | some i =>
    rw [hi] at h; simp only at h
    cases hz : i.zero with
    | none => rw [hz] at h; cases h
    | some zv =>
      rw [hz] at h
      refine ⟨i, zv, rfl, hz, fun ρ => ?_⟩
      cases zv <;> simp only at h <;> try (cases h; done)
      · cases h; exact .b _
      · rename_i k n
        cases hn : n == 0 <;> rw [hn] at h <;> simp only [cond_true, cond_false, reduceCtorEq, Option.some.injEq] at h
        subst h
        have := eq_of_beq hn
        subst this
        exact .i _ _ _ (M_pos k) (by cases k <;> rfl)
      · rename_i s
        cases hn : s.data.toList.isEmpty <;> rw [hn] at h <;> simp only [cond_true, cond_false, reduceCtorEq, Option.some.injEq] at h
        subst h
        exact .s _ _ (by rw [List.isEmpty_iff.1 hn]; rfl)
noncomputable def denM (P : Program) (γ : Env) : Op → Option Sem3
  | .makeMap _ none => some pMkm
  | .lookup t x i ok => (match P.underlying t with
    | some (.map kt et) => (match kq P kt, zM P et with
      | some q, some z => some (fun S k => @Bool.rec (fun _ => V → V → St → (V → R) → R) (pLkm q z) (pLko q z) ok (val γ x) (val γ i) S (fun v => k v S))
      | _, _ => none)
    | _ => none)
  | .mapUpdate t m i x => (match P.underlying t with
    | some (.map kt et) => (match kq P kt, kq P et with
      | some q, some r => some (fun S k => pUpm q r (val γ m) (val γ i) (val γ x) S (fun S => k .u S))
      | _, _ => none)
    | _ => none)
  | _ => none
def SD (d : TypeDesc) : Nat → Prop
  | 0 => d = .bool
  | 1 => ∃ k, d = .int k
  | _ => d = .string
theorem kq_sd {t : TypeId} {q : Nat} (h : kq P t = some q) : ∃ d, P.underlying t = some d ∧ SD d q := by
  unfold kq at h
  split at h
  · rename_i e; cases h; exact ⟨_, e, rfl⟩
  · rename_i k e; cases h; exact ⟨_, e, k, rfl⟩
  · rename_i e; cases h; exact ⟨_, e, rfl⟩
  · cases h
theorem ba_eq (s r : ByteArray) : (s == r) = (s.data.toList.map UInt8.toNat == r.data.toList.map UInt8.toNat) := by
  rw [show (s == r) = (s.data == r.data) by cases s; cases r; rfl, Bool.eq_iff_iff, beq_iff_eq, beq_iff_eq]
  constructor
  · intro h; rw [h]
  · intro h
    exact Array.ext' ((List.map_inj_right fun a b e => UInt8.toNat_inj.1 e).1 h)
theorem eqC_key {q : Nat} {x y : V} {k : Bool → R} (h : eqC q x y k = some out) : ∃ b, k b = some out ∧ ∀ (ρ : Ren) (xu yu : Value), VR ρ x xu → VR ρ y yu → ∀ d : TypeDesc, SD d q → Instr.sameNow d yu xu = some b ∧ (b = true → Instr.sameBits 10000 xu yu = true) := by
  match q, h with
  | 0, h =>
    obtain ⟨p, rfl, h0⟩ := vB_some (show vB x (fun a => vB y (fun b => k (Bool.rec (Bool.not b) b a))) = some out from h)
    obtain ⟨q, rfl, h1⟩ := vB_some h0
    refine ⟨_, h1, fun ρ xu yu hx hy d hd => ?_⟩
    have e1 := hx.b_inv; have e2 := hy.b_inv
    subst e1 e2
    have hd : d = .bool := hd
    subst hd
    constructor
    · rw [Instr.sameNow.eq_def]; cases p <;> cases q <;> rfl
    · intro hb; rw [Instr.sameBits.eq_def]; cases p <;> cases q <;> first | rfl | cases hb
  | 1, h =>
    obtain ⟨d, p, rfl, h0⟩ := vI_some (show vI x (fun d a => vI y (fun d' b => gu (Nat.beq (kNo d) (kNo d')) (k (Nat.beq a b)))) = some out from h)
    obtain ⟨d', q, rfl, h1⟩ := vI_some h0
    obtain ⟨h2, h3⟩ := gu_some h1
    have := kNo_inj h2
    subst this
    refine ⟨_, h3, fun ρ xu yu hx hy D hi => ?_⟩
    obtain ⟨e1, hp⟩ := hx.i_inv; obtain ⟨e2, hq⟩ := hy.i_inv
    subst e1 e2
    obtain ⟨kk, rfl⟩ := hi
    constructor
    · rw [Instr.sameNow.eq_def]
      simp only [if_true]
      rw [beq_dec hp hq, Bool.beq_comm]
    · intro hb
      have := Nat.eq_of_beq_eq_true hb
      subst this
      rw [Instr.sameBits.eq_def]; simp
  | n + 2, h =>
    obtain ⟨l, rfl, h0⟩ := vS_some (show vS x (fun a => vS y (fun b => k (eqB a b))) = some out from h)
    obtain ⟨m, rfl, h1⟩ := vS_some h0
    refine ⟨_, h1, fun ρ xu yu hx hy d hs => ?_⟩
    obtain ⟨s, e1, f1⟩ := hx.s_inv; obtain ⟨r, e2, f2⟩ := hy.s_inv
    subst e1 e2
    have hs : d = .string := hs
    subst hs
    have e : eqB l m = (s == r) := by rw [eqB_eq, ← f1, ← f2, ba_eq]
    have e' : (r == s) = (s == r) := by rw [ba_eq, ba_eq, Bool.beq_comm]
    rw [e]
    constructor
    · rw [Instr.sameNow.eq_def]; simp only; rw [e']
    · intro hb; rw [Instr.sameBits.eq_def]; exact hb
theorem run_checkKey {t : TypeId} {q : Nat} (hq : kq P t = some q) (e : Bool) (u : Value) (w : World) : (Instr.checkKey e 10000 t u).run P w = .ok () w := by
  obtain ⟨d, h, hd⟩ := kq_sd hq
  rw [Instr.checkKey.eq_def]
  match q, hd with
  | 0, hd => have hd : d = .bool := hd; subst hd; simp [run_underlying h]
  | 1, hd => obtain ⟨k, rfl⟩ := hd; simp [run_underlying h]
  | n + 2, hd => have hd : d = .string := hd; subst hd; simp [run_underlying h]
theorem lookM_ok {q : Nat} {key : V} {z : R} {k : V → R} : ∀ (cs : List V), lookM q key cs z k = some out →
    ∃ r : Option V, (match r with | some v => k v | none => z) = some out ∧ ∀ (ρ : Ren) (es : List MapEntry) (ku : Value) (d : TypeDesc) (n : Nat), Ent ρ cs es → VR ρ key ku → SD d q → ∃ o, Instr.findNow d ku es n = some o ∧ (match r, o with | some v, some (_, u) => VR ρ v u | none, none => True | _, _ => False)
  | [], h => ⟨none, h, fun ρ es ku d n he hk hd => by cases he; exact ⟨none, by rw [Instr.findNow.eq_def], trivial⟩⟩
  | e :: cs, h => by
    obtain ⟨l, rfl, h1⟩ := vT_some (show vT e (fun l => nthK l 0 (fun k0 => eqC q k0 key (fun b => Bool.rec (lookM q key cs z k) (nthK l 1 k) b))) = some out from h)
    obtain ⟨k0, h2, h3⟩ := nthK_some _ _ _ h1
    obtain ⟨b, h4, h5⟩ := eqC_key h3
    cases b with
    | false =>
      obtain ⟨r, h6, h7⟩ := lookM_ok cs h4
      refine ⟨r, h6, fun ρ es ku d n he hk hd => ?_⟩
      cases he with | cons a v e _ es p1 p2 p3 =>
      simp at h2; subst h2
      obtain ⟨o, g1, g2⟩ := h7 ρ es ku d (n + 1) p3 hk hd
      exact ⟨o, by rw [Instr.findNow.eq_def]; simp only [(h5 ρ _ _ p1 hk d hd).1]; exact g1, g2⟩
    | true =>
      obtain ⟨v0, h6, h7⟩ := nthK_some _ _ _ (show nthK l 1 k = some out from h4)
      refine ⟨some v0, h7, fun ρ es ku d n he hk hd => ?_⟩
      cases he with | cons a v e _ es p1 p2 p3 =>
      simp at h2 h6; subst h2; subst h6
      exact ⟨some (n, e.val), by rw [Instr.findNow.eq_def]; simp only [(h5 ρ _ _ p1 hk d hd).1], p2⟩
theorem updM_ok {q : Nat} {key val : V} : ∀ (cs : List V) {k : List V → R}, updM q key val cs k = some out →
    ∃ cs', k cs' = some out ∧ ∀ (ρ : Ren) (es : List MapEntry) (ku vu : Value) (d : TypeDesc) (n : Nat), Ent ρ cs es → VR ρ key ku → VR ρ val vu → SD d q →
      (Instr.findNow d ku es n = some none ∧ ∀ c, Ent ρ cs' (es ++ [⟨ku, vu, c⟩])) ∨
      (∃ i u e, Instr.findNow d ku es n = some (some (n + i, u)) ∧ es[i]? = some e ∧ Instr.sameBits 10000 e.key ku = true ∧ Ent ρ cs' (es.set i ⟨ku, vu, e.born⟩))
  | [], k, h => ⟨[.tu [key, val]], h, fun ρ es ku vu d n he hk hv hd => by cases he; exact .inl ⟨by rw [Instr.findNow.eq_def], fun c => .cons _ _ _ _ _ hk hv .nil⟩⟩
  | e :: cs, k, h => by
    obtain ⟨l, rfl, h1⟩ := vT_some (show vT e (fun l => nthK l 0 (fun k0 => eqC q k0 key (fun b => Bool.rec (updM q key val cs (fun t' => k (e :: t'))) (k (.tu [key, val] :: cs)) b))) = some out from h)
    obtain ⟨k0, h2, h3⟩ := nthK_some _ _ _ h1
    obtain ⟨b, h4, h5⟩ := eqC_key h3
    cases b with
    | false =>
      obtain ⟨cs', h6, h7⟩ := updM_ok cs h4
      refine ⟨_, h6, fun ρ es ku vu d n he hk hv hd => ?_⟩
      cases he with | cons a v e _ es p1 p2 p3 =>
      simp at h2; subst h2
      have hs := (h5 ρ _ _ p1 hk d hd).1
      rcases h7 ρ es ku vu d (n + 1) p3 hk hv hd with ⟨g1, g2⟩ | ⟨i, u, e', g1, g2, g3, g4⟩
      · exact .inl ⟨by rw [Instr.findNow.eq_def]; simp only [hs]; exact g1, fun c => .cons _ _ _ _ _ p1 p2 (g2 c)⟩
      · exact .inr ⟨i + 1, u, e', by rw [Instr.findNow.eq_def]; simp only [hs]; rw [g1, show n + 1 + i = n + (i + 1) by omega], by simpa using g2, g3, .cons _ _ _ _ _ p1 p2 g4⟩
    | true =>
      refine ⟨_, h4, fun ρ es ku vu d n he hk hv hd => ?_⟩
      cases he with | cons a v e _ es p1 p2 p3 =>
      simp at h2; subst h2
      have hs := h5 ρ _ _ p1 hk d hd
      exact .inr ⟨0, e.val, e, by rw [Instr.findNow.eq_def]; simp only [hs.1]; rfl, rfl, hs.2 rfl, .cons _ _ _ _ _ hk hv p3⟩
/-- a new map -/
theorem new_map {fl : Nat} {S : St} {w : World} (ok : SOK S) (hfl : fl ≤ S.cnt) (h : HRel ρ S w) (hn : ρ S.nx = none) :
    Post ρ fl S (S.new []) w { w with heap := w.heap.push (.map #[] 0) } (ρ.up S.nx ⟨w.heap.size, 1, 0, false⟩) where
  ext i hi := Ren.up_ne _ _ (by rw [ok.nx]; have : (S.new []).cnt = S.cnt + 1 := rfl; omega)
  os := rfl
  tape := rfl
  output := rfl
  size := by simp
  frame k hk _ := by show (w.heap.push _)[k]? = _; rw [Array.getElem?_push, if_neg (by omega)]
  new i L' a b hL := by
    rcases Ren.up_some hL with ⟨_, rfl⟩ | ⟨h1, _⟩
    · exact .inl (Nat.le_refl _)
    · rw [ok.nx] at h1; have : (S.new []).cnt = S.cnt + 1 := rfl; omega
  heap := by
    have mono := Ren.up_mono (L := ⟨w.heap.size, 1, 0, false⟩) hn
    refine ⟨fun i L' b hL hb h0 => ?_, fun i i' L1 L2 b b' hL hL' hb hb' h0 h0' he hq => ?_, fun i L' hL hr => ?_⟩
    · rcases Ren.up_some hL with ⟨rfl, rfl⟩ | ⟨h1, h2⟩
      · rw [St.new_get] at hb; cases hb
        exact .inr ⟨Nat.zero_lt_one, #[], 0, by simp, .nil⟩
      · rw [St.new_get_ne [] (fun e => h1 (by rw [e]))] at hb
        exact (h.cells i L' b h2 hb h0).mono mono (by show (w.heap.push _)[_]? = _; rw [Array.getElem?_push, if_neg (by have := h.at_ h2 hb h0; omega)])
    · rcases Ren.up_some hL with ⟨rfl, rfl⟩ | ⟨h1, h2⟩ <;> rcases Ren.up_some hL' with ⟨rfl, rfl⟩ | ⟨h1', h2'⟩
      · rfl
      · have := h.at_ h2' (by rw [St.new_get_ne [] (fun e => h1' (by rw [e]))] at hb'; exact hb') h0'; exact absurd he (by simp; omega)
      · have := h.at_ h2 (by rw [St.new_get_ne [] (fun e => h1 (by rw [e]))] at hb; exact hb) h0; exact absurd he (by simp; omega)
      · rw [St.new_get_ne [] (fun e => h1 (by rw [e]))] at hb
        rw [St.new_get_ne [] (fun e => h1' (by rw [e]))] at hb'
        exact h.inj i i' L1 L2 b b' h2 h2' hb hb' h0 h0' he hq
    · rcases Ren.up_some hL with ⟨_, rfl⟩ | ⟨_, h2⟩
      · cases hr
      · exact h.ro i L' h2 hr
/-- a map written -/
theorem upd_map {S : St} {w : World} {id : Pos} {L : Loc} (ok : SOK S) (h : HRel ρ S w) (hL : ρ id = some L) {b : Blk} (hb : S.h.get id = some b) (hf : S.fl ≤ b.born) (hk : L.sz < L.d) {es es' : Array MapEntry} {clock clock' : Nat} (he : w.heap[L.b]? = some (.map es clock)) {cs' : List V} (he' : Ent ρ cs' es'.toList) :
    Post ρ S.fl S (S.upd id ⟨b.born, cs'⟩) w { w with heap := w.heap.setIfInBounds L.b (.map es' clock') } ρ := by
  obtain ⟨hbn, h0, hfi, hci⟩ := ok.born hb hf
  have hro : L.ro = false := by
    cases hr : L.ro with
    | false => rfl
    | true => have := h.ro id L hL hr; omega
  have hlt : L.b < w.heap.size := (Array.getElem?_eq_some_iff.1 he).1
  refine ⟨fun _ _ => rfl, ⟨fun i L' x hL' hx hx0 => ?_, fun i i' L1 L2 x x' a1 a2 a3 a4 a5 a6 a7 a8 => ?_, h.ro⟩, rfl, rfl, rfl, by simp, fun k hk hh => ?_, fun i L' a c _ => ?_⟩
  · by_cases hi : i = id
    · subst hi; rw [St.upd_get] at hx; cases hx; rw [hL] at hL'; cases hL'
      exact .inr ⟨hk, es', clock', by simp [hlt], he'⟩
    · rw [St.upd_get_ne _ hi] at hx
      have hne : L'.b ≠ L.b := fun e => hi (h.inj i id L' L x b hL' hL hx hb hx0 h0 e (by rw [hro, Bool.and_false]))
      exact (h.cells i L' x hL' hx hx0).mono (fun _ _ h => h) (by show (w.heap.setIfInBounds _ _)[_]? = _; rw [Array.getElem?_setIfInBounds_ne (Ne.symm hne)])
  · by_cases hi : i = id <;> by_cases hi' : i' = id
    · rw [hi, hi']
    · subst hi; rw [St.upd_get_ne _ hi'] at a4; exact h.inj _ _ L1 L2 b x' a1 a2 hb a4 h0 a6 a7 a8
    · subst hi'; rw [St.upd_get_ne _ hi] at a3; exact h.inj _ _ L1 L2 x b a1 a2 a3 hb a5 h0 a7 a8
    · rw [St.upd_get_ne _ hi] at a3; rw [St.upd_get_ne _ hi'] at a4; exact h.inj i i' L1 L2 x x' a1 a2 a3 a4 a5 a6 a7 a8
  · show (w.heap.setIfInBounds _ _)[k]? = _
    rw [Array.getElem?_setIfInBounds_ne (fun e => hh id L hL hfi hci e)]
  · have : (S.upd id ⟨b.born, cs'⟩).cnt = S.cnt := rfl
    omega
theorem vM_some {x : V} {k : Pos → R} (h : vM x k = some out) : ∃ id, x = .m id ∧ k id = some out := by cases x <;> first | exact no h | exact ⟨_, rfl, h⟩
theorem mapAt_some {id : Pos} {S : St} {k : List V → R} (h : mapAt id S k = some out) : ∃ b, S.h.get id = some b ∧ b.born ≠ 0 ∧ k b.cs = some out := by
  obtain ⟨b, h1, h2⟩ := getBK_some id S.h _ (show getBK id S.h (fun b => Blk.rec (fun born cs k => gu (Nat.blt 0 born) (k cs)) b k) = some out from h)
  obtain ⟨h3, h4⟩ := gu_some (show gu (Nat.blt 0 b.born) (k b.cs) = some out from h2)
  exact ⟨b, h1, (fun e => by rw [e] at h3; cases h3), h4⟩
theorem mapUp_some {id : Pos} {S : St} {f : List V → (List V → R) → R} {c : St → R} (h : mapUp id S f c = some out) : ∃ b, S.h.get id = some b ∧ S.fl ≤ b.born ∧ f b.cs (fun cs' => c (S.upd id ⟨b.born, cs'⟩)) = some out := by
  obtain ⟨b, h1, h2⟩ := getBK_some id S.h _ (show getBK id S.h (fun b => Blk.rec (fun born cs => gu (Nat.ble S.fl born) (f cs (fun cs' => setBK id (.mk born cs') S.h (fun h' => c (.mk h' S.nx S.cnt S.fl))))) b) = some out from h)
  obtain ⟨h3, h4⟩ := gu_some (show gu (Nat.ble S.fl b.born) (f b.cs (fun cs' => setBK id (.mk b.born cs') S.h (fun h' => c (.mk h' S.nx S.cnt S.fl)))) = some out from h2)
  refine ⟨b, h1, Nat.le_of_ble_eq_true h3, ?_⟩
  rw [← h4]; congr 1; funext cs'; rw [setBK_eq]; rfl
theorem mod_set {α : Type} (f : α → α) : ∀ (l : List α) (i : Nat) (e : α), l[i]? = some e → l.modify i f = l.set i (f e)
  | [], i, e, h => by simp at h
  | x :: l, 0, e, h => by simp at h; subst h; rfl
  | x :: l, i + 1, e, h => by
    have := mod_set f l i e (by simpa using h)
    simp only [List.modify_succ_cons, List.set_cons_succ, this]
theorem run_getMap {w : World} {r : Nat} {es : Array MapEntry} {k : Nat} (h : w.heap[r]? = some (.map es k)) : (getObj r).run P w = .ok (.map es k) w := by
  simp [getObj, Sem.run, h]
theorem run_setMap {w : World} {r : Nat} {es : Array MapEntry} {k : Nat} (h : w.heap[r]? = some (.map es k)) (o : Obj) : (setObj r o).run P w = .ok () { w with heap := w.heap.setIfInBounds r o } := by
  simp [setObj, Sem.run, h]
def updOp : Op → Bool
  | .mapUpdate .. => true
  | _ => false
theorem denM_ok {o : Oper} {γ : Env} {S : St} {f : Sem3} (hf : denM P γ o.op = some f) (ok : SOK S) {c : Cont} (h : f S c = some out) :
    ∃ v S', c v S' = some out ∧ OpOK P o γ (cond (updOp o.op) S.fl S.cnt) S v S' := by
  have fresh : ∀ {ρ : Ren}, Fresh ρ S.cnt (S.cnt + 1) → ρ S.nx = none := fun hf => hf _ (by rw [ok.nx]; exact Nat.le_refl _) (by rw [ok.nx]; omega)
  cases hop : o.op <;> rw [hop] at hf <;> try (cases hf; done)
  case makeMap t r =>
    cases r with
    | some r => cases hf
    | none =>
      cases hf
      have h : newK [] S (fun nx S' => c (.m nx) S') = some out := h
      rw [newK_eq] at h
      refine ⟨_, _, h, .new (Nat.le_refl _) _ ok, fun ρ a w he hh hfr => ?_⟩
      exact .value (u := .map (some w.heap.size)) (w' := { w with heap := w.heap.push (.map #[] 0) }) (by simp only [execOp, hop, Option.map_none, Instr.makeMap, Sem.run_bind, run_newObj, Result.andThen_ok, Sem.run_pure]) ⟨_, new_map ok (Nat.le_refl _) hh (fresh hfr), .m _ _ (Ren.up_same _ _ _) (Nat.zero_lt_one)⟩
  case lookup t x i k =>
    simp only [denM] at hf
    split at hf
    · rename_i kt et ht
      split at hf
      · rename_i q z hq hz
        cases hf
        obtain ⟨zi, zv, hi, hzv, hzr⟩ := zM_some hz
        obtain ⟨d, hd1, hd2⟩ := kq_sd hq
        cases k with
        | false =>
          obtain ⟨id, hx, h2⟩ := vM_some (show vM (val γ x) (fun id => mapAt id S (fun cs => lookM q (val γ i) cs (c z S) (fun v => c v S))) = some out from h)
          obtain ⟨b, hb, h0, h3⟩ := mapAt_some h2
          obtain ⟨r, h4, h5⟩ := lookM_ok b.cs h3
          refine ⟨(match r with | some v => v | none => z), S, by cases r <;> exact h4, .refl _ _, fun ρ a w he hh _ => ?_⟩
          have e := he.val x; rw [hx] at e
          obtain ⟨L, hL, hk, e1⟩ := e.m_inv
          obtain ⟨es, clock, g1, g2⟩ := (hh.cells id L b hL hb h0).mp hk
          obtain ⟨o, g3, g4⟩ := h5 ρ es.toList _ d 0 g2 (he.val i) hd2
          cases r with
          | none =>
            cases o with
            | some o => exact g4.elim
            | none => exact .value (u := zv) (w' := w) (by simp only [execOp, hop, Instr.lookup, e1, Sem.run_bind, run_underlying ht, run_getMap g1, run_checkKey hq, Instr.findKey, run_underlying hd1, g3, run_zero hi hzv, Result.andThen_ok, Sem.run_pure]; rfl) ⟨ρ, .refl hh, hzr ρ⟩
          | some v =>
            cases o with
            | none => exact g4.elim
            | some o =>
              obtain ⟨j, u⟩ := o
              exact .value (u := u) (w' := w) (by simp only [execOp, hop, Instr.lookup, e1, Sem.run_bind, run_underlying ht, run_getMap g1, run_checkKey hq, Instr.findKey, run_underlying hd1, g3, Result.andThen_ok, Sem.run_pure]; rfl) ⟨ρ, .refl hh, g4⟩
        | true =>
          obtain ⟨id, hx, h2⟩ := vM_some (show vM (val γ x) (fun id => mapAt id S (fun cs => lookM q (val γ i) cs (c (.tu [z, .b false]) S) (fun v => c (.tu [v, .b true]) S))) = some out from h)
          obtain ⟨b, hb, h0, h3⟩ := mapAt_some h2
          obtain ⟨r, h4, h5⟩ := lookM_ok b.cs h3
          refine ⟨(match r with | some v => .tu [v, .b true] | none => .tu [z, .b false]), S, by cases r <;> exact h4, .refl _ _, fun ρ a w he hh _ => ?_⟩
          have e := he.val x; rw [hx] at e
          obtain ⟨L, hL, hk, e1⟩ := e.m_inv
          obtain ⟨es, clock, g1, g2⟩ := (hh.cells id L b hL hb h0).mp hk
          obtain ⟨o, g3, g4⟩ := h5 ρ es.toList _ d 0 g2 (he.val i) hd2
          cases r with
          | none =>
            cases o with
            | some o => exact g4.elim
            | none => exact .value (u := .tuple #[zv, .bool false]) (w' := w) (by simp only [execOp, hop, Instr.lookup, e1, Sem.run_bind, run_underlying ht, run_getMap g1, run_checkKey hq, Instr.findKey, run_underlying hd1, g3, run_zero hi hzv, Result.andThen_ok, Sem.run_pure]; rfl) ⟨ρ, .refl hh, .tu _ _ (.cons _ _ _ _ (hzr ρ) (.cons _ _ _ _ (.b _) .nil))⟩
          | some v =>
            cases o with
            | none => exact g4.elim
            | some o =>
              obtain ⟨j, u⟩ := o
              exact .value (u := .tuple #[u, .bool true]) (w' := w) (by simp only [execOp, hop, Instr.lookup, e1, Sem.run_bind, run_underlying ht, run_getMap g1, run_checkKey hq, Instr.findKey, run_underlying hd1, g3, Result.andThen_ok, Sem.run_pure]; rfl) ⟨ρ, .refl hh, .tu _ _ (.cons _ _ _ _ g4 (.cons _ _ _ _ (.b _) .nil))⟩
      · cases hf
    · cases hf
  case mapUpdate t m i x =>
    simp only [denM] at hf
    split at hf
    · rename_i kt et ht
      split at hf
      · rename_i q r hq hr
        cases hf
        obtain ⟨d, hd1, hd2⟩ := kq_sd hq
        obtain ⟨id, hx, h2⟩ := vM_some (show vM (val γ m) (fun id => mapUp id S (updM q (val γ i) (val γ x)) (fun S => c .u S)) = some out from h)
        obtain ⟨b, hb, hfl, h3⟩ := mapUp_some h2
        obtain ⟨cs', h4, h5⟩ := updM_ok b.cs h3
        obtain ⟨hbn, h0, hfi, hci⟩ := ok.born hb hfl
        refine ⟨_, _, h4, .upd ok hb hfl (.inl rfl), fun ρ a w he hh _ => ?_⟩
        have e := he.val m; rw [hx] at e
        obtain ⟨L, hL, hk, e1⟩ := e.m_inv
        obtain ⟨es, clock, g1, g2⟩ := (hh.cells id L b hL hb h0).mp hk
        rcases h5 ρ es.toList _ _ d 0 g2 (he.val i) (he.val x) hd2 with ⟨g3, g4⟩ | ⟨j, u, en, g3, g4, g5, g6⟩
        · refine ⟨undef, { w with heap := w.heap.setIfInBounds L.b (.map (es.push ⟨a.eval i, a.eval x, clock⟩) (clock + 1)) }, .inr ⟨?_, rfl⟩, ρ, upd_map ok hh hL hb hfl hk g1 (by rw [Array.toList_push]; exact g4 clock), .u⟩
          simp only [execOp, hop, Instr.mapUpdate, e1, Sem.run_bind, run_underlying ht, run_getMap g1, run_checkKey hq, Instr.findKey, run_underlying hd1, g3, run_setMap g1, Result.andThen_ok, Sem.run_pure]
        · rw [Nat.zero_add] at g3
          have hj : es[j]? = some en := by simpa using g4
          refine ⟨undef, { w with heap := w.heap.setIfInBounds L.b (.map (es.modify j fun e => ⟨a.eval i, a.eval x, e.born⟩) clock) }, .inr ⟨?_, rfl⟩, ρ, upd_map ok hh hL hb hfl hk g1 (by
            rw [Array.toList_modify]
            have hjl : j < es.toList.length := (List.getElem?_eq_some_iff.1 g4).1
            rw [mod_set _ _ _ _ g4]; exact g6), .u⟩
          simp only [execOp, hop, Instr.mapUpdate, e1, Sem.run_bind, run_underlying ht, run_getMap g1, run_checkKey hq, Instr.findKey, run_underlying hd1, g3, run_setMap g1, Result.andThen_ok, Sem.run_pure, hj, Option.map_some, Option.getD_some, Instr.keyThatStays, g5, if_true]
      · cases hf
    · cases hf
end Go.AM
