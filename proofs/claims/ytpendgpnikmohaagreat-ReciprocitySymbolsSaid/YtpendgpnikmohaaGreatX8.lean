/- The pure operations of a region: their meaning in the machine, and that the model yields it. -/
import Derived.Test.YtpendgpnikmohaaGreatX7
import Derived.Test.YtpendgpnikmohaaGreatXE
namespace Go.AM
set_option linter.unusedVariables false
set_option linter.unusedSimpArgs false
variable {out : V × St} {ρ : Ren} {P : Program} {w : World} {a : Act}
def placeP (P : Program) (s : TypeId) (f : Nat) : Option (Nat × TypeId × TypeInfo) :=
  match P.underlying s with
  | some (.struct fs) => match fs[f]? with
    | some fd => match P.info? fd.type with
      | some i => some (fd.offset, fd.type, i)
      | none => none
    | none => none
  | _ => none
theorem placeP_some {s : TypeId} {f off : Nat} {ft : TypeId} {i : TypeInfo} (h : placeP P s f = some (off, ft, i)) : ∃ fs fd, P.underlying s = some (.struct fs) ∧ fs[f]? = some fd ∧ fd.offset = off ∧ fd.type = ft ∧ P.info? ft = some i := by
  unfold placeP at h
  cases hu : P.underlying s with
  | none => rw [hu] at h; cases h
  | some d =>
    rw [hu] at h
    cases d <;> try (cases h; done)
    rename_i fs
    simp only at h
    cases hf : fs[f]? with
    | none => rw [hf] at h; cases h
    | some fd =>
      rw [hf] at h; simp only at h
      cases hi : P.info? fd.type with
      | none => rw [hi] at h; cases h
      | some i' => rw [hi] at h; cases h; exact ⟨fs, fd, rfl, hf, rfl, rfl, hi⟩
noncomputable def denIdx (P : Program) (t : TypeId) (x i : V) : Option ((V → R) → R) :=
  match P.underlying t with
  | some (.slice e) => match P.info? e with | some inf => some (pIdx inf.size x i) | none => none
  | some (.array n e) => match P.info? e with | some inf => some (pIdxa n inf.size x i) | none => none
  | _ => none
noncomputable def denIx (P : Program) (t : TypeId) (x i : V) : Option ((V → R) → R) :=
  match P.underlying t with
  | some .string => some (pSidx x i)
  | some (.array n e) => match P.info? e with
    | some inf => match aggP P e with
      | some true => some (pAidxn n inf.size x i)
      | some false => cond (Nat.beq inf.size 1) (some (pAidx n x i)) none
      | none => none
    | none => none
  | _ => none
noncomputable def denCv (P : Program) (s d : TypeId) (x : V) : Option ((V → R) → R) :=
  match P.underlying s, P.underlying d with
  | some (.int _), some (.int k) => some (pConv k x)
  | some .string, some .string => some (fun c => vS x (fun _ => c x))
  | _, _ => none
noncomputable def denLen (P : Program) (ts : List TypeId) (vs : List V) : Option ((V → R) → R) :=
  match ts, vs with
  | [t], [x] => match P.underlying t with
    | some (.slice _) => some (pLen x)
    | some .string => some (pLenS x)
    | _ => none
  | _, _ => none
noncomputable def denP (P : Program) (γ : Env) : Op → Option ((V → R) → R)
  | .move x | .assign x => some (fun c => c (val γ x))
  | .pick q a b => some (pPick (val γ q) (val γ a) (val γ b))
  | .binOp op t x y _ => (match denB P op t y (val γ x) (val γ y) with | some f => some f | none => denE P op t (val γ x) (val γ y))
  | .unOp .not _ x => some (pNot (val γ x))
  | .unOp .neg _ x => some (pNeg (val γ x))
  | .indexAddr t x i => denIdx P t (val γ x) (val γ i)
  | .fieldAddr s x f => match placeP P s f with | some (off, _, i) => cond (Nat.beq i.size 0) none (some (pFa off (val γ x))) | none => none
  | .field s x f => match placeP P s f with | some (off, t, i) => (match aggP P t with | some true => some (pFldn off i.size (val γ x)) | some false => some (pFld off (val γ x)) | none => none) | none => none
  | .index t x i => denIx P t (val γ x) (val γ i)
  | .extract x i => some (pExt (val γ x) i)
  | .convert s d x => denCv P s d (val γ x)
  | .makeFunc (.func f) first captured => cond first.isEmpty (some (fun c => c (.f f (captured.toList.map (val γ))))) none
  | .nilCheck x => some (pNc (val γ x))
  | .call { callee := .builtin .len, args, argTypes } => denLen P argTypes.toList (args.toList.map (val γ))
  | .call { callee := .builtin .max, args, argTypes } => some (pMx (args.toList.map (val γ)))
  | .call { callee := .builtin .min, args, argTypes } => some (pMn (args.toList.map (val γ)))
  | _ => none
theorem idx_ok {t : TypeId} {x i : V} {f : (V → R) → R} (hf : denIdx P t x i = some f) {c : V → R} (h : f c = some out) :
    ∃ v, c v = some out ∧ ∀ (ρ : Ren) (xu iu : Value) (w : World), VR ρ x xu → VR ρ i iu → ∃ u, (Instr.indexAt t xu iu).run P w = .ok u w ∧ VR ρ v u := by
  unfold denIdx at hf
  cases hu : P.underlying t with
  | none => rw [hu] at hf; cases hf
  | some d =>
    rw [hu] at hf
    cases d <;> try (cases hf; done)
    case slice e =>
      simp only at hf
      cases hi : P.info? e with
      | none => rw [hi] at hf; cases hf
      | some inf =>
        rw [hi] at hf; cases hf
        obtain ⟨k, n, rfl, h1⟩ := vI_some h
        obtain ⟨h2, h3⟩ := gu_some h1
        obtain ⟨id, off, len, hs, h4⟩ := vLs_some h3
        obtain ⟨h5, h6⟩ := gu_some h4
        rw [fN_eq] at h6
        have hnn : neg k n = false := by simpa using h2
        have hlt : n < len := Nat.le_of_ble_eq_true h5
        refine ⟨_, h6, fun ρ xu iu w hx hi' => ?_⟩
        obtain ⟨L, o, q, hL, rfl, _, ho⟩ := hx.sl_any hs
        obtain ⟨rfl, hn⟩ := hi'.i_inv
        have h0 : 0 ≤ dec k n ∧ dec k n < (len : Int) := by rw [dec_nat hnn]; omega
        have ht : (dec k n).toNat = n := by rw [dec_nat hnn]; rfl
        refine ⟨_, ?_, .p id _ (L.d + (off + n * inf.size)) L hL rfl⟩
        simp only [Instr.indexAt, asIntOf, Sem.run_bind, Sem.run_pure, Result.andThen_ok, run_underlying hu, run_size hi, h0, and_self, if_true, ht]
        have : (⟨L.b, o, none⟩ : Addr).add (n * inf.size) = ⟨L.b, L.d + (off + n * inf.size), none⟩ := by
          rw [ho (by omega)]; unfold Addr.add; split
          · rename_i hz; rw [hz]; rfl
          · simp; omega
        rw [this]
    case array n' e =>
      simp only at hf
      cases hi : P.info? e with
      | none => rw [hi] at hf; cases hf
      | some inf =>
        rw [hi] at hf; cases hf
        obtain ⟨k, n, rfl, h1⟩ := vI_some h
        obtain ⟨h2, h3⟩ := gu_some h1
        obtain ⟨id, off, rfl, h4⟩ := vP_some h3
        obtain ⟨h5, h6⟩ := gu_some h4
        rw [fN_eq] at h6
        have hnn : neg k n = false := by simpa using h2
        have hlt : n < n' := Nat.le_of_ble_eq_true h5
        refine ⟨_, h6, fun ρ xu iu w hx hi' => ?_⟩
        obtain ⟨L, hL, rfl⟩ := hx.p_inv
        obtain ⟨rfl, hn⟩ := hi'.i_inv
        have h0 : 0 ≤ dec k n ∧ dec k n < (n' : Int) := by rw [dec_nat hnn]; omega
        have ht : (dec k n).toNat = n := by rw [dec_nat hnn]; rfl
        refine ⟨_, ?_, .p id _ (L.d + (off + n * inf.size)) L hL rfl⟩
        have : (⟨L.b, L.d + off, none⟩ : Addr).add (n * inf.size) = ⟨L.b, L.d + (off + n * inf.size), none⟩ := by
          unfold Addr.add; split
          · rename_i hz; rw [hz]; rfl
          · simp; omega
        simp only [Instr.indexAt, asIntOf, Instr.sureAddr, Sem.run_bind, Sem.run_pure, Result.andThen_ok, run_underlying hu, run_size hi, h0, and_self, if_true, ht, this]
theorem fold_ok (less : Bool) (f2 : Value → Value → Sem Value) (hf2 : ∀ k k' x y, f2 (.int k x) (.int k' y) = pure (.int k (if less then (if y < x then y else x) else (if y > x then y else x)))) : ∀ (l : List V) (m : V) {c : V → R}, mxK less l m c = some out → (∃ k n, m = .i k n) →
    ∃ v, c v = some out ∧ ∀ (ρ : Ren) (ls : List Value) (mu : Value) (w : World), VRs ρ l ls → VR ρ m mu → ∃ u, (ls.foldlM f2 mu).run P w = .ok u w ∧ VR ρ v u
  | [], m, c, h, _ => ⟨m, h, fun ρ ls mu w hl hm => by cases hl; exact ⟨mu, rfl, hm⟩⟩
  | x :: l, m, c, h, _ => by
    obtain ⟨k, p, q, rfl, rfl, h1⟩ := two_some (show two m x (fun kd a b c => retI c kd (pickI kd less a b)) (fun m => mxK less l m c) = some out from h)
    rw [retI_eq] at h1
    obtain ⟨v, hv, hr⟩ := fold_ok less f2 hf2 l _ h1 ⟨k, _, rfl⟩
    refine ⟨v, hv, fun ρ ls mu w hl hm => ?_⟩
    cases hl with | cons _ xu _ ls' hx hl' =>
    obtain ⟨rfl, hp⟩ := hm.i_inv
    obtain ⟨rfl, hq⟩ := hx.i_inv
    have hpk : VR ρ (.i k (pickI k less p q)) (.int k (if less then (if dec k q < dec k p then dec k q else dec k p) else (if dec k q > dec k p then dec k q else dec k p))) := by
      unfold pickI
      cases less
      · simp only [Bool.false_eq_true, if_false]
        by_cases hh : dec k q > dec k p
        · rw [if_pos hh, show Nat.blt (sh k p) (sh k q) = true by rw [blt_sh hp hq]; exact decide_eq_true hh]; exact .i _ _ _ hq rfl
        · rw [if_neg hh, show Nat.blt (sh k p) (sh k q) = false by rw [blt_sh hp hq]; exact decide_eq_false hh]; exact .i _ _ _ hp rfl
      · simp only [if_true]
        by_cases hh : dec k q < dec k p
        · rw [if_pos hh, show Nat.blt (sh k q) (sh k p) = true by rw [blt_sh hq hp]; exact decide_eq_true hh]; exact .i _ _ _ hq rfl
        · rw [if_neg hh, show Nat.blt (sh k q) (sh k p) = false by rw [blt_sh hq hp]; exact decide_eq_false hh]; exact .i _ _ _ hp rfl
    obtain ⟨u, h2, h3⟩ := hr ρ ls' _ w hl' hpk
    refine ⟨u, ?_, h3⟩
    rw [List.foldlM_cons, hf2]
    simpa using h2
theorem VRs.toArray {l : List V} {m : Array Value} (h : VRs ρ l m.toList) (i : Nat) {v : V} (hv : l[i]? = some v) : ∃ u, m[i]? = some u ∧ VR ρ v u := by
  obtain ⟨u, h1, h2⟩ := h.get hv; exact ⟨u, by simpa using h1, h2⟩
theorem ix_ok {t : TypeId} {x i : V} {f : (V → R) → R} (hf : denIx P t x i = some f) {c : V → R} (h : f c = some out) :
    ∃ v, c v = some out ∧ ∀ (ρ : Ren) (xu iu : Value) (w : World), VR ρ x xu → VR ρ i iu → ∃ u, (Instr.index t xu iu).run P w = .ok u w ∧ VR ρ v u := by
  unfold denIx at hf
  cases hu : P.underlying t with
  | none => rw [hu] at hf; cases hf
  | some d =>
    rw [hu] at hf
    cases d <;> try (cases hf; done)
    case string =>
      cases hf
      obtain ⟨k, n, rfl, h1⟩ := vI_some h
      obtain ⟨h2, h3⟩ := gu_some h1
      obtain ⟨l, rfl, h4⟩ := vS_some h3
      obtain ⟨m, hm, h5⟩ := nthK_some _ _ _ h4
      have hnn : neg k n = false := by simpa using h2
      refine ⟨_, h5, fun ρ xu iu w hx hi' => ?_⟩
      obtain ⟨s, rfl, hs⟩ := hx.s_inv
      obtain ⟨rfl, hn⟩ := hi'.i_inv
      have h0 : 0 ≤ dec k n := by rw [dec_nat hnn]; omega
      have ht : (dec k n).toNat = n := by rw [dec_nat hnn]; rfl
      rw [← hs, List.getElem?_map] at hm
      cases hb : s.data.toList[n]? with
      | none => rw [hb] at hm; cases hm
      | some b =>
        rw [hb] at hm; cases hm
        obtain ⟨hlt, hbe⟩ := List.getElem?_eq_some_iff.1 hb
        have hlt' : n < s.size := by simpa using hlt
        have : s[n]? = some b := by
          rw [getElem?_pos s n hlt']; congr 1
        refine ⟨_, ?_, .i .u8 b.toNat _ (by have := b.toNat_lt; exact this) rfl⟩
        simp only [Instr.index, asIntOf, Sem.run_bind, Sem.run_pure, Result.andThen_ok, run_underlying hu, h0, if_true, ht, this]
        rw [dec_nat (show neg .u8 b.toNat = false from rfl)]
    case array n' e =>
      simp only at hf
      cases hi : P.info? e with
      | none => rw [hi] at hf; cases hf
      | some inf =>
        rw [hi] at hf; simp only at hf
        cases hg : aggP P e with
        | none => rw [hg] at hf; cases hf
        | some g =>
          rw [hg] at hf
          cases g
          · simp only at hf
            cases hsz : Nat.beq inf.size 1 <;> rw [hsz] at hf <;> simp only [cond_false, cond_true, reduceCtorEq, Option.some.injEq] at hf
            subst hf
            have hsz1 : inf.size = 1 := Nat.eq_of_beq_eq_true hsz
            obtain ⟨k, n, rfl, h1⟩ := vI_some h
            obtain ⟨h2, h3⟩ := gu_some h1
            obtain ⟨l, rfl, h4⟩ := vA_some h3
            obtain ⟨h5, h6⟩ := gu_some h4
            obtain ⟨v, hv, h7⟩ := nthK_some _ _ _ h6
            have hnn : neg k n = false := by simpa using h2
            have hlt : n < n' := Nat.le_of_ble_eq_true h5
            refine ⟨v, h7, fun ρ xu iu w hx hi' => ?_⟩
            obtain ⟨cs, rfl, hcs⟩ := hx.ag_inv
            obtain ⟨rfl, hn⟩ := hi'.i_inv
            have h0 : 0 ≤ dec k n ∧ dec k n < (n' : Int) := by rw [dec_nat hnn]; omega
            have ht : (dec k n).toNat = n := by rw [dec_nat hnn]; rfl
            obtain ⟨u, hu1, hu2⟩ := hcs.toArray n hv
            refine ⟨u, ?_, hu2⟩
            simp only [Instr.index, asIntOf, Sem.run_bind, Sem.run_pure, Result.andThen_ok, run_underlying hu, h0, and_self, if_true, ht, run_size hi, hsz1, Nat.mul_one, part, run_isAgg hg, Bool.false_eq_true, if_false, hu1]
          · simp only [Option.some.injEq] at hf
            subst hf
            obtain ⟨k, n, rfl, h1⟩ := vI_some h
            obtain ⟨h2, h3⟩ := gu_some h1
            obtain ⟨l, rfl, h4⟩ := vA_some h3
            obtain ⟨h5, h6⟩ := gu_some h4
            obtain ⟨h7, h8⟩ := dropK_some _ _ _ h6
            obtain ⟨h9, h10⟩ := takeK_some _ _ _ h8
            have hnn : neg k n = false := by simpa using h2
            have hlt : n < n' := Nat.le_of_ble_eq_true h5
            refine ⟨_, h10, fun ρ xu iu w hx hi' => ?_⟩
            obtain ⟨cs, rfl, hcs⟩ := hx.ag_inv
            obtain ⟨rfl, hn⟩ := hi'.i_inv
            have h0 : 0 ≤ dec k n ∧ dec k n < (n' : Int) := by rw [dec_nat hnn]; omega
            have ht : (dec k n).toNat = n := by rw [dec_nat hnn]; rfl
            refine ⟨_, ?_, .ag _ (cs.extract (n * inf.size) (n * inf.size + inf.size)) (one_sub hx.ag_one _ _) ?_⟩
            · simp only [Instr.index, asIntOf, Sem.run_bind, Sem.run_pure, Result.andThen_ok, run_underlying hu, h0, and_self, if_true, ht, run_size hi, part, run_isAgg hg]
            · have e : (cs.extract (n * inf.size) (n * inf.size + inf.size)).toList = (cs.toList.drop (n * inf.size)).take inf.size := by
                simp [List.take_drop, Array.toList_extract, List.extract_eq_take_drop]
              rw [e]; exact (hcs.drop _).take _
end Go.AM
