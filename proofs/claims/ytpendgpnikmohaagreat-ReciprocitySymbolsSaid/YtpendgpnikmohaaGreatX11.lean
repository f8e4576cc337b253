/- Operations that read memory or make new blocks: each in the model. -/
import Derived.Test.YtpendgpnikmohaaGreatX10
namespace Go.AM
set_option linter.unusedVariables false
set_option linter.unusedSimpArgs false
variable {out : V × St} {P : Program} {ρ : Ren} {w : World}
noncomputable def denMk (P : Program) (t : TypeId) (l c : V) : Option Sem3 := match P.underlying t with
  | some (.slice e) => match zc P e, P.info? e with
    | some z, some i => cond (Nat.ble i.bytes 65536 && Nat.beq z.length i.size) (some (pMks z l c)) none
    | _, _ => none
  | _ => none
noncomputable def denBs (P : Program) (γ : Env) (t : TypeId) (n : Nat) (parts : List (Nat × Operand)) : Option Sem3 := match P.underlying t with
  | some (.slice e) => match zc P e, P.info? e with
    | some z, some inf => match part1 P γ (fun i => some (i * inf.size, inf.size)) parts with
      | some ps => cond (Nat.beq z.length inf.size && Nat.ble (n * inf.size) 65536) (some (pBsl (List.replicate n z).flatten n ps)) none
      | none => none
    | _, _ => none
  | _ => none
noncomputable def denBuild (P : Program) (γ : Env) (t : TypeId) (parts : List (Nat × Operand)) : Option ((V → R) → R) := match P.underlying t, zc P t with
  | some (.struct fs), some z => match fs.toList.mapM (fun f => (P.info? f.type).map fun i => (f.offset, i.size)) with
    | some places => match part1 P γ (fun i => places[i]?) parts with
      | some ps => some (pBuild z ps)
      | none => none
    | none => none
  | some (.array _ e), some z => match P.info? e with
    | some inf => match part1 P γ (fun i => some (i * inf.size, inf.size)) parts with
      | some ps => some (pBuild z ps)
      | none => none
    | none => none
  | _, _ => none
noncomputable def denCq (P : Program) (s d : TypeId) (x : V) : Option Sem3 := match P.underlying s, P.underlying d with
  | some (.slice e), some .string => (match P.underlying e with | some (.int .u8) => some (fun S k => pB2s x S (fun v => k v S)) | _ => none)
  | some .string, some (.slice e) => (match P.underlying e with | some (.int .u8) => some (pS2b x) | _ => none)
  | _, _ => none
noncomputable def denQ (P : Program) (γ : Env) : Op → Option Sem3
  | .load t x => (match aggP P t with
    | some false => some (fun S k => pLd (val γ x) S (fun v => k v S))
    | some true => (match P.info? t with | some i => some (fun S k => pLdn i.size (val γ x) S (fun v => k v S)) | none => none)
    | none => none)
  | .alloc t => (match zc P t with | some z => some (pAlloc z) | none => none)
  | .box _ x => some (pBox (val γ x))
  | .makeSlice t l c => denMk P t (val γ l) (val γ c)
  | .buildSlice t n parts => denBs P γ t n parts.toList
  | .build t parts => (match denBuild P γ t parts.toList with | some f => some (fun S k => f (fun v => k v S)) | none => none)
  | .convert s d x => denCq P s d (val γ x)
  | _ => none
theorem run_zero {t : TypeId} {i : TypeInfo} {z : Value} (h : P.info? t = some i) (hz : i.zero = some z) : (zeroValue t).run P w = .ok z w := by simp [zeroValue, typeInfo, h, hz]
theorem run_loadVar {t : TypeId} {b o : Nat} (h : aggP P t = some false) {u : Value} (hc : w.cell? ⟨b, o, none⟩ = some u) : (loadVar t ⟨b, o, none⟩).run P w = .ok u w := by
  simp [loadVar, run_isAgg h, hc]
theorem run_loadVarN {t : TypeId} {i : TypeInfo} {a : Addr} (h : aggP P t = some true) (hi : P.info? t = some i) {us : List Value} (hl : us.length = i.size) (hc : ∀ j u, us[j]? = some u → w.cell? (a.add j) = some u) : (loadVar t a).run P w = .ok (.agg us.toArray) w := by
  simp [loadVar, run_isAgg h, run_size hi, ← hl, run_loadCells_list w a us hc]
theorem flat_get {α : Type} (z : List α) : ∀ (n i : Nat), i < n * z.length → (List.replicate n z).flatten[i]? = z[i % z.length]?
  | 0, i, h => by simp at h
  | n + 1, i, h => by
    rw [List.replicate_succ, List.flatten_cons]
    have hz : 0 < z.length := Nat.pos_of_ne_zero fun e => by rw [e] at h; simp at h
    rcases Nat.lt_or_ge i z.length with h1 | h1
    · rw [List.getElem?_append_left h1, Nat.mod_eq_of_lt h1]
    · rw [List.getElem?_append_right h1, flat_get z n _ (by rw [Nat.add_mul] at h; omega)]
      congr 1
      conv => rhs; rw [show i = i - z.length + z.length by omega, Nat.add_mod_right]
theorem flat_len {α : Type} (z : List α) (n : Nat) : (List.replicate n z).flatten.length = n * z.length := by simp
/-- zero cells, n times over -/
theorem zeros_ok {t : TypeId} {l : List V} {i : TypeInfo} {z : Value} (hl : l = z.cells.toList.map cv0) (h1 : ∀ v ∈ l, v.one = true) (n m : Nat) (hm : m = n * z.cells.size) :
    VRs ρ (List.replicate n l).flatten ((Array.range m).map (z.cells[· % z.cells.size]!)).toList ∧ ∀ v ∈ (List.replicate n l).flatten, v.one = true := by
  have hzl : l.length = z.cells.size := by rw [hl]; simp
  refine ⟨VRs.of_get (by rw [flat_len, hzl]; simp [hm]) fun j v u hv hu => ?_, fun v hv => ?_⟩
  · have hj : j < n * l.length := by have := (List.getElem?_eq_some_iff.1 hv).1; rwa [flat_len] at this
    have hz : 0 < z.cells.size := by rw [← hzl]; exact Nat.pos_of_ne_zero fun e => by rw [e] at hj; simp at hj
    rw [flat_get l n j hj, hzl, hl, List.getElem?_map] at hv
    have hjm : j < m := by rw [hm, ← hzl]; exact hj
    simp [hjm] at hu
    have hlt : j % z.cells.size < z.cells.size := Nat.mod_lt _ hz
    rw [show z.cells.toList[j % z.cells.size]? = some z.cells[j % z.cells.size] by simp [hlt]] at hv
    simp at hv
    rw [← hu, ← hv, getElem!_pos z.cells _ hlt]
    exact cv0_ok _
  · rw [List.mem_flatten] at hv
    obtain ⟨l', h2, h3⟩ := hv
    have := List.eq_of_mem_replicate h2
    subst this; exact h1 v h3
theorem push_modify {α : Type} (h : Array α) (x : α) (f : α → α) : (h.push x).modify h.size f = h.push (f x) := by
  apply Array.ext_getElem?
  intro i
  rw [Array.getElem?_modify, Array.getElem?_push, Array.getElem?_push]
  by_cases hi : h.size = i
  · subst hi; simp
  · have : ¬ i = h.size := fun e => hi e.symm
    simp [hi, this]
theorem bytes_back : ∀ (ns : List Nat) (s0 : ByteArray), (∀ n ∈ ns, n < 256) → ((ns.map (fun n : Nat => (n : Int))).foldl (fun r n => r.push (UInt8.ofNat n.toNat)) s0).data.toList.map UInt8.toNat = s0.data.toList.map UInt8.toNat ++ ns
  | [], s0, _ => by simp
  | n :: ns, s0, h => by
    simp only [List.map_cons, List.foldl_cons]
    rw [bytes_back ns _ fun m hm => h m (by simp [hm])]
    have : n < 256 := h n (by simp)
    simp [ByteArray.push, Nat.mod_eq_of_lt this]
theorem denQ_ok {o : Oper} {γ : Env} {S : St} {f : Sem3} (hf : denQ P γ o.op = some f) (ok : SOK S) {c : Cont} (h : f S c = some out) :
    ∃ v S', c v S' = some out ∧ OpOK P o γ S.cnt S v S' := by
  have same : ∀ {v : V}, c v S = some out → (∀ (ρ : Ren) (a : Act) (w : World), EnvR ρ γ a → HRel ρ S w → ∃ u, (execOp a.eval o).run P w = .ok (.value u) w ∧ VR ρ v u) → ∃ v S', c v S' = some out ∧ OpOK P o γ S.cnt S v S' := fun hv hr =>
    ⟨_, S, hv, .refl _ _, fun ρ a w he hh _ => by obtain ⟨u, h1, h2⟩ := hr ρ a w he hh; exact .value h1 ⟨ρ, .refl hh, h2⟩⟩
  have made : ∀ {v : V} {cs : List V}, c v (S.new cs) = some out → (∀ (ρ : Ren) (a : Act) (w : World), EnvR ρ γ a → HRel ρ S w → Fresh ρ S.cnt (S.cnt + 1) → Runs P o a w fun u w' => ∃ ρ', Post ρ S.cnt S (S.new cs) w w' ρ' ∧ VR ρ' v u) → ∃ v S', c v S' = some out ∧ OpOK P o γ S.cnt S v S' := fun hv hr =>
    ⟨_, _, hv, .new (Nat.le_refl _) _ ok, hr⟩
  have fresh : ∀ {ρ : Ren}, Fresh ρ S.cnt (S.cnt + 1) → ρ S.nx = none := fun hf => hf _ (by rw [ok.nx]; exact Nat.le_refl _) (by rw [ok.nx]; omega)
  cases hop : o.op <;> rw [hop] at hf <;> try (cases hf; done)
  case load t x =>
    simp only [denQ] at hf
    cases hg : aggP P t with
    | none => rw [hg] at hf; cases hf
    | some g =>
      rw [hg] at hf
      cases g
      · cases hf
        obtain ⟨id, off, hx, h1⟩ := vP_some h
        obtain ⟨b, hb, h2⟩ := cellsAt_some h1
        obtain ⟨v, hv, h3⟩ := nthK_some _ _ _ h2
        exact same h3 fun ρ a w he hh => by
          have e := he.val x; rw [hx] at e
          obtain ⟨L, hL, e1⟩ := e.p_inv
          obtain ⟨u, g1, g2, _⟩ := load_cell ok hh hL hb hv
          exact ⟨u, by simp only [execOp, hop, Instr.loadAt, e1, Instr.sureAddr, Sem.run_bind, Sem.run_pure, Result.andThen_ok, run_loadVar hg g1], g2⟩
      · simp only at hf
        cases hi : P.info? t with
        | none => rw [hi] at hf; cases hf
        | some i =>
          rw [hi] at hf; cases hf
          obtain ⟨id, off, hx, h1⟩ := vP_some h
          obtain ⟨b, hb, h2⟩ := cellsAt_some h1
          obtain ⟨h3, h4⟩ := dropK_some _ _ _ h2
          obtain ⟨h5, h6⟩ := takeK_some _ _ _ h4
          exact same h6 fun ρ a w he hh => by
            have e := he.val x; rw [hx] at e
            obtain ⟨L, hL, e1⟩ := e.p_inv
            obtain ⟨us, g1, g2, g3, g4⟩ := load_cells ok hh hL hb (off := off) (n := i.size) (o := L.d + off) (by simp at h5; omega) (fun _ => rfl)
            exact ⟨.agg us.toArray, by simp only [execOp, hop, Instr.loadAt, e1, Instr.sureAddr, Sem.run_bind, Sem.run_pure, Result.andThen_ok, run_loadVarN hg hi g2 g4], .ag _ _ g3 (by simpa using g1)⟩
  case alloc t =>
    simp only [denQ] at hf
    cases hz : zc P t with
    | none => rw [hz] at hf; cases hf
    | some z =>
      rw [hz] at hf; cases hf
      rw [pAlloc, newK_eq] at h
      obtain ⟨i, zv, hi, hzv, hl, h1⟩ := zc_some hz
      exact made h fun ρ a w he hh hfr => .value (u := .pointer (some ⟨w.heap.size, 0, none⟩)) (w' := { w with heap := w.heap.push (.cells zv.cells t) }) (by simp only [execOp, hop, Instr.alloc, Sem.run_bind, run_zero hi hzv, Result.andThen_ok, newVar, newRow, run_newObj, Sem.run_pure])
        ⟨_, new_ok ok hh hfr (by rw [hl]; exact cv0s_ok _) h1 t _, .p _ _ _ _ (Ren.up_same _ _ _) rfl⟩
  case box t x =>
    cases hf
    obtain ⟨l, h1, h2⟩ := VRs.cells (show cellsK (val γ x) (fun cs => newK cs S (fun nx S' => c (.p nx 0) S')) = some out from h)
    rw [newK_eq] at h1
    exact made h1 fun ρ a w he hh hfr => by
      obtain ⟨g1, g2⟩ := h2 ρ _ (he.val x)
      exact .value (u := .pointer (some ⟨w.heap.size, 0, none⟩)) (w' := { w with heap := w.heap.push (.cells (a.eval x).cells t) }) (by simp only [execOp, hop, Instr.box, newVar, newRow, Sem.run_bind, run_newObj, Result.andThen_ok, Sem.run_pure]) ⟨_, new_ok ok hh hfr g1 g2 t _, .p _ _ _ _ (Ren.up_same _ _ _) rfl⟩
  case makeSlice t l q =>
    simp only [denQ, denMk] at hf
    cases hu : P.underlying t with
    | none => rw [hu] at hf; cases hf
    | some d =>
      rw [hu] at hf
      cases d <;> try (cases hf; done)
      rename_i e
      simp only at hf
      cases hz : zc P e with
      | none => rw [hz] at hf; cases hf
      | some z =>
        obtain ⟨i, zv, hi, hzv, hl, h1⟩ := zc_some hz
        rw [hz, hi] at hf; simp only at hf
        cases hbt : (Nat.ble i.bytes 65536 && Nat.beq z.length i.size) <;> rw [hbt] at hf <;> simp only [cond_true, cond_false, reduceCtorEq, Option.some.injEq] at hf
        subst hf
        simp only [Bool.and_eq_true] at hbt
        have hb := Nat.le_of_ble_eq_true hbt.1
        have hzs : z.length = i.size := Nat.eq_of_beq_eq_true hbt.2
        obtain ⟨k1, n1, hx, h2⟩ := vI_some h
        obtain ⟨k2, n2, hy, h3⟩ := vI_some h2
        obtain ⟨h4, h5⟩ := gu_some h3
        rw [repK_eq, newK_eq] at h5
        simp only [Bool.and_eq_true, Bool.not_eq_true'] at h4
        obtain ⟨⟨h6, h7⟩, h8, h9⟩ := h4
        have hle := Nat.le_of_ble_eq_true h8
        have hmx := Nat.le_of_ble_eq_true h9
        exact made h5 fun ρ a w he hh hfr => by
          have e1 := he.val l; rw [hx] at e1
          have e2 := he.val q; rw [hy] at e2
          obtain ⟨e3, _⟩ := e1.i_inv
          obtain ⟨e4, _⟩ := e2.i_inv
          rw [dec_nat h6] at e3
          rw [dec_nat h7] at e4
          have hbig : (i.bytes : Int) * (n2 : Int) ≤ 281474976710656 := by
            have h1 : i.bytes * n2 ≤ 65536 * 16777216 := Nat.mul_le_mul hb hmx
            have h2 : ((i.bytes * n2 : Nat) : Int) ≤ (1099511627776 : Int) := by omega
            push_cast at h2
            omega
          have hz0 := zeros_ok (ρ := ρ) (t := e) (i := i) hl h1 n2 (n2 * i.size) (by rw [← hzs, hl]; simp)
          have hrun := run_make (P := P) w t e i zv hu hi hzv k1 k2 (n1 : Int) (n2 : Int) (by omega) (by omega) hbig (by omega)
          simp only [Int.toNat_natCast] at hrun
          refine .value (u := .slice (some ⟨w.heap.size, 0, none⟩) n1 n2) (w' := { w with heap := w.heap.push (.cells (madeCells zv.cells (n2 * i.size)) e) }) (by simp only [execOp, hop, e3, e4, Sem.run_bind, hrun, Result.andThen_ok, Sem.run_pure]; rfl) ?_
          exact ⟨_, new_ok ok hh hfr hz0.1 hz0.2 e _, .sl _ _ _ _ _ _ (Ren.up_same _ _ _) hle (fun _ => rfl)⟩
  case buildSlice t n parts =>
    simp only [denQ, denBs] at hf
    cases hu : P.underlying t with
    | none => rw [hu] at hf; cases hf
    | some d =>
      rw [hu] at hf
      cases d <;> try (cases hf; done)
      rename_i e
      simp only at hf
      cases hz : zc P e with
      | none => rw [hz] at hf; cases hf
      | some z =>
        obtain ⟨i, zv, hi, hzv, hl, h1⟩ := zc_some hz
        rw [hz, hi] at hf; simp only at hf
        cases hp : part1 P γ (fun j => some (j * i.size, i.size)) parts.toList with
        | none => rw [hp] at hf; cases hf
        | some ps =>
          rw [hp] at hf; simp only at hf
          cases hbt : (Nat.beq z.length i.size && Nat.ble (n * i.size) 65536) <;> rw [hbt] at hf <;> simp only [cond_true, cond_false, reduceCtorEq, Option.some.injEq] at hf
          subst hf
          simp only [Bool.and_eq_true] at hbt
          have hzs : z.length = i.size := Nat.eq_of_beq_eq_true hbt.1
          have hb := Nat.le_of_ble_eq_true hbt.2
          obtain ⟨l', h2, h3⟩ := fill_ok parts.toList ps hp _ (show putParts ps (List.replicate n z).flatten (fun cs => newK cs S (fun nx S' => c (.sl nx 0 n n) S')) = some out from h)
          rw [newK_eq] at h2
          exact made h2 fun ρ a w he hh hfr => by
            have hz0 := zeros_ok (ρ := ρ) (t := e) (i := i) hl h1 n (n * i.size) (by rw [← hzs, hl]; simp)
            obtain ⟨cs', g1, g2, g3⟩ := h3 ρ a _ he hz0.1 hz0.2
            have hmap : (parts.map fun (p : Nat × Operand) => (p.1, a.eval p.2)).toList = parts.toList.map fun p => (p.1, a.eval p.2) := by simp
            refine .value (u := .slice (some ⟨w.heap.size, 0, none⟩) n n) (w' := { w with heap := w.heap.push (.cells cs' e) }) ?_ ⟨_, new_ok ok hh hfr g2 g3 e _, .sl _ _ _ _ _ _ (Ren.up_same _ _ _) (Nat.le_refl _) (fun _ => rfl)⟩
            have hnb : ¬ (n * i.size > 2 ^ 24) := by omega
            by_cases hn0 : n * i.size = 0
            · rw [hn0] at g1
              have : (Array.range 0).map (fun j => zv.cells[j % zv.cells.size]!) = (Array.range 0).map (fun j => (#[] : Array Value)[j % (#[] : Array Value).size]!) := by simp [Array.range_zero']
              rw [this] at g1
              simp only [execOp, hop, Instr.buildSlice, Sem.run_bind, run_underlying hu, Result.andThen_ok, run_size hi, hn0, hmap, Sem.run_pure, if_true, Nat.not_lt_zero, gt_iff_lt, if_false, g1, newRow, run_newObj]
            · simp only [execOp, hop, Instr.buildSlice, Sem.run_bind, run_underlying hu, Result.andThen_ok, run_size hi, hnb, if_false, hn0, run_zero hi hzv, hmap, Sem.run_pure, g1, newRow, run_newObj]
  case build t parts =>
    simp only [denQ, denBuild] at hf
    cases hu : P.underlying t with
    | none => rw [hu] at hf; cases hf
    | some d =>
      rw [hu] at hf
      cases d <;> try (cases hf; done)
      · -- array
        rename_i n e
        cases hz : zc P t with
        | none => rw [hz] at hf; cases hf
        | some z =>
          obtain ⟨i, zv, hi, hzv, hl, h1⟩ := zc_some hz
          rw [hz] at hf; simp only at hf
          cases hie : P.info? e with
          | none => rw [hie] at hf; cases hf
          | some inf =>
            rw [hie] at hf; simp only at hf
            cases hp : part1 P γ (fun j => some (j * inf.size, inf.size)) parts.toList with
            | none => rw [hp] at hf; cases hf
            | some ps =>
              rw [hp] at hf; cases hf
              obtain ⟨l', h2, h3⟩ := fill_ok parts.toList ps hp _ (show putParts ps z (fun cs => c (.ag cs) S) = some out from h)
              exact same h2 fun ρ a w he hh => by
                obtain ⟨cs', g1, g2, g3⟩ := h3 ρ a zv.cells he (by rw [hl]; exact cv0s_ok _) h1
                refine ⟨.agg cs', ?_, .ag _ _ g3 g2⟩
                have hmap : (parts.map fun (p : Nat × Operand) => (p.1, a.eval p.2)).toList = parts.toList.map fun p => (p.1, a.eval p.2) := by simp
                simp only [execOp, hop, Instr.build, Sem.run_bind, run_zero hi hzv, run_underlying hu, Result.andThen_ok, run_size hie, hmap, g1, Sem.run_pure]
      · rename_i fs
        cases hz : zc P t with
        | none => rw [hz] at hf; cases hf
        | some z =>
          obtain ⟨i, zv, hi, hzv, hl, h1⟩ := zc_some hz
          rw [hz] at hf; simp only at hf
          cases hpl : fs.toList.mapM (fun f => (P.info? f.type).map fun i => (f.offset, i.size)) with
          | none => rw [hpl] at hf; cases hf
          | some places =>
            rw [hpl] at hf; simp only at hf
            cases hp : part1 P γ (fun j => places[j]?) parts.toList with
            | none => rw [hp] at hf; cases hf
            | some ps =>
              rw [hp] at hf; cases hf
              obtain ⟨l', h2, h3⟩ := fill_ok parts.toList ps hp _ (show putParts ps z (fun cs => c (.ag cs) S) = some out from h)
              exact same h2 fun ρ a w he hh => by
                obtain ⟨cs', g1, g2, g3⟩ := h3 ρ a zv.cells he (by rw [hl]; exact cv0s_ok _) h1
                refine ⟨.agg cs', ?_, .ag _ _ g3 g2⟩
                have hmap : (parts.map fun (p : Nat × Operand) => (p.1, a.eval p.2)).toList = parts.toList.map fun p => (p.1, a.eval p.2) := by simp
                have hb : P.built t (parts.map fun (p : Nat × Operand) => (p.1, a.eval p.2)).toList = some cs' := by
                  simp only [Program.built, hi, hu, hzv, hpl, hmap, List.getElem?_toArray]
                  exact g1
                have := run_build (P := P) w t (parts.map fun (p : Nat × Operand) => (p.1, a.eval p.2)) cs' hb
                simp only [execOp, hop, Sem.run_bind, this, Result.andThen_ok, Sem.run_pure]
  case convert s d x =>
    simp only [denQ, denCq] at hf
    cases hs : P.underlying s with
    | none => rw [hs] at hf; cases hf
    | some ds =>
      cases hd : P.underlying d with
      | none => rw [hs, hd] at hf; cases ds <;> cases hf
      | some dd =>
        rw [hs, hd] at hf
        cases ds <;> try (cases hf; done)
        · -- string to bytes
          cases dd <;> try (cases hf; done)
          rename_i e
          simp only at hf
          cases hue : P.underlying e with
          | none => rw [hue] at hf; cases hf
          | some de =>
            rw [hue] at hf
            cases de <;> try (cases hf; done)
            rename_i kk
            cases kk <;> try (cases hf; done)
            cases hf
            obtain ⟨l, hx, h1⟩ := vS_some h
            rw [u8sK_eq, lenL_zero] at h1
            obtain ⟨h2, h3⟩ := gu_some h1
            rw [newK_eq] at h3
            exact made h3 fun ρ a w he hh hfr => by
              have e0 := he.val x; rw [hx] at e0
              obtain ⟨t, e1, ht⟩ := e0.s_inv
              have hts : t.size = l.length := by rw [← ht]; simp
              let q : Nat := (Question.appendCap t.size 0 e).cut (w.tape w.drawn (Question.appendCap t.size 0 e))
              have hq : t.size ≤ q := Nat.le_add_right _ _
              let arr : Array Value := t.data.map (fun b => Value.int .u8 b.toNat) ++ Array.replicate (q - t.size) (.int .u8 0)
              have harr : arr.size = q := by
                have : t.data.size = t.size := rfl
                simp [arr, this]; omega
              let w' : World := { w with heap := w.heap.push (.cells arr e (arr.size, arr.size + 1)), drawn := w.drawn + 1 }
              have hcells : ∀ (i : Nat) (v : V), (l.map (V.i .u8))[i]? = some v → ∃ u, arr[i]? = some u ∧ VR ρ v u ∧ v.one = true := fun i v hv => by
                rw [← ht, List.map_map, List.getElem?_map] at hv
                cases hb : t.data.toList[i]? with
                | none => rw [hb] at hv; cases hv
                | some b =>
                  rw [hb] at hv; cases hv
                  have hlt : i < t.data.size := by simpa using (List.getElem?_eq_some_iff.1 hb).1
                  refine ⟨.int .u8 b.toNat, ?_, .i _ _ _ b.toNat_lt rfl, rfl⟩
                  have hb' : t.data[i]? = some b := by simpa using hb
                  simp only [arr]
                  rw [Array.getElem?_append_left (by simpa using hlt), Array.getElem?_map, hb']; rfl
              have hpost := new_post (fl := S.cnt) (w' := w') (cs := l.map (V.i .u8)) ok hh (fresh hfr) (c := arr) (e := e) (fr := (arr.size, arr.size + 1)) rfl rfl rfl rfl (fun i hi hc => by simp at hc; omega) (by simp [harr]; omega) hcells
              refine .value (u := .slice (some ⟨w.heap.size, 0, none⟩) t.size q) (w' := w') ?_ ⟨_, hpost, ?_⟩
              · have hrun : (convert s d (.string t)).run P w = .ok (.slice (some ⟨w.heap.size, 0, none⟩) t.size q) w' := by
                  simp only [convert, Sem.run_bind, run_underlying hs, run_underlying hd, Result.andThen_ok, run_underlying hue, Conv.stringToBytes, run_choose, Question.forced, Bool.false_eq_true, if_false, newRow, run_newObj, Sem.run_pure, markStringish, run_shape, World.shape?]
                  simp only [Array.getElem?_push_size, run_freeze, Result.andThen_ok, Sem.run_pure, World.freeze, push_modify, Nat.one_ne_zero, if_false]
                  rfl
                simp only [execOp, hop, e1, Sem.run_bind, hrun, Result.andThen_ok, Sem.run_pure]
              · rw [hts]
                simp only [List.length_map]
                exact .so _ _ _ _ _ _ _ _ (Ren.up_same _ _ _) (Nat.le_refl _) (by omega) (by simp [harr]) (fun _ => rfl)
        · -- bytes to string
          rename_i e
          cases dd <;> try (cases hf; done)
          simp only at hf
          cases hue : P.underlying e with
          | none => rw [hue] at hf; cases hf
          | some de =>
            rw [hue] at hf
            cases de <;> try (cases hf; done)
            rename_i kk
            cases kk <;> try (cases hf; done)
            cases hf
            rcases vLz_some (show vLz (val γ x) (c (.s []) S) (fun id o n => elems 1 id o n S (fun l => bytesK l (fun s => c (.s s) S))) = some out from h) with ⟨hx, h1⟩ | ⟨id, off, n, hsl, h1⟩
            · exact same h1 fun ρ a w he hh => by
                have e0 := he.val x; rw [hx] at e0
                refine ⟨.string .empty, ?_, .s _ _ rfl⟩
                have := run_convert_bytes_string (P := P) w s d e none 0 0 hs hue hd
                simp only [execOp, hop, e0.sn_inv, Sem.run_bind, this, Conv.bytesToString, Sem.run_pure, Result.andThen_ok]
            · obtain ⟨b, hb, h2, h3⟩ := elems_some h1
              rw [Nat.mul_one] at h2 h3
              obtain ⟨ns, hns, h4⟩ := bytesK_some _ _ h3
              exact same h4 fun ρ a w he hh => by
                obtain ⟨L, o', q, hL, e1, hq, ho⟩ := (he.val x).sl_any hsl
                obtain ⟨us, g1, g2, g3, g4⟩ := load_cells ok hh hL hb (off := off) (n := n) (o := o') h2 ho
                have hus : us = (ns.map (fun n : Nat => (n : Int))).map (Value.int .u8) ∧ ∀ m ∈ ns, m < 256 := by
                  rw [hns] at g1
                  clear h2 h3 h4 hns g2 g3 g4
                  induction ns generalizing us with
                  | nil => cases g1; exact ⟨rfl, fun m hm => by simp at hm⟩
                  | cons m ns ih =>
                    cases g1 with | cons _ u _ us' hu hr =>
                    obtain ⟨r1, r2⟩ := ih us' hr
                    obtain ⟨r3, r4⟩ := hu.i_inv
                    refine ⟨by rw [r1, r3, dec_nat (show neg .u8 m = false from rfl)]; rfl, fun k hk => ?_⟩
                    rcases List.mem_cons.1 hk with rfl | hk
                    · exact r4
                    · exact r2 k hk
                have hld := run_loadCells_list (P := P) w _ us g4
                rw [g2, hus.1] at hld
                have hrun := run_bytesToString (P := P) w ⟨L.b, o', none⟩ n q _ hld
                have := run_convert_bytes_string (P := P) w s d e (some ⟨L.b, o', none⟩) n q hs hue hd
                refine ⟨.string ((ns.map (fun n : Nat => (n : Int))).foldl (fun r n => r.push (UInt8.ofNat n.toNat)) ByteArray.empty), by simp only [execOp, hop, e1, Sem.run_bind, this, hrun, Result.andThen_ok, Sem.run_pure], .s _ _ ?_⟩
                rw [bytes_back ns _ hus.2]; simp
end Go.AM
