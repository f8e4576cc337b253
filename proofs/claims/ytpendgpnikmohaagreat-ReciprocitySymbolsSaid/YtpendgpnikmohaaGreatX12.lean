/- Stores and appends. -/
import Derived.Test.YtpendgpnikmohaaGreatX11
import Derived.Laws.AppendOwn
namespace Go.AM
set_option linter.unusedVariables false
set_option linter.unusedSimpArgs false
variable {out : V × St} {P : Program} {ρ : Ren} {w : World}
noncomputable def denApp (P : Program) (ts : List TypeId) (vs : List V) : Option Sem3 := match ts, vs with
  | [t, u], [x, y] => match P.underlying t, P.underlying u with
    | some (.slice e), some (.slice _) => match P.info? e, zc P e with
      | some i, some z => cond (Nat.beq z.length i.size && Nat.ble i.bytes 65536 && Nat.blt 0 i.size) (some (pApp i.size x y)) none
      | _, _ => none
    | _, _ => none
  | _, _ => none
noncomputable def denW (P : Program) (γ : Env) : Op → Option Sem3
  | .store t x y => (match P.info? t with | some i => some (fun S k => pSt i.size (val γ x) (val γ y) S (fun S => k .u S)) | none => none)
  | .call { callee := .builtin .append, args, argTypes } => denApp P argTypes.toList (args.toList.map (val γ))
  | _ => none
section append
variable {t u ty e e2 : TypeId} {i : TypeInfo} {z : Value}
theorem run_app_room (ht : P.underlying t = some (.slice e)) (hu : P.underlying u = some (.slice e2)) (hi : P.info? e = some i) (base : Option Addr) (sLen sCap : Nat) (a : Addr) (n c : Nat) (news : List Value) (hl : news.length = n * i.size)
    (hnews : ∀ j v, news[j]? = some v → w.cell? (a.add j) = some v) (hroom : sLen + n ≤ sCap) {w' : World} (hst : ∀ b, base = some b → (storeCells (b.add (sLen * i.size)) news).run P w = .ok () w') (hb : base ≠ none) :
    (Builtin.append_ #[t, u] ty #[.slice base sLen sCap, .slice (some a) n c]).run P w = .ok (.slice base (sLen + n) sCap) w' := by
  have hf := run_firstCells_some (P := P) w i.size n a n c news hl hnews
  cases base with
  | none => exact absurd rfl hb
  | some b =>
    have hs := hst b rfl
    simp [Builtin.append_, run_underlying ht, run_underlying hu, sizeOf, typeInfo, hi, Builtin.lenOf, hroom, hf, hs]
theorem run_app_grow (ht : P.underlying t = some (.slice e)) (hu : P.underlying u = some (.slice e2)) (hi : P.info? e = some i) (hz : i.zero = some z) (base : Option Addr) (sLen sCap : Nat) (olds : List Value)
    (hfo : (Builtin.firstCells i.size sLen (.slice base sLen sCap)).run P w.drew = .ok olds.toArray w.drew) (a : Addr) (n c : Nat) (news : List Value) (hl : news.length = n * i.size)
    (hnews : ∀ j v, news[j]? = some v → w.cell? (a.add j) = some v) (hg : sCap < sLen + n) (hsm : sLen + n ≤ 1073741824) (hb : i.bytes ≤ 65536) :
    (Builtin.append_ #[t, u] ty #[.slice base sLen sCap, .slice (some a) n c]).run P w =
      .ok (.slice (some ⟨w.heap.size, 0, none⟩) (sLen + n) (grownCap w (sLen + n) sCap e)) { w with heap := w.heap.push (.cells ((olds ++ news).toArray ++ Builtin.zeroCells z.cells (grownCap w (sLen + n) sCap e - (sLen + n))) e), drawn := w.drawn + 1 } := by
  have hn : ¬ (sLen + n ≤ sCap) := by omega
  have h63' : ¬ (9223372036854775807 < ((sLen : Int) + (n : Int))) := by omega
  have hfit : Builtin.nextslicecap (sLen + n) sCap * i.bytes ≤ 281474976710656 := by
    have h1 := nextslicecap_le (need := sLen + n) (old := sCap) hg
    have h2 : Builtin.nextslicecap (sLen + n) sCap * i.bytes ≤ (2 * 1073741824) * 65536 := Nat.mul_le_mul (by omega) hb
    omega
  have h48' : ¬ (281474976710656 < Builtin.nextslicecap (sLen + n) sCap * i.bytes) := by omega
  have hf := run_firstCells_some (P := P) w.drew i.size n a n c news hl (by simpa using hnews)
  simp [Builtin.append_, run_underlying ht, run_underlying hu, sizeOf, typeInfo, zeroValue, hi, hz, Builtin.lenOf, hn, h63', h48', Question.forced, hf, hfo, newRow, grownCap]
  rw [show (olds ++ news).toArray = olds.toArray ++ news.toArray by simp, Array.append_assoc]
  rfl
theorem run_app_none (ht : P.underlying t = some (.slice e)) (hu : P.underlying u = some (.slice e2)) (hi : P.info? e = some i) (base : Option Addr) (sLen sCap : Nat) (hle : sLen ≤ sCap) (y : Value) (hy : y = .slice none 0 0 ∨ ∃ a c, y = .slice (some a) 0 c) :
    (Builtin.append_ #[t, u] ty #[.slice base sLen sCap, y]).run P w = .ok (.slice base sLen sCap) w := by
  rcases hy with rfl | ⟨a, c, rfl⟩
  · cases base <;> simp [Builtin.append_, run_underlying ht, run_underlying hu, sizeOf, typeInfo, hi, Builtin.lenOf, hle, Builtin.firstCells, storeCells]
  · have hf := run_firstCells_some (P := P) w i.size 0 a 0 c [] (by simp) (by simp)
    cases base <;> simp [Builtin.append_, run_underlying ht, run_underlying hu, sizeOf, typeInfo, hi, Builtin.lenOf, hle, hf, storeCells]
end append
theorem VRs.mem_take {l : List V} (h : ∀ v ∈ l, v.one = true) {m : List V} (h2 : ∀ v ∈ m, v.one = true) : ∀ v ∈ l ++ m, v.one = true := fun v hv => by
  rcases List.mem_append.1 hv with h3 | h3
  · exact h v h3
  · exact h2 v h3
theorem zero_len {t : TypeId} {l : List V} {i : TypeInfo} {z : Value} (hl : l = z.cells.toList.map cv0) (hs : l.length = i.size) : z.cells.size = i.size := by rw [← hs, hl]; simp
/-- growth: the block that an append makes -/
theorem grown_ok {S : St} (ok : SOK S) (hh : HRel ρ S w) (hn : ρ S.nx = none) {cs : List V} {us : List Value} (hc : VRs ρ cs us) (h1 : ∀ v ∈ cs, v.one = true) (z : Array Value) (e : TypeId) (need q sz fl : Nat) (hq : need ≤ q) (hu : us.length = need * sz) (hz : z.size = sz) :
    Post ρ fl S (S.new cs) w { w with heap := w.heap.push (.cells (us.toArray ++ Builtin.zeroCells z (q - need)) e), drawn := w.drawn + 1 } (ρ.up S.nx ⟨w.heap.size, 0, q * sz⟩) := by
  have hsz : (us.toArray ++ Builtin.zeroCells z (q - need)).size = q * sz := by
    simp [size_zeroCells, hu, hz, Nat.sub_mul]
    have := Nat.mul_le_mul_right sz hq
    omega
  rw [← hsz]
  refine new_post ok hh hn (fr := (0, 0)) rfl rfl rfl rfl (fun i _ h => by simp at h) (by have := hc.length; simp; omega) fun i v hv => ?_
  obtain ⟨u, h2, h3⟩ := hc.get hv
  have hlt : i < us.length := (List.getElem?_eq_some_iff.1 h2).1
  exact ⟨u, by rw [Array.getElem?_append_left (by simpa using hlt)]; simpa using h2, h3, h1 v (List.mem_of_getElem? hv)⟩
theorem add_at (b o n : Nat) : (⟨b, o, none⟩ : Addr).add n = ⟨b, o + n, none⟩ := by unfold Addr.add; split <;> simp_all
/-- the runs of an append of n > 0 elements -/
theorem app1_ok {t u ty e e2 : TypeId} {i : TypeInfo} {zv : Value} {z : List V} (ht : P.underlying t = some (.slice e)) (hu : P.underlying u = some (.slice e2)) (hi : P.info? e = some i) (hz : i.zero = some zv) (hzs : zv.cells.size = i.size) (hb : i.bytes ≤ 65536) (h0 : 0 < i.size)
    {S : St} (ok : SOK S) {x : V} {n : Nat} (hn : 0 < n) {new : List V} (hnl : new.length = n * i.size) {c : Cont} (h : app1 i.size n new x S c = some out) (hn30 : n ≤ 1073741824) :
    ∃ v S', c v S' = some out ∧ Abs S.fl S S' ∧ ∀ (ρ : Ren) (w : World) (xu : Value) (us : List Value) (a : Addr) (cp : Nat), VR ρ x xu → HRel ρ S w → Fresh ρ S.cnt S'.cnt → VRs ρ new us → (∀ v ∈ new, v.one = true) → (∀ j v, us[j]? = some v → w.cell? (a.add j) = some v) →
      ∃ r w' ρ', (Builtin.append_ #[t, u] ty #[xu, .slice (some a) n cp]).run P w = .ok r w' ∧ Post ρ S.fl S S' w w' ρ' ∧ VR ρ' v r := by
  have fresh : ∀ {ρ : Ren}, Fresh ρ S.cnt (S.cnt + 1) → ρ S.nx = none := fun hf => hf _ (by rw [ok.nx]; exact Nat.le_refl _) (by rw [ok.nx]; omega)
  have hnpos : 0 < n * i.size := Nat.mul_pos hn h0
  rcases vS4_some h with ⟨rfl, h2⟩ | ⟨id, off, len, cap, rfl, h2⟩ | ⟨id, off, len, cap, sz, rfl, h2⟩
  · rw [newK_eq] at h2
    refine ⟨_, _, h2, .new ok.le _ ok, fun ρ w xu us a cp hx hh hf hus h1 hcell => ?_⟩
    have e1 := hx.sn_inv; subst e1
    have hul : us.length = n * i.size := by rw [← hus.length, hnl]
    have hrun := run_app_grow (P := P) (ty := ty) (w := w) ht hu hi hz none 0 0 [] (by simp [Builtin.firstCells]) a n cp us hul hcell (by omega) (by omega) hb
    rw [Nat.zero_add] at hrun
    have hq : n ≤ grownCap w n 0 e := by have := grownCap_ge w n 0 e; omega
    refine ⟨_, _, _, hrun, grown_ok ok hh (fresh hf) hus h1 zv.cells e n _ i.size S.fl hq hul hzs, ?_⟩
    exact .so _ _ _ _ _ _ _ _ (Ren.up_same _ _ _) (Nat.le_refl _) hq (by simp) (fun _ => rfl)
  · cases hroom : Nat.ble (Nat.add len n) cap <;> rw [hroom] at h2
    · -- growth
      obtain ⟨b, hbk, h3, h4⟩ := elems_some (show elems i.size id off len S _ = some out from h2)
      rw [appK_eq, newK_eq, fN_eq] at h4
      obtain ⟨h5, h6⟩ := gu_some h4
      have hsm : len + n ≤ 1073741824 := Nat.le_of_ble_eq_true h5
      have hgr : cap < len + n := by
        rcases Nat.lt_or_ge cap (len + n) with h | h
        · exact h
        · have := Nat.ble_eq_true_of_le h; rw [show Nat.ble (len + n) cap = Nat.ble (Nat.add len n) cap from rfl, hroom] at this; cases this
      refine ⟨_, _, h6, .new ok.le _ ok, fun ρ w xu us a cp hx hh hf hus h1 hcell => ?_⟩
      have hul : us.length = n * i.size := by rw [← hus.length, hnl]
      cases hx with | sl _ _ _ _ o L hL hlc ho =>
      obtain ⟨os, g1, g2, g3, g4⟩ := load_cells ok hh hL hbk (off := off) (n := len * i.size) (o := o) h3 (fun hp => ho (by rcases Nat.eq_zero_or_pos len with h | h; rw [h] at hp; simp at hp; omega))
      have hrun := run_app_grow (P := P) (ty := ty) (w := w) ht hu hi hz (some ⟨L.b, o, none⟩) len cap os (run_firstCells_some w.drew i.size len _ _ _ os g2 (by simpa using g4)) a n cp us hul hcell hgr hsm hb
      have hq : len + n ≤ grownCap w (len + n) cap e := grownCap_ge w (len + n) cap e
      refine ⟨_, _, _, hrun, grown_ok ok hh (fresh hf) (g1.append hus) (VRs.mem_take g3 h1) zv.cells e (len + n) _ i.size S.fl hq (by simp [g2, hul, Nat.add_mul]) hzs, ?_⟩
      exact .so _ _ _ _ _ _ _ _ (Ren.up_same _ _ _) (Nat.le_refl _) hq (by simp) (fun _ => rfl)
    · -- room
      obtain ⟨b, hbk, hfl, h3, h4⟩ := updK_some (show updK id S (Nat.add off (Nat.mul len i.size)) new _ = some out from h2)
      rw [fN_eq] at h4
      have hr : len + n ≤ cap := Nat.le_of_ble_eq_true hroom
      refine ⟨_, _, h4, .upd ok hbk hfl (.inl rfl), fun ρ w xu us a cp hx hh hf hus h1 hcell => ?_⟩
      have hul : us.length = n * i.size := by rw [← hus.length, hnl]
      cases hx with | sl _ _ _ _ o L hL hlc ho =>
      obtain ⟨w', hst, hpost⟩ := store_post (P := P) ok hh hL hbk hfl (off := off + len * i.size) (o := o + len * i.size) hus h1 h3 (fun _ => by rw [ho (by omega)]; omega)
      have hrun := run_app_room (P := P) (ty := ty) (w := w) ht hu hi (some ⟨L.b, o, none⟩) len cap a n cp us hul hcell hr (w' := w') (fun b hb => by cases hb; rw [add_at]; exact hst) (by simp)
      exact ⟨_, _, ρ, hrun, hpost, .sl _ _ _ _ _ _ hL hr ho⟩
  · obtain ⟨hsz, h8⟩ := gu_some h2
    clear h2
    have hsz' : sz = i.size := Nat.eq_of_beq_eq_true hsz
    subst hsz'
    cases hroom : Nat.ble (Nat.add len n) cap <;> rw [hroom] at h8
    · obtain ⟨b, hbk, h3, h4⟩ := elems_some (show elems i.size id off len S _ = some out from h8)
      rw [appK_eq] at h4
      obtain ⟨b', hbk', hfl, h5⟩ := killK_some h4
      rw [hbk] at hbk'; cases hbk'
      rw [newK_eq, fN_eq] at h5
      obtain ⟨h6, h7⟩ := gu_some h5
      have hsm : len + n ≤ 1073741824 := Nat.le_of_ble_eq_true h6
      have hgr : cap < len + n := by
        rcases Nat.lt_or_ge cap (len + n) with h | h
        · exact h
        · have := Nat.ble_eq_true_of_le h; rw [show Nat.ble (len + n) cap = Nat.ble (Nat.add len n) cap from rfl, hroom] at this; cases this
      have ok1 : SOK (S.upd id ⟨0, []⟩) := ok.upd hbk (.inr ⟨rfl, rfl⟩)
      refine ⟨_, _, h7, (Abs.upd (b' := ⟨0, []⟩) ok hbk hfl (.inr ⟨rfl, rfl⟩)).trans (Abs.new (fl := S.fl) ok1.le _ ok1), fun ρ w xu us a cp hx hh hf hus h1 hcell => ?_⟩
      have hul : us.length = n * i.size := by rw [← hus.length, hnl]
      cases hx with | so _ _ _ _ _ o cc L hL hlc hcc hlsz ho =>
      obtain ⟨os, g1, g2, g3, g4⟩ := load_cells ok hh hL hbk (off := off) (n := len * i.size) (o := o) h3 (fun hp => ho (by rcases Nat.eq_zero_or_pos len with h | h; rw [h] at hp; simp at hp; omega))
      rcases Nat.lt_or_ge cc (len + n) with hlt | hge
      · have hrun := run_app_grow (P := P) (ty := ty) (w := w) ht hu hi hz (some ⟨L.b, o, none⟩) len cc os (run_firstCells_some w.drew i.size len _ _ _ os g2 (by simpa using g4)) a n cp us hul hcell hlt hsm hb
        have hq : len + n ≤ grownCap w (len + n) cc e := grownCap_ge w (len + n) cc e
        have p1 := kill_post (fl := S.fl) ok hh hbk
        have p2 := grown_ok (fl := S.fl) ok1 p1.heap (fresh hf) (g1.append hus) (VRs.mem_take g3 h1) zv.cells e (len + n) _ i.size hq (by simp [g2, hul, Nat.add_mul]) hzs
        refine ⟨_, _, _, hrun, Post.trans (S1 := S.upd id ⟨0, []⟩) (Nat.le_refl _) (Nat.le_succ _) p1 p2, ?_⟩
        exact .so _ _ _ _ _ _ _ _ (Ren.up_same _ _ _) (Nat.le_refl _) hq (by simp) (fun _ => rfl)
      · have hroom' : o + len * i.size + new.length ≤ L.sz := by
          have := Nat.mul_le_mul_right i.size hge
          rw [Nat.add_mul] at this; omega
        obtain ⟨w', hst, hpost⟩ := grow_post (P := P) ok hh hL (fresh hf) hbk hfl (off := off) (o := o) (n := len * i.size) hus h1 h3 (fun hp => ho (by rcases Nat.eq_zero_or_pos len with h | h; rw [h] at hp; simp at hp; omega)) hroom'
        have hrun := run_app_room (P := P) (ty := ty) (w := w) ht hu hi (some ⟨L.b, o, none⟩) len cc a n cp us hul hcell hge (w' := w') (fun b hb => by cases hb; rw [add_at]; exact hst) (by simp)
        refine ⟨_, _, _, hrun, hpost, ?_⟩
        exact .so _ _ _ _ _ _ _ ⟨L.b, o, L.sz⟩ (Ren.up_same _ _ _) (Nat.le_refl _) hge hlsz (fun _ => rfl)
    · obtain ⟨b, hbk, hfl, h3, h4⟩ := updK_some (show updK id S (Nat.add off (Nat.mul len i.size)) new _ = some out from h8)
      rw [fN_eq] at h4
      have hr : len + n ≤ cap := Nat.le_of_ble_eq_true hroom
      refine ⟨_, _, h4, .upd ok hbk hfl (.inl rfl), fun ρ w xu us a cp hx hh hf hus h1 hcell => ?_⟩
      have hul : us.length = n * i.size := by rw [← hus.length, hnl]
      cases hx with | so _ _ _ _ _ o cc L hL hlc hcc hlsz ho =>
      obtain ⟨w', hst, hpost⟩ := store_post (P := P) ok hh hL hbk hfl (off := off + len * i.size) (o := o + len * i.size) hus h1 h3 (fun _ => by rw [ho (by omega)]; omega)
      have hrun := run_app_room (P := P) (ty := ty) (w := w) ht hu hi (some ⟨L.b, o, none⟩) len cc a n cp us hul hcell (by omega) (w' := w') (fun b hb => by cases hb; rw [add_at]; exact hst) (by simp)
      exact ⟨_, _, ρ, hrun, hpost, .so _ _ _ _ _ _ _ _ hL hr hcc hlsz ho⟩
theorem denW_ok {o : Oper} {γ : Env} {S : St} {f : Sem3} (hf : denW P γ o.op = some f) (ok : SOK S) {c : Cont} (h : f S c = some out) :
    ∃ v S', c v S' = some out ∧ OpOK P o γ S.fl S v S' := by
  cases hop : o.op <;> rw [hop] at hf <;> try (cases hf; done)
  case store t x y =>
    simp only [denW] at hf
    cases hi : P.info? t with
    | none => rw [hi] at hf; cases hf
    | some i =>
      rw [hi] at hf; cases hf
      obtain ⟨id, off, hx, h1⟩ := vP_some (show vP (val γ x) (fun id o => cellsK (val γ y) (fun ys => lenL ys 0 (fun m => gu (Nat.beq m i.size) (updK id S o ys (fun S => c .u S))))) = some out from h)
      obtain ⟨ys, h2, hy⟩ := VRs.cells h1
      rw [lenL_zero] at h2
      obtain ⟨h3, h4⟩ := gu_some h2
      obtain ⟨b, hbk, hfl, h5, h6⟩ := updK_some h4
      have hlen : ys.length = i.size := Nat.eq_of_beq_eq_true h3
      refine ⟨_, _, h6, .upd ok hbk hfl (.inl rfl), fun ρ a w he hh hfr => ?_⟩
      have e0 := he.val x; rw [hx] at e0
      obtain ⟨L, hL, e1⟩ := e0.p_inv
      obtain ⟨g1, g2⟩ := hy ρ _ (he.val y)
      obtain ⟨w', hst, hpost⟩ := store_post (P := P) ok hh hL hbk hfl (off := off) (o := L.d + off) g1 g2 h5 (fun _ => rfl)
      refine ⟨undef, w', .inr ⟨?_, rfl⟩, ρ, hpost, .u⟩
      have hsz : ¬ ((a.eval y).cells.size ≠ i.size) := by have := g1.length; simp at this; omega
      simp only [execOp, hop, Instr.storeAt, e1, Instr.sureAddr, Sem.run_bind, Sem.run_pure, Result.andThen_ok, storeVar, run_size hi, hsz, if_false, hst]
  case call c0 =>
    obtain ⟨callee, args, argTypes⟩ := c0
    cases callee <;> try (cases hf; done)
    rename_i b
    cases b <;> try (cases hf; done)
    simp only [denW, denApp] at hf
    cases ha : argTypes.toList with
    | nil => rw [ha] at hf; cases hf
    | cons t ts =>
      cases ts with
      | nil => rw [ha] at hf; cases hf
      | cons u us =>
        cases us with
        | cons _ _ => rw [ha] at hf; cases hf
        | nil =>
          cases hx : args.toList with
          | nil => rw [ha, hx] at hf; cases hf
          | cons x xs =>
            cases xs with
            | nil => rw [ha, hx] at hf; cases hf
            | cons y ys =>
              cases ys with
              | cons _ _ => rw [ha, hx] at hf; cases hf
              | nil =>
                rw [ha, hx] at hf; simp only [List.map_cons, List.map_nil] at hf
                have ea : argTypes = #[t, u] := by apply Array.ext'; rw [ha]
                have ex : args = #[x, y] := by apply Array.ext'; rw [hx]
                subst ea ex
                cases hut : P.underlying t with
                | none => rw [hut] at hf; cases hf
                | some dt =>
                  cases huu : P.underlying u with
                  | none => rw [hut, huu] at hf; cases dt <;> cases hf
                  | some du =>
                    rw [hut, huu] at hf
                    cases dt <;> try (cases hf; done)
                    rename_i e
                    cases du <;> try (cases hf; done)
                    rename_i e2
                    simp only at hf
                    cases hi : P.info? e with
                    | none => rw [hi] at hf; cases hf
                    | some i =>
                      cases hz : zc P e with
                      | none => rw [hi, hz] at hf; cases hf
                      | some z =>
                        rw [hi, hz] at hf; simp only at hf
                        cases hc : (Nat.beq z.length i.size && Nat.ble i.bytes 65536 && Nat.blt 0 i.size) <;> rw [hc] at hf <;> simp only [cond_true, cond_false, reduceCtorEq, Option.some.injEq] at hf
                        subst hf
                        simp only [Bool.and_eq_true] at hc
                        obtain ⟨⟨c1, c2⟩, c3⟩ := hc
                        obtain ⟨i', zv, hi', hzv, hzl, _⟩ := zc_some hz
                        rw [hi] at hi'; cases hi'
                        have hzs : zv.cells.size = i.size := zero_len (t := e) (i := i) hzl (Nat.eq_of_beq_eq_true c1)
                        have hb := Nat.le_of_ble_eq_true c2
                        have h0 : 0 < i.size := Nat.le_of_ble_eq_true c3
                        have fin : ∀ {a : Act} {w w' : World} {r : Value}, (Builtin.append_ #[t, u] o.type #[a.eval x, a.eval y]).run P w = .ok r w' → (execOp a.eval o).run P w = .ok (.value r) w' := fun hr => by
                          simp only [execOp, hop, resolve, invoke, builtin, Sem.run_bind, Sem.run_pure, Result.andThen_ok, List.map_toArray, List.map_cons, List.map_nil, hr]
                        -- nothing appended
                        have none' : vS4 (val γ x) (c (val γ x) S) (fun _ _ _ _ => c (val γ x) S) (fun _ _ _ _ _ => c (val γ x) S) = some out → (∀ (ρ : Ren) (a : Act), EnvR ρ γ a → a.eval y = .slice none 0 0 ∨ ∃ b q, a.eval y = .slice (some b) 0 q) → ∃ v S', c v S' = some out ∧ OpOK P o γ S.fl S v S' := fun h hy => by
                          have key : c (val γ x) S = some out ∧ ∀ (ρ : Ren) (a : Act), EnvR ρ γ a → ∃ base len cap, a.eval x = .slice base len cap ∧ len ≤ cap := by
                            rcases vS4_some h with ⟨hx, h1⟩ | ⟨_, _, _, _, hx, h1⟩ | ⟨_, _, _, _, _, hx, h1⟩
                            · exact ⟨h1, fun ρ a he => by have e0 := he.val x; rw [hx] at e0; exact ⟨_, _, _, e0.sn_inv, Nat.le_refl _⟩⟩
                            · exact ⟨h1, fun ρ a he => by obtain ⟨L, o', q, _, e1, hq, _⟩ := (he.val x).sl_any (hx ▸ IsSl.sl ..); exact ⟨_, _, _, e1, hq⟩⟩
                            · exact ⟨h1, fun ρ a he => by obtain ⟨L, o', q, _, e1, hq, _⟩ := (he.val x).sl_any (hx ▸ IsSl.so ..); exact ⟨_, _, _, e1, hq⟩⟩
                          refine ⟨_, S, key.1, .refl _ _, fun ρ a w he hh hfr => ?_⟩
                          obtain ⟨base, len, cap, e1, hle⟩ := key.2 ρ a he
                          have hr := run_app_none (P := P) (w := w) (ty := o.type) hut huu hi base len cap hle (a.eval y) (hy ρ a he)
                          rw [← e1] at hr
                          exact .value (fin hr) ⟨ρ, .refl hh, he.val x⟩
                        rcases vLz_some h with ⟨hy, h1⟩ | ⟨id2, o2, n2, hsl, h1⟩
                        · exact none' h1 fun ρ a he => by have e0 := he.val y; rw [hy] at e0; exact .inl e0.sn_inv
                        · obtain ⟨h2, h3⟩ := gu_some h1
                          have hn30 := Nat.le_of_ble_eq_true h2
                          cases n2 with
                          | zero => exact none' h3 fun ρ a he => by obtain ⟨L, o', q, _, e1, _⟩ := (he.val y).sl_any hsl; exact .inr ⟨_, _, e1⟩
                          | succ n2 =>
                            obtain ⟨b, hbk, h4, h5⟩ := elems_some (show elems i.size id2 o2 (n2 + 1) S (fun new => app1 i.size (n2 + 1) new (val γ x) S c) = some out from h3)
                            obtain ⟨v, S', h6, habs, hr⟩ := app1_ok (P := P) (ty := o.type) (z := z) hut huu hi hzv hzs hb h0 ok (Nat.succ_pos n2) (by simp; omega) h5 hn30
                            refine ⟨v, S', h6, habs, fun ρ a w he hh hfr => ?_⟩
                            obtain ⟨L, o', q, hL, e1, hq, ho⟩ := (he.val y).sl_any hsl
                            obtain ⟨us, g1, g2, g3, g4⟩ := load_cells ok hh hL hbk (off := o2) (n := (n2 + 1) * i.size) (o := o') h4 (fun _ => ho (Nat.succ_pos _))
                            obtain ⟨r, w', ρ', k1, k2, k3⟩ := hr ρ w (a.eval x) us ⟨L.b, o', none⟩ q (he.val x) hh hfr g1 g3 g4
                            rw [← e1] at k1
                            exact .value (fin k1) ⟨ρ', k2, k3⟩
end Go.AM
