/- A region that draws its order: the theorem. -/
import Derived.Test.YtpendgpnikmohaaGreatX17
namespace Go.AM
set_option linter.unusedVariables false
set_option linter.unusedSimpArgs false
variable {out : V × St} {P : Program} {all : List Oper} {G : Nat → Env} {T : Nat → St} {vv : Nat → V} {cx : Cx}
theorem pure_not_writer {o : Op} (h : pureOp o = true) : writerOp o = false := by
  cases o <;> try (first | rfl | (cases h; done))
  rename_i c
  obtain ⟨callee, as, ts⟩ := c
  cases callee <;> try (first | rfl | (cases h; done))
  rename_i b
  cases b <;> first | rfl | (cases h; done)
theorem least {p : Nat → Prop} : ∀ n, p n → ∃ m, m ≤ n ∧ p m ∧ ∀ k, k < m → ¬ p k := by
  intro n
  induction n using Nat.strongRecOn with
  | _ n ih =>
    intro h
    by_cases hk : ∃ k, k < n ∧ p k
    · obtain ⟨k, h1, h2⟩ := hk
      obtain ⟨m, h3, h4⟩ := ih k h1 h2
      exact ⟨m, by omega, h4⟩
    · exact ⟨n, Nat.le_refl _, h, fun k h1 h2 => hk ⟨k, h1, h2⟩⟩
theorem at_ex (ls : Array Bool) : ∃ ν, At all ls ν := by
  by_cases h : ∃ ν, ∃ o, all[ν]? = some o ∧ writerOp o.op = true ∧ ¬ Ls ls ν
  · obtain ⟨n, hn⟩ := h
    obtain ⟨m, _, ⟨o, h1, h2, h3⟩, h4⟩ := least (p := fun ν => ∃ o, all[ν]? = some o ∧ writerOp o.op = true ∧ ¬ Ls ls ν) n hn
    refine ⟨m, Nat.le_of_lt (List.getElem?_eq_some_iff.1 h1).1, fun k q hq hk hw => ?_, fun q hq => ?_⟩
    · by_cases hl : Ls ls k
      · exact hl
      · exact absurd ⟨q, hq, hw, hl⟩ (h4 k hk)
    · rw [h1] at hq; cases hq; exact ⟨h2, h3⟩
  · refine ⟨all.length, Nat.le_refl _, fun k q hq hk hw => ?_, fun q hq => ?_⟩
    · by_cases hl : Ls ls k
      · exact hl
      · exact absurd ⟨k, q, hq, hw, hl⟩ h
    · rw [List.getElem?_eq_none (Nat.le_refl _)] at hq; cases hq
theorem Lx.born (X : Lx P all G T vv) {i x : Nat} : ∀ m, i ≤ m → m ≤ all.length → (T i).cnt ≤ x → x < (T m).cnt → ∃ k, i ≤ k ∧ k < m ∧ (T k).cnt ≤ x ∧ x < (T (k + 1)).cnt
  | 0, h, _, h1, h2 => by have : i = 0 := by omega
                          subst this; omega
  | m + 1, h, hm, h1, h2 => by
    rcases Nat.eq_or_lt_of_le h with h3 | h3
    · subst h3; omega
    · rcases Nat.lt_or_ge x (T m).cnt with h4 | h4
      · obtain ⟨k, a, b, c⟩ := X.born m (by omega) (by omega) h1 h4
        exact ⟨k, a, by omega, c⟩
      · exact ⟨m, by omega, by omega, h4, h2⟩
theorem Lx.abs (X : Lx P all G T vv) : ∀ m, m ≤ all.length → Abs (T 0).fl (T 0) (T m)
  | 0, _ => .refl _ _
  | m + 1, h => by
    obtain ⟨o, ho⟩ := Lx.get (all := all) (j := m) (by omega)
    have hc := (X.step m o ho).abs
    have hm := X.abs m (by omega)
    refine hm.trans (hc.mono ?_)
    cases true && !writerOp o.op
    · show (T 0).fl ≤ (T m).fl; rw [hm.fl_]; exact Nat.le_refl _
    · show (T 0).fl ≤ (T m).cnt; have := (X.ok m (by omega)).le; rw [hm.fl_] at this; exact this
section step
variable {ρ0 ρ : Ren} {a0 a : Act} {w0 w : World} {ls : Array Bool} {Q : Exit → Act → World → Prop}
theorem Inv.one (X : Lx P all G T vv) (I : Inv P all G T vv ρ0 a0 w0 ls ρ a w) (hdb : DB a0.tmps.size all) {j : Nat} {o : Oper} (ho : all[j]? = some o) (hn : ¬ Ls ls j) (hj : ∀ k, Dir all k j → Ls ls k) :
    SRuns P all.toArray o a w fun u w' => ∃ ρ', Inv P all G T vv ρ0 a0 w0 (ls.setIfInBounds j true) ρ' (a.put o.dst u) w' := by
  have hjl : j < all.length := (List.getElem?_eq_some_iff.1 ho).1
  have hjs : j < ls.size := by rw [I.size]; exact hjl
  have hfr : Fresh ρ (T j).cnt (T (j + 1)).cnt := fun id a b => I.unb j hjl hn id a b
  have he := I.envR X ho hn hj
  have hd : ∀ d, o.dst = some d → d < a.tmps.size := fun d e => by rw [I.tsize]; exact hdb o (List.mem_of_getElem? ho) d e
  have hflj := X.fl j (by omega)
  have okj := X.ok j (by omega)
  have SR : ∀ {T1 T2 : Value → World → Prop}, SRuns P all.toArray o a w T1 → (∀ u w', T1 u w' → T2 u w') → SRuns P all.toArray o a w T2 := fun {T1 T2} h hT => by
    unfold SRuns at h ⊢
    split at h
    · rename_i hw; rw [if_pos hw]; exact h.mono hT
    · rename_i hw; rw [if_neg hw]; exact hT _ _ h
  cases hp : pureOp o.op
  · -- memory
    obtain ⟨ha, hr⟩ := (X.step j o ho).2 hp
    obtain ⟨ν, hν⟩ := at_ex (all := all) ls
    cases hw : writerOp o.op
    · -- quiet
      rw [hw] at ha hr
      simp only [Bool.not_false, Bool.and_self, cond_true] at ha hr
      have seg : ∀ ν, At all ls ν → j < ν ∧ ∀ k q, j ≤ k → k < ν → all[k]? = some q → writerOp q.op = false := fun ν hν => by
        have h1 : j < ν := by
          rcases Nat.lt_or_ge j ν with h | h
          · exact h
          · obtain ⟨q, hq⟩ := Lx.get (all := all) (j := ν) (by omega)
            obtain ⟨h2, h3⟩ := hν.2.2 q hq
            rcases Nat.eq_or_lt_of_le h with h4 | h4
            · subst h4; rw [ho] at hq; cases hq; rw [hw] at h2; cases h2
            · exact absurd (I.pres ((X.chk.wr j ν o q ho hq h2 hp (by omega)).2 h4) hj) h3
        refine ⟨h1, fun k q hk hkν hq => ?_⟩
        cases hqw : writerOp q.op
        · rfl
        · rcases Nat.eq_or_lt_of_le hk with h4 | h4
          · subst h4; rw [ho] at hq; cases hq; rw [hw] at hqw; cases hqw
          · exact absurd (I.pre ((X.chk.wr j k o q ho hq hqw hp (by omega)).1 h4) (hν.2.1 k q hq hkν hqw)) hn
      obtain ⟨hlt, hno⟩ := seg ν hν
      have H := I.heap ν hν
      have hsg0 := X.seg (i := j) ν (by omega) hν.1 hno
      have Hj : HRel ρ (T j) w := by
        refine ⟨H.at_, fun id L b hL hb h0 => H.cells id L b hL ?_ h0, fun id id' L L' b b' hL hL' hb hb' h0 h0' hee => H.inj id id' L L' b b' hL hL' ?_ ?_ h0 h0' hee⟩
        · rw [hsg0 id (okj.blk id b hb).1]; exact hb
        · rw [hsg0 id (okj.blk id b hb).1]; exact hb
        · rw [hsg0 id' (okj.blk id' b' hb').1]; exact hb'
      refine SR (hr ρ a w he Hj hfr) fun u w' ⟨ρ', p, hv⟩ => ⟨ρ', I.step X ho hn hj hd (by rw [← hflj]; exact okj.le) p.p0 hv ?_⟩
      refine I.quiet X ho hn hj hw p fun ν hν => ?_
      obtain ⟨h1, h2⟩ := seg ν hν
      exact ⟨h1, X.seg (i := j + 1) ν (by omega) hν.1 fun k q hk hkν hq => h2 k q (by omega) hkν hq⟩
    · -- writer
      rw [hw] at ha hr
      simp only [Bool.not_true, Bool.and_false, cond_false] at ha hr
      have hjν : ν = j := by
        rcases Nat.lt_or_ge j ν with h | h
        · exact absurd (hν.2.1 j o ho h hw) hn
        · rcases Nat.eq_or_lt_of_le h with h4 | h4
          · exact h4
          · obtain ⟨q, hq⟩ := Lx.get (all := all) (j := ν) (by omega)
            obtain ⟨h2, h3⟩ := hν.2.2 q hq
            exact absurd (I.pres ((X.chk.wr j ν o q ho hq h2 hp (by omega)).2 h4) hj) h3
      subst hjν
      have H := I.heap ν hν
      refine SR (hr ρ a w he H hfr) fun u w' ⟨ρ', p, hv⟩ => ⟨ρ', I.step X ho hn hj hd (by rw [← hflj]; exact Nat.le_refl _) p.p0 hv ?_⟩
      intro μ hμ
      have h1 : ν < μ := by
        rcases Nat.lt_or_ge ν μ with h | h
        · exact h
        · obtain ⟨q, hq⟩ := Lx.get (all := all) (j := μ) (by omega)
          obtain ⟨h2, h3⟩ := hμ.2.2 q hq
          rcases Nat.eq_or_lt_of_le h with h4 | h4
          · exact absurd ((Ls.set hjs).2 (.inl h4)) h3
          · exact absurd ((Ls.set hjs).2 (.inr (hν.2.1 μ q hq h4 h2))) h3
      have hno : ∀ k q, ν + 1 ≤ k → k < μ → all[k]? = some q → writerOp q.op = false := fun k q hk hkμ hq => by
        cases hqw : writerOp q.op
        · rfl
        · rcases (Ls.set hjs).1 (hμ.2.1 k q hq hkμ hqw) with h4 | h4
          · omega
          · exact absurd (I.pre ((X.chk.wr ν k o q ho hq hqw hp (by omega)).1 (by omega)) h4) hn
      have hsg := X.seg (i := ν + 1) μ (by omega) hμ.1 hno
      have okμ := X.ok μ hμ.1
      have young : ∀ (id : Pos) (L : Loc) (b : Blk), ρ' id = some L → (T μ).h.get id = some b → id.num < (T (ν + 1)).cnt := fun id L b hL hb => by
        rcases Nat.lt_or_ge id.num (T (ν + 1)).cnt with h | h
        · exact h
        · obtain ⟨k, k1, k2, k3, k4⟩ := X.born (i := ν + 1) μ (by omega) hμ.1 h (okμ.blk id b hb).1
          obtain ⟨q, hq⟩ := Lx.get (all := all) (j := k) (by have := hμ.1; omega)
          have hqp : pureOp q.op = false := by
            cases hqp : pureOp q.op
            · rfl
            · have := ((X.step k q hq).1 hqp).1; rw [this] at k4; omega
          have hnk : ¬ Ls ls k := fun hl => hn (I.pre ((X.chk.wr k ν q o hq ho hw hqp (by omega)).2 (by omega)) hl)
          have := I.unb k (by have := hμ.1; omega) hnk id k3 k4
          rw [p.ext id (.inr h), this] at hL; cases hL
      refine ⟨p.heap.at_, fun id L b hL hb h0 => ?_, fun id id' L L' b b' hL hL' hb hb' h0 h0' hee => ?_⟩
      · have h := young id L b hL hb
        rw [hsg id h] at hb; exact p.heap.cells id L b hL hb h0
      · have h := young id L b hL hb
        have h' := young id' L' b' hL' hb'
        rw [hsg id h] at hb; rw [hsg id' h'] at hb'
        exact p.heap.inj id id' L L' b b' hL hL' hb hb' h0 h0' hee
  · obtain ⟨e1, hs⟩ := (X.step j o ho).1 hp
    refine SR (hs ρ a w he) fun u w' ⟨e2, hv⟩ => ?_
    subst e2
    refine ⟨ρ, I.step X ho hn hj hd (fl := (T 0).fl) (Nat.le_refl _) (by rw [e1]; exact .refl) hv fun ν hν => I.heap ν ?_⟩
    refine ⟨hν.1, fun k q hq hk hqw => ?_, fun q hq => ⟨(hν.2.2 q hq).1, fun h => (hν.2.2 q hq).2 ((Ls.set hjs).2 (.inr h))⟩⟩
    rcases (Ls.set hjs).1 (hν.2.1 k q hq hk hqw) with e | e
    · subst e; rw [ho] at hq; cases hq; rw [pure_not_writer hp] at hqw; cases hqw
    · exact e
theorem any_ok (X : Lx P all G T vv) (hdb : DB a0.tmps.size all) (hQ : ∀ a' w' ρ' ls', Inv P all G T vv ρ0 a0 w0 ls' ρ' a' w' → (∀ j, j < all.length → Ls ls' j) → Q .normal a' w') :
    ∀ (fuel : Nat) (ls : Array Bool) (ρ : Ren) (a : Act) (w : World), Inv P all G T vv ρ0 a0 w0 ls ρ a w → ls.toList.count false ≤ fuel → wpAny P .any all.toArray Q fuel ls a w := by
  have nil : ∀ (ls : Array Bool) (ρ : Ren) (a : Act) (w : World), Inv P all G T vv ρ0 a0 w0 ls ρ a w → Region.ready .any all.toArray ls = [] → ∀ j, j < all.length → Ls ls j := fun ls ρ a w I hr j hj => by
    by_cases hl : Ls ls j
    · exact hl
    · obtain ⟨m, hm, ⟨h1, h2⟩, h3⟩ := least (p := fun j => j < all.length ∧ ¬ Ls ls j) j ⟨hj, hl⟩
      obtain ⟨o, ho⟩ := Lx.get (all := all) (j := m) h1
      have : m ∈ Region.ready .any all.toArray ls := by
        refine mem_ready.2 ⟨?_, o, by simpa using ho, fun e he hb => ?_⟩
        · have hs : m < ls.size := by rw [I.size]; exact h1
          unfold Ls at h2
          simp only [Array.getD_eq_getD_getElem?, Array.getElem?_eq_getElem hs, Option.getD_some] at h2 ⊢
          simpa using h2
        · have hd : Dir all e.on m := ⟨o, e, ho, by simpa using he, hb, rfl⟩
          have hlt := X.chk.back _ _ hd
          by_cases hl : Ls ls e.on
          · exact hl
          · exact absurd ⟨by omega, hl⟩ (h3 e.on hlt)
      rw [hr] at this; cases this
  intro fuel
  induction fuel with
  | zero =>
    intro ls ρ a w I hc
    have all' : ∀ j, j < all.length → Ls ls j := fun j hj => by
      by_cases hl : Ls ls j
      · exact hl
      · have hs : j < ls.size := by rw [I.size]; exact hj
        have hm : false ∈ ls.toList := by
          have : ls[j] = false := by
            unfold Ls at hl
            simp only [Array.getD_eq_getD_getElem?, Array.getElem?_eq_getElem hs, Option.getD_some] at hl
            simpa using hl
          rw [← this]; simp
        have := List.count_pos_iff.2 hm
        omega
    refine ⟨?_, hQ a w ρ ls I all'⟩
    apply List.eq_nil_iff_forall_not_mem.2
    intro i hi
    obtain ⟨h1, o, h2, _⟩ := mem_ready.1 hi
    have hil : i < all.length := by simpa using (Array.getElem?_eq_some_iff.1 h2).1
    have hs : i < ls.size := by rw [I.size]; exact hil
    have := all' i hil
    unfold Ls at this
    simp only [Array.getD_eq_getD_getElem?, Array.getElem?_eq_getElem hs, Option.getD_some] at this h1
    rw [this] at h1; cases h1
  | succ fuel ih =>
    intro ls ρ a w I hc
    refine ⟨fun hr => hQ a w ρ ls I (nil ls ρ a w I hr), fun i hi => ?_⟩
    obtain ⟨h1, o, h2, h3⟩ := mem_ready.1 hi
    have ho : all[i]? = some o := by simpa using h2
    have hil : i < all.length := (List.getElem?_eq_some_iff.1 ho).1
    have hs : i < ls.size := by rw [I.size]; exact hil
    have hfalse : ls[i] = false := by simpa [Array.getD_eq_getD_getElem?, Array.getElem?_eq_getElem hs] using h1
    have hn : ¬ Ls ls i := fun hl => by
      unfold Ls at hl
      simp only [Array.getD_eq_getD_getElem?, Array.getElem?_eq_getElem hs, Option.getD_some] at hl
      rw [hfalse] at hl; cases hl
    have hj : ∀ k, Dir all k i → Ls ls k := fun k ⟨p, e, hp, he, hb, hk⟩ => by
      rw [ho] at hp; cases hp
      rw [← hk]; exact h3 e (by simpa using he) hb
    have hcnt : (ls.setIfInBounds i true).toList.count false ≤ fuel := by
      have hsl : i < ls.toList.length := by simpa using hs
      rw [Array.toList_setIfInBounds, List.count_set hsl]
      have e1 : ls.toList[i] = false := by simpa using hfalse
      have hpos : 0 < ls.toList.count false := List.count_pos_iff.2 (by rw [← e1]; simp)
      rw [e1, if_pos (by rfl), if_neg (by decide)]; omega
    have hrun := I.one X hdb ho hn hj
    unfold wpOp
    rw [h2]; simp only
    unfold SRuns at hrun
    split
    · rename_i hw; rw [if_pos hw] at hrun
      exact .inl (hrun.wp fun u w' ⟨ρ', I'⟩ => ih _ ρ' _ w' I' hcnt)
    · rename_i hw; rw [if_neg hw] at hrun
      obtain ⟨ρ', I'⟩ := hrun
      exact ih _ ρ' _ w I' hcnt
end step
theorem den_draw (hcx : cx.OK P) {all : List Oper} (hchk : okDraw all = true) {γ : Env} {S : St} {k : Env → St → R} (h : den P cx true all all γ S k = some out) (ok : SOK S) :
    ∃ γ' S', k γ' S' = some out ∧ Abs S.fl S S' ∧ ∀ (ρ : Ren) (a : Act) (w : World), EnvR ρ γ a → HRel ρ S w → Fresh ρ S.cnt S'.cnt → DB a.tmps.size all → ∀ Q : Exit → Act → World → Prop,
      (∀ a' w' ρ', Post ρ S.fl S S' w w' ρ' → EnvR ρ' γ' a' → a'.defers = a.defers → a'.tmps.size = a.tmps.size → Q .normal a' w') → wpAny P .any all.toArray Q all.length (Array.replicate all.length false) a w := by
  obtain ⟨G, T, vv, rfl, rfl, hk, hs⟩ := den_lx hcx all γ S k h ok
  have X : Lx P all G T vv := ⟨ok, fun j o ho => (hs j o ho).1, fun j o ho => (hs j o ho).2, okDraw_ok hchk⟩
  refine ⟨_, _, hk, X.abs _ (Nat.le_refl _), fun ρ a w he hh hf hd Q hQ => ?_⟩
  have hno : ∀ j, ¬ Ls (Array.replicate all.length false) j := fun j hl => by
    unfold Ls at hl
    rw [Array.getD_eq_getD_getElem?, Array.getElem?_replicate] at hl
    split at hl <;> simp at hl
  have I0 : Inv P all G T vv ρ a w (Array.replicate all.length false) ρ a w := by
    refine { size := by simp, closed := fun i j _ h => absurd h (hno j), env1 := fun j o t _ _ h => absurd h (hno j), env0 := fun t _ => he t, heap := fun ν hν => ?_, unb := fun j hj _ id h1 h2 => ?_, ext := fun _ _ => rfl, mono := fun _ _ h => h, os := rfl, tape := rfl, output := rfl, wsize := Nat.le_refl _, frame := fun _ _ _ => rfl, new := fun id L h1 h2 hL => ?_, defers := rfl, tsize := rfl }
    · have hsg := X.seg (i := 0) ν (Nat.zero_le _) hν.1 fun k q _ hk hq => by
        cases hw : writerOp q.op
        · rfl
        · exact absurd (hν.2.1 k q hq hk hw) (hno k)
      have okν := X.ok ν hν.1
      have young : ∀ (id : Pos) (L : Loc) (b : Blk), ρ id = some L → (T ν).h.get id = some b → id.num < (T 0).cnt := fun id L b hL hb => by
        rcases Nat.lt_or_ge id.num (T 0).cnt with h | h
        · exact h
        · have h2 := (okν.blk id b hb).1
          have := X.cnt all.length (i := ν) hν.1 (Nat.le_refl _)
          rw [hf id h (by omega)] at hL; cases hL
      refine ⟨hh.at_, fun id L b hL hb h0 => ?_, fun id id' L L' b b' hL hL' hb hb' h0 h0' hee => ?_⟩
      · rw [hsg id (young id L b hL hb)] at hb; exact hh.cells id L b hL hb h0
      · rw [hsg id (young id L b hL hb)] at hb; rw [hsg id' (young id' L' b' hL' hb')] at hb'
        exact hh.inj id id' L L' b b' hL hL' hb hb' h0 h0' hee
    · have a1 := X.cnt j (i := 0) (Nat.zero_le _) (by omega)
      have a2 := X.cnt all.length (i := j + 1) (by omega) (Nat.le_refl _)
      exact hf id (by omega) (by omega)
    · rw [hf id h1 h2] at hL; cases hL
  refine any_ok X hd ?_ all.length _ ρ a w I0 (by simp)
  intro a' w' ρ' ls' I hall
  refine hQ a' w' ρ' ⟨I.ext, I.heap all.length ⟨Nat.le_refl _, fun k q hq hk _ => hall k hk, fun q hq => by rw [List.getElem?_eq_none (Nat.le_refl _)] at hq; cases hq⟩, I.os, I.tape, I.output, I.wsize, I.frame, I.new⟩ (fun t => ?_) I.defers I.tsize
  by_cases hdt : ∃ (i : Nat) (p : Oper), all[i]? = some p ∧ p.dst = some t
  · obtain ⟨i, p, hp, hpt⟩ := hdt
    have hil : i < all.length := (List.getElem?_eq_some_iff.1 hp).1
    rw [X.look_new hp hpt all.length hil (Nat.le_refl _)]
    exact I.env1 i p t hp hpt (hall i hil)
  · rw [X.look_old all.length (Nat.le_refl _) (fun i p _ hp e => hdt ⟨i, p, hp, e⟩)]
    exact I.env0 t fun j p hp e => absurd ⟨j, p, hp, e⟩ hdt
end Go.AM
