/- A region that draws its order: whatever order is drawn, the memory is as after the region's own order, up to names. -/
import Derived.Test.YtpendgpnikmohaaGreatX15
namespace Go.AM
set_option linter.unusedVariables false
set_option linter.unusedSimpArgs false
variable {out : V × St} {P : Program} {ρ : Ren} {w : World} {cx : Cx}
/-- j waits for i -/
def Dir (all : List Oper) (i j : Nat) : Prop := ∃ o e, all[j]? = some o ∧ e ∈ o.after.toList ∧ Region.binds .any e = true ∧ e.on = i
inductive Pre (all : List Oper) : Nat → Nat → Prop
  | one {i j : Nat} : Dir all i j → Pre all i j
  | more {i k j : Nat} : Pre all i k → Dir all k j → Pre all i j
def maskOf (acc : List Nat) : List Edge → Nat → Nat
  | [], s => s
  | e :: r, s => maskOf acc r (cond (Region.binds .any e) (Nat.lor (Nat.lor s (2 ^ e.on)) (acc.getD e.on 0)) s)
def masks : List Oper → List Nat → List Nat
  | [], acc => acc
  | o :: r, acc => masks r (acc ++ [maskOf acc o.after.toList 0])
theorem maskOf_ok {all : List Oper} {acc : List Nat} {j : Nat} (hacc : ∀ k i, (acc.getD k 0).testBit i = true → Pre all i k) : ∀ (es : List Edge) (s : Nat), (∀ e ∈ es, Region.binds .any e = true → Dir all e.on j) → (∀ i, s.testBit i = true → Pre all i j) → ∀ i, (maskOf acc es s).testBit i = true → Pre all i j
  | [], s, _, hs, i, h => hs i h
  | e :: r, s, he, hs, i, h => by
    refine maskOf_ok hacc r _ (fun e' h' => he e' (List.mem_cons_of_mem _ h')) ?_ i h
    intro i h
    cases hb : Region.binds .any e <;> rw [hb] at h
    · exact hs i h
    · have h' : ((s ||| 2 ^ e.on) ||| acc.getD e.on 0).testBit i = true := h
      rw [Nat.testBit_or, Nat.testBit_or, Bool.or_eq_true, Bool.or_eq_true] at h'
      have hd := he e (List.mem_cons_self ..) hb
      rcases h' with (h1 | h1) | h1
      · exact hs i h1
      · rw [Nat.testBit_two_pow] at h1; have := of_decide_eq_true h1; subst this; exact .one hd
      · exact .more (hacc _ _ h1) hd
theorem masks_ok {all : List Oper} : ∀ (l : List Oper) (acc : List Nat) (done : List Oper), all = done ++ l → done.length = acc.length → (∀ k i, (acc.getD k 0).testBit i = true → Pre all i k) → ∀ k i, ((masks l acc).getD k 0).testBit i = true → Pre all i k
  | [], acc, done, _, _, h => h
  | o :: r, acc, done, ha, hl, h => by
    refine masks_ok r (acc ++ [maskOf acc o.after.toList 0]) (done ++ [o]) (by rw [ha]; simp) (by simp [hl]) ?_
    intro k i hk
    rcases Nat.lt_or_ge k acc.length with h1 | h1
    · rw [List.getD_eq_getElem?_getD, List.getElem?_append_left h1, ← List.getD_eq_getElem?_getD] at hk; exact h k i hk
    · rcases Nat.eq_or_lt_of_le h1 with h2 | h2
      · subst h2
        rw [List.getD_eq_getElem?_getD, List.getElem?_append_right (Nat.le_refl _), Nat.sub_self] at hk
        refine maskOf_ok h o.after.toList 0 (fun e he hb => ⟨o, e, ?_, he, hb, rfl⟩) (fun i hi => by simp at hi) i hk
        rw [ha, ← hl, List.getElem?_append_right (Nat.le_refl _), Nat.sub_self]; rfl
      · rw [List.getD_eq_getElem?_getD, List.getElem?_eq_none (by simp; omega)] at hk; simp at hk
def pairOk (all : List Oper) (ms : List Nat) (o : Oper) (j : Nat) (p : Oper) (i : Nat) : Bool :=
  (Nat.beq i j || (match p.dst, o.dst with | some d, some e => !Nat.beq d e | _, _ => true)) &&
  ((match p.dst with | some t => !(looks all o).contains t | none => true) || (cond (Nat.blt i j) ((ms.getD j 0).testBit i) (Nat.beq i j || (ms.getD i 0).testBit j))) &&
  (!(writerOp o.op && !pureOp p.op) || Nat.beq i j || (cond (Nat.blt i j) ((ms.getD j 0).testBit i) ((ms.getD i 0).testBit j)))
def okRow (all : List Oper) (ms : List Nat) (o : Oper) (j : Nat) : List Oper → Nat → Bool
  | [], _ => true
  | p :: r, i => pairOk all ms o j p i && okRow all ms o j r (i + 1)
def okRows (all : List Oper) (ms : List Nat) : List Oper → Nat → Bool
  | [], _ => true
  | o :: r, j => (o.after.toList.all fun e => !Region.binds .any e || Nat.blt e.on j) && okRow all ms o j all 0 && okRows all ms r (j + 1)
/-- the order may be drawn -/
def okDraw (all : List Oper) : Bool := okRows all (masks all []) all 0
theorem okRow_get {all : List Oper} {ms : List Nat} {o : Oper} {j : Nat} : ∀ (l : List Oper) (i0 : Nat), okRow all ms o j l i0 = true → ∀ i p, l[i]? = some p → pairOk all ms o j p (i0 + i) = true
  | [], _, _, i, p, h => by simp at h
  | q :: r, i0, h, 0, p, hp => by simp only [okRow, Bool.and_eq_true] at h; simp at hp; subst hp; exact h.1
  | q :: r, i0, h, i + 1, p, hp => by
    simp only [okRow, Bool.and_eq_true] at h
    have := okRow_get r (i0 + 1) h.2 i p (by simpa using hp)
    rwa [show i0 + 1 + i = i0 + (i + 1) by omega] at this
theorem okRows_get {all : List Oper} {ms : List Nat} : ∀ (l : List Oper) (j0 : Nat), okRows all ms l j0 = true → ∀ j o, l[j]? = some o → (o.after.toList.all fun e => !Region.binds .any e || Nat.blt e.on (j0 + j)) = true ∧ okRow all ms o (j0 + j) all 0 = true
  | [], _, _, j, o, h => by simp at h
  | q :: r, j0, h, 0, o, ho => by simp only [okRows, Bool.and_eq_true] at h; simp at ho; subst ho; exact h.1
  | q :: r, j0, h, j + 1, o, ho => by
    simp only [okRows, Bool.and_eq_true] at h
    have := okRows_get r (j0 + 1) h.2 j o (by simpa using ho)
    rwa [show j0 + 1 + j = j0 + (j + 1) by omega] at this
structure DrawOK (all : List Oper) : Prop where
  back : ∀ i j, Dir all i j → i < j
  dist : ∀ (i j : Nat) (p o : Oper) (d : Nat), all[i]? = some p → all[j]? = some o → p.dst = some d → o.dst = some d → i = j
  look : ∀ (i j : Nat) (p o : Oper) (t : Nat), all[i]? = some p → all[j]? = some o → p.dst = some t → t ∈ looks all o → (i < j ∧ Pre all i j) ∨ (j ≤ i ∧ (i = j ∨ Pre all j i))
  wr : ∀ (i j : Nat) (p o : Oper), all[i]? = some p → all[j]? = some o → writerOp o.op = true → pureOp p.op = false → i ≠ j → (i < j → Pre all i j) ∧ (j < i → Pre all j i)
theorem blt_lt {a b : Nat} (h : Nat.blt a b = true) : a < b := Nat.le_of_ble_eq_true h
theorem okDraw_ok {all : List Oper} (h : okDraw all = true) : DrawOK all := by
  have hm := masks_ok all [] [] rfl rfl (fun k i hk => by simp at hk)
  have row : ∀ j o, all[j]? = some o → (o.after.toList.all fun e => !Region.binds .any e || Nat.blt e.on j) = true ∧ ∀ i p, all[i]? = some p → pairOk all (masks all []) o j p i = true := fun j o ho => by
    obtain ⟨h1, h2⟩ := okRows_get all 0 h j o ho
    rw [Nat.zero_add] at h1 h2
    exact ⟨h1, fun i p hp => by have := okRow_get all 0 h2 i p hp; rwa [Nat.zero_add] at this⟩
  have pr : ∀ {i j : Nat} {p o : Oper}, all[i]? = some p → all[j]? = some o → pairOk all (masks all []) o j p i = true := fun {i j p o} hp ho => (row j o ho).2 i p hp
  refine ⟨fun i j ⟨o, e, ho, he, hb, hi⟩ => ?_, fun i j p o d hp ho hd hd' => ?_, fun i j p o t hp ho hd ht => ?_, fun i j p o hp ho hw hpp hne => ?_⟩
  · have := List.all_eq_true.1 (row j o ho).1 e he
    rw [hb] at this
    rw [← hi]; exact blt_lt (by simpa using this)
  · have h1 := pr hp ho
    simp only [pairOk, Bool.and_eq_true] at h1
    have h2 := h1.1.1
    rw [hd, hd'] at h2
    simp only [Bool.or_eq_true, Nat.beq_refl, Bool.not_true, Bool.false_eq_true, or_false] at h2
    exact Nat.eq_of_beq_eq_true h2
  · have h1 := pr hp ho
    simp only [pairOk, Bool.and_eq_true] at h1
    have h2 := h1.1.2
    rw [hd] at h2
    have hc : (looks all o).contains t = true := by simpa using ht
    simp only [hc, Bool.not_true, Bool.false_or] at h2
    cases hq : Nat.blt i j
    · rw [hq] at h2
      simp only [cond_false, Bool.or_eq_true] at h2
      have hle : j ≤ i := by rcases Nat.lt_or_ge i j with h | h; rw [show Nat.blt i j = true from Nat.ble_eq_true_of_le h] at hq; cases hq; exact h
      exact .inr ⟨hle, h2.imp (fun h => Nat.eq_of_beq_eq_true h) (hm i j)⟩
    · rw [hq] at h2
      exact .inl ⟨blt_lt hq, hm j i h2⟩
  · have h1 := pr hp ho
    simp only [pairOk, Bool.and_eq_true] at h1
    have h2 := h1.2
    have hb : Nat.beq i j = false := by cases hq : Nat.beq i j; rfl; exact absurd (Nat.eq_of_beq_eq_true hq) hne
    rw [hw, hpp, hb] at h2
    simp only [Bool.not_false, Bool.and_self, Bool.not_true, Bool.false_or] at h2
    refine ⟨fun hl => ?_, fun hl => ?_⟩
    · have : Nat.blt i j = true := Nat.ble_eq_true_of_le hl
      rw [this] at h2; exact hm j i h2
    · have : Nat.blt i j = false := by cases hq : Nat.blt i j; rfl; have := blt_lt hq; omega
      rw [this] at h2; exact hm i j h2
/-- a region run in its own order -/
structure Lx (P : Program) (all : List Oper) (G : Nat → Env) (T : Nat → St) (vv : Nat → V) : Prop where
  ok0 : SOK (T 0)
  step : ∀ j o, all[j]? = some o → CStep P all o (G j) true (T j) (vv j) (T (j + 1))
  env : ∀ j o, all[j]? = some o → G (j + 1) = bindE o.dst (vv j) (G j)
  chk : DrawOK all
theorem den_lx (hcx : cx.OK P) {all : List Oper} : ∀ (l : List Oper) (γ : Env) (S : St) (k : Env → St → R), den P cx true all l γ S k = some out → SOK S →
    ∃ (G : Nat → Env) (T : Nat → St) (vv : Nat → V), G 0 = γ ∧ T 0 = S ∧ k (G l.length) (T l.length) = some out ∧ (∀ j o, l[j]? = some o → CStep P all o (G j) true (T j) (vv j) (T (j + 1)) ∧ G (j + 1) = bindE o.dst (vv j) (G j))
  | [], γ, S, k, h, ok => ⟨fun _ => γ, fun _ => S, fun _ => .u, rfl, rfl, h, fun j o ho => by simp at ho⟩
  | o :: l, γ, S, k, h, ok => by
    obtain ⟨v, S1, h1, hc⟩ := denS_ok hcx ok h
    obtain ⟨G, T, vv, hG, hT, hk, hs⟩ := den_lx hcx l _ S1 k h1 (hc.abs.ok ok)
    refine ⟨fun j => match j with | 0 => γ | j + 1 => G j, fun j => match j with | 0 => S | j + 1 => T j, fun j => match j with | 0 => v | j + 1 => vv j, rfl, rfl, hk, fun j p hp => ?_⟩
    cases j with
    | zero => simp at hp; subst hp; simp only; rw [hG, hT]; exact ⟨hc, rfl⟩
    | succ j => exact hs j p (by simpa using hp)
section lx
variable {all : List Oper} {G : Nat → Env} {T : Nat → St} {vv : Nat → V}
theorem Lx.ok (X : Lx P all G T vv) : ∀ j, j ≤ all.length → SOK (T j)
  | 0, _ => X.ok0
  | j + 1, h => by
    obtain ⟨o, ho⟩ : ∃ o, all[j]? = some o := ⟨_, List.getElem?_eq_getElem (by omega)⟩
    exact (X.step j o ho).abs.ok (X.ok j (by omega))
theorem Lx.get {j : Nat} (h : j < all.length) : ∃ o, all[j]? = some o := ⟨_, List.getElem?_eq_getElem h⟩
theorem Lx.cnt (X : Lx P all G T vv) {i : Nat} : ∀ j, i ≤ j → j ≤ all.length → (T i).cnt ≤ (T j).cnt
  | 0, h, _ => by have : i = 0 := by omega
                  subst this; exact Nat.le_refl _
  | j + 1, h, h2 => by
    rcases Nat.eq_or_lt_of_le h with h3 | h3
    · subst h3; exact Nat.le_refl _
    · obtain ⟨o, ho⟩ := Lx.get (all := all) (j := j) (by omega)
      exact Nat.le_trans (X.cnt j (by omega) (by omega)) (X.step j o ho).abs.cnt
theorem Lx.fl (X : Lx P all G T vv) : ∀ j, j ≤ all.length → (T j).fl = (T 0).fl
  | 0, _ => rfl
  | j + 1, h => by
    obtain ⟨o, ho⟩ := Lx.get (all := all) (j := j) (by omega)
    exact (X.step j o ho).abs.fl_.trans (X.fl j (by omega))
/-- no writer between: what was there is there -/
theorem Lx.seg (X : Lx P all G T vv) {i : Nat} : ∀ j, i ≤ j → j ≤ all.length → (∀ k o, i ≤ k → k < j → all[k]? = some o → writerOp o.op = false) → ∀ id : Pos, id.num < (T i).cnt → (T j).h.get id = (T i).h.get id
  | 0, h, _, _, id, _ => by have : i = 0 := by omega
                            subst this; rfl
  | j + 1, h, h2, hw, id, hid => by
    rcases Nat.eq_or_lt_of_le h with h3 | h3
    · subst h3; rfl
    · obtain ⟨o, ho⟩ := Lx.get (all := all) (j := j) (by omega)
      have hc := (X.step j o ho).abs
      rw [hw j o (by omega) (by omega) ho] at hc
      rw [hc.old id (Nat.lt_of_lt_of_le hid (X.cnt j (by omega) (by omega)))]
      exact X.seg j (by omega) (by omega) (fun k o hk hk2 => hw k o hk (by omega)) id hid
/-- the slots, step by step -/
theorem Lx.look_new (X : Lx P all G T vv) {i : Nat} {o : Oper} {t : Nat} (hi : all[i]? = some o) (ht : o.dst = some t) : ∀ m, i < m → m ≤ all.length → look (G m) t = vv i
  | 0, h, _ => by omega
  | m + 1, h, h2 => by
    obtain ⟨p, hp⟩ := Lx.get (all := all) (j := m) (by omega)
    rw [X.env m p hp]
    rcases Nat.eq_or_lt_of_le (Nat.le_of_lt_succ h) with h3 | h3
    · subst h3
      rw [hi] at hp; cases hp
      rw [ht]; show cond (Nat.beq t t) (vv i) _ = _; rw [Nat.beq_refl]; rfl
    · have ih := X.look_new hi ht m h3 (by omega)
      cases hd : p.dst with
      | none => exact ih
      | some d =>
        have hne : d ≠ t := fun e => by
          subst e
          have := X.chk.dist i m o p d hi hp ht hd
          omega
        show cond (Nat.beq d t) _ _ = _
        have : Nat.beq d t = false := by cases hb : Nat.beq d t; rfl; exact absurd (Nat.eq_of_beq_eq_true hb) hne
        rw [this]; exact ih
theorem Lx.look_old (X : Lx P all G T vv) {t : Nat} : ∀ m, m ≤ all.length → (∀ i o, i < m → all[i]? = some o → o.dst ≠ some t) → look (G m) t = look (G 0) t
  | 0, _, _ => rfl
  | m + 1, h, hn => by
    obtain ⟨p, hp⟩ := Lx.get (all := all) (j := m) (by omega)
    rw [X.env m p hp]
    have ih := X.look_old m (by omega) (fun i o hi => hn i o (by omega))
    cases hd : p.dst with
    | none => exact ih
    | some d =>
      have hne : d ≠ t := fun e => by subst e; exact hn m p (by omega) hp hd
      show cond (Nat.beq d t) _ _ = _
      have : Nat.beq d t = false := by cases hb : Nat.beq d t; rfl; exact absurd (Nat.eq_of_beq_eq_true hb) hne
      rw [this]; exact ih
end lx
end Go.AM
