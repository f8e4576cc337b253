/- A literal run as a function's text. -/
import Derived.Test.YtpendgpnikmohaaGreatXM4
namespace Go.AM
set_option linter.unusedVariables false
noncomputable section
variable {P : Program} {out : V × St}
def forceP (p : Pos) (k : Pos → R) : R := Pos.rec (motive := fun _ => (Pos → R) → R) (fun k => k .h) (fun _ ih k => ih fun q => k (.o q)) (fun _ ih k => ih fun q => k (.i q)) p k
theorem forceP_eq : ∀ (p : Pos) (k : Pos → R), forceP p k = k p
  | .h, k => rfl
  | .o p, k => forceP_eq p _
  | .i p, k => forceP_eq p _
def forceV (v : V) (k : V → R) : R := match v with
  | .p id a => forceP id fun q => k (.p q a)
  | .sl id a b c => forceP id fun q => k (.sl q a b c)
  | .so id a b c d => forceP id fun q => k (.so q a b c d)
  | v => k v
theorem forceV_eq (v : V) (k : V → R) : forceV v k = k v := by cases v <;> first | rfl | exact forceP_eq _ _
def forceL : List V → (List V → R) → R
  | [], k => k []
  | v :: l, k => forceV v fun v => forceL l fun l => k (v :: l)
theorem forceL_eq : ∀ (l : List V) (k : List V → R), forceL l k = k l
  | [], k => rfl
  | v :: l, k => by simp only [forceL, forceV_eq, forceL_eq l]
def forceT (v : V) (k : V → R) : R := match v with
  | .tu l => forceL l fun l => k (.tu l)
  | v => forceV v k
theorem forceT_eq (v : V) (k : V → R) : forceT v k = k v := by cases v <;> simp [forceT, forceV_eq, forceL_eq]
def layK (π : Pos → Pos) : List (Pos × List V) → St → (St → R) → R
  | [], S, k => k S
  | x :: r, S, k => forceL (renL π x.2) fun cs => newK cs S fun _ S => layK π r S k
theorem layK_eq (π : Pos → Pos) : ∀ (l : List (Pos × List V)) (S : St) (k : St → R), layK π l S k = k (layS (l.map fun x => renL π x.2) S)
  | [], S, k => rfl
  | x :: r, S, k => by simp only [layK, forceL_eq, newK_eq, layK_eq π r, List.map_cons, layS]
def outE : List (Pos × List V) → Pos → PE
  | [], _ => []
  | x :: r, q => (x.1.num, q) :: outE r q.succ
theorem lk_out : ∀ (outs : List (Pos × List V)) (q : Pos) (n : Nat) (q' : Pos), lk (outE outs q) n = some q' → ∃ j x, outs[j]? = some x ∧ x.1.num = n ∧ q'.num = q.num + j
  | [], q, n, q', h => by cases h
  | x :: r, q, n, q', h => by
    simp only [outE, lk] at h
    cases hb : Nat.beq x.1.num n <;> rw [hb] at h
    · obtain ⟨j, y, h1, h2, h3⟩ := lk_out r q.succ n q' h
      exact ⟨j + 1, y, by simpa using h1, h2, by rw [h3, Pos.num_succ]; omega⟩
    · cases h; exact ⟨0, x, rfl, Nat.eq_of_beq_eq_true hb, rfl⟩
theorem lk_out_none : ∀ (outs : List (Pos × List V)) (q : Pos) (n : Nat), lk (outE outs q) n = none → ∀ x ∈ outs, x.1.num ≠ n
  | [], q, n, h, x, hx => by cases hx
  | y :: r, q, n, h, x, hx => by
    simp only [outE, lk] at h
    cases hb : Nat.beq y.1.num n <;> rw [hb] at h
    · rcases List.mem_cons.1 hx with rfl | hx
      · intro e; rw [e, Nat.beq_refl] at hb; cases hb
      · exact lk_out_none r q.succ n h x hx
    · cases h
theorem lk_append : ∀ (a b : PE) (n : Nat), lk (a ++ b) n = match lk a n with | some q => some q | none => lk b n
  | [], b, n => rfl
  | (m, q) :: a, b, n => by
    simp only [List.cons_append, lk]
    cases Nat.beq m n
    · exact lk_append a b n
    · rfl
def mkS (bl : List (List V)) : St := ⟨(layS bl S0).h, (layS bl S0).nx, (layS bl S0).cnt, (layS bl S0).cnt⟩
def pm (m : Nat) (id : Pos) : Bool := Nat.ble id.num m
def pm2 (m : Nat) (outs : List (Pos × List V)) (id : Pos) : Bool := Nat.ble id.num m || outs.any fun x => Nat.beq x.1.num id.num
def nd : List (Pos × List V) → Bool
  | [] => true
  | x :: r => r.all (fun y => !Nat.beq x.1.num y.1.num) && nd r
def stat (bl : List (List V)) (vs1 : List V) (v1 : V) (outs : List (Pos × List V)) : Bool :=
  okL (pm bl.length) vs1 && bl.all (okL (pm bl.length)) && okV (pm2 bl.length outs) v1 && outs.all (fun x => okL (pm2 bl.length outs) x.2 && Nat.blt bl.length x.1.num) && nd outs
def runOk (r : R) (v1 : V) (outs : List (Pos × List V)) : Bool := match r with
  | some (v, S2) => eqV v v1 && outs.all fun x => match S2.h.get x.1 with | some b => !Nat.beq b.born 0 && eqL b.cs x.2 | none => false
  | none => false
/-- look whether the arguments read so; if they do, lay the result -/
def memoF (bl : List (List V)) (vs1 : List V) (v1 : V) (outs : List (Pos × List V)) : Fun := fun vs S k =>
  (fun e => cond (argsOk bl vs1 vs S e) ((fun π => layK π outs S fun S' => forceT (renV π v1) fun v => k v S') (envF (outE outs S.nx ++ e))) none) (findE S bl 1 (mtL vs1 vs []))
theorem nd_ok : ∀ (outs : List (Pos × List V)), nd outs = true → ∀ (i j : Nat) (x y : Pos × List V), outs[i]? = some x → outs[j]? = some y → x.1 = y.1 → i = j
  | [], h, i, j, x, y, hx, hy, he => by simp at hx
  | z :: r, h, i, j, x, y, hx, hy, he => by
    simp only [nd, Bool.and_eq_true, List.all_eq_true] at h
    have no : ∀ y, y ∈ r → z.1 ≠ y.1 := fun y hy e => by have := h.1 y hy; rw [e] at this; simp at this
    cases i <;> cases j
    · rfl
    · simp at hx hy; subst hx; exact absurd he (no y (List.mem_of_getElem? hy))
    · simp at hx hy; subst hy; exact absurd he.symm (no x (List.mem_of_getElem? hx))
    · rename_i i j; simp at hx hy; rw [nd_ok r h.2 i j x y hx hy he]
theorem memo_ok {f : FuncId} {F : Fun} (hF : FOK P f F) {bl : List (List V)} {vs1 : List V} {v1 : V} {outs : List (Pos × List V)} (hs : stat bl vs1 v1 outs = true)
    (hr : runOk (F vs1 (mkS bl) fun v S => some (v, S)) v1 outs = true) : FOK P f (memoF bl vs1 v1 outs) := by
  intro vs S k out ok h
  simp only [memoF] at h
  revert h
  generalize findE S bl 1 (mtL vs1 vs []) = e
  intro h
  cases ha : argsOk bl vs1 vs S e with
  | false => rw [ha] at h; cases h
  | true =>
    rw [ha] at h
    simp only [cond_true, layK_eq, forceT_eq] at h
    simp only [argsOk, Bool.and_eq_true] at ha
    obtain ⟨⟨ha1, ha2⟩, ha3⟩ := ha
    have ha1 := eqL_eq _ _ ha1
    simp only [stat, Bool.and_eq_true, List.all_eq_true] at hs
    obtain ⟨⟨⟨⟨hs1, hs2⟩, hs3⟩, hs4⟩, hs5⟩ := hs
    obtain ⟨o1, o2, o3, o4, o5⟩ := layS_ok bl S0 S0_ok
    have hcnt : (mkS bl).cnt = 1 + bl.length := o2
    have ok1 : SOK (mkS bl) := ⟨o1.nx, by show 1 ≤ (layS bl S0).cnt; rw [o2]; show 1 ≤ 1 + _; omega, Nat.le_refl _, o1.blk⟩
    cases hq : F vs1 (mkS bl) fun v S => some (v, S) with
    | none => rw [hq] at hr; cases hr
    | some r =>
      obtain ⟨v, S2⟩ := r
      obtain ⟨v', S2', h1, h2⟩ := hF vs1 (mkS bl) _ _ ok1 hq
      cases h1
      rw [hq] at hr
      simp only [runOk, Bool.and_eq_true, List.all_eq_true] at hr
      have hv := eqV_eq _ _ hr.1
      subst hv
      refine ⟨_, _, h, ?_⟩
      rw [ha1]
      have blk : ∀ id : Pos, pm bl.length id = true → ∃ cs, bl[id.num - 1]? = some cs ∧ id.num = 1 + (id.num - 1) := fun id hp => by
        have h1 := Nat.le_of_ble_eq_true hp
        have h2 := Pos.num_pos id
        exact ⟨_, List.getElem?_eq_getElem (by omega), by omega⟩
      have lke : ∀ id : Pos, pm bl.length id = true → ∃ cs q b, bl[id.num - 1]? = some cs ∧ lk e id.num = some q ∧ envF e id = q ∧ S.h.get q = some b ∧ b.born ≠ 0 ∧ b.cs = renL (envF e) cs := fun id hp => by
        obtain ⟨cs, h3, h4⟩ := blk id hp
        obtain ⟨q, b, h5, h6, h7, h8⟩ := blksOk_get bl 1 ha2 _ cs h3
        rw [← h4] at h5
        exact ⟨cs, q, b, h3, h5, by simp only [envF, h5], h6, h7, h8⟩
      refine transplant h2 ok1 rfl ok (p := pm bl.length) (p2 := pm2 bl.length outs) hs1 (fun id hp => ?_) (fun id hp => ?_) (fun id b hb => ?_) (fun id id' hp hp' he => ?_) (nd_ok outs hs5) (fun x hx => ?_) (fun id hp => ?_) hs3 (fun x hx => ?_)
      · have := Nat.le_of_ble_eq_true hp; rw [hcnt]; omega
      · obtain ⟨cs, q, b, h3, h4, h5, h6, h7, h8⟩ := lke id hp
        obtain ⟨_, _, h9⟩ := blk id hp
        refine ⟨⟨S0.cnt + (id.num - 1), cs⟩, b, o5 _ cs h3 id (show id.num = 1 + _ from h9), by rw [h5]; exact h6, h7, h8, hs2 cs (List.mem_of_getElem? h3)⟩
      · have := (ok1.blk id b hb).1; rw [hcnt] at this
        exact Nat.ble_eq_true_of_le (by omega)
      · obtain ⟨cs, q, b, h3, h4, h5, _⟩ := lke id hp
        obtain ⟨cs', q', b', h3', h4', h5', _⟩ := lke id' hp'
        have l1 := Nat.le_of_ble_eq_true hp
        have l1' := Nat.le_of_ble_eq_true hp'
        have p1 := Pos.num_pos id
        have p1' := Pos.num_pos id'
        have hqq : q = q' := by rw [← h5, ← h5', he]
        apply Pos.num_inj
        rcases Nat.lt_trichotomy id.num id'.num with hl | hl | hl
        · exact absurd hqq (injOk_get bl.length 1 ha3 (id.num - 1) (id'.num - 1) (by omega) (by omega) q q' (by rw [← h4]; congr 1; omega) (by rw [← h4']; congr 1; omega))
        · exact hl
        · exact absurd hqq.symm (injOk_get bl.length 1 ha3 (id'.num - 1) (id.num - 1) (by omega) (by omega) q' q (by rw [← h4']; congr 1; omega) (by rw [← h4]; congr 1; omega))
      · have h3 := (hs4 x hx).2
        have h4 := hr.2 x hx
        refine ⟨by have := Nat.le_of_ble_eq_true h3; rw [hcnt]; omega, ?_⟩
        cases hg : S2.h.get x.1 with
        | none => rw [hg] at h4; simp at h4
        | some b =>
          rw [hg] at h4
          simp only [Bool.and_eq_true] at h4
          refine ⟨b, rfl, eqL_eq _ _ h4.2, fun e0 => ?_⟩
          rw [e0] at h4; simp at h4
      · cases hl : lk (outE outs S.nx) id.num with
        | some q' =>
          obtain ⟨j, x, h3, h4, h5⟩ := lk_out outs S.nx id.num q' hl
          refine .inr ⟨j, x, h3, Pos.num_inj _ _ h4, ?_⟩
          simp only [envF, lk_append, hl]
          rw [h5, ok.nx]
        | none =>
          have hno := lk_out_none outs S.nx id.num hl
          simp only [pm2, Bool.or_eq_true, List.any_eq_true] at hp
          rcases hp with hp | ⟨x, hx, hb⟩
          · exact .inl ⟨hp, by simp only [envF, lk_append, hl]⟩
          · exact absurd (Nat.eq_of_beq_eq_true hb) (hno x hx)
      · exact (hs4 x hx).1
end
end Go.AM
