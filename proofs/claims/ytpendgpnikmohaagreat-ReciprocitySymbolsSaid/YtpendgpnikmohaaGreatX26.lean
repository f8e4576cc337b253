/- Operations on memory that is known in part: equations for proofs by hand. -/
import Derived.Test.YtpendgpnikmohaaGreatX25
namespace Go.AM
set_option linter.unusedVariables false
set_option linter.unusedSimpArgs false
variable {S : St} {id : Pos}
theorem getBK_eq : ∀ (p : Pos) (t : HT) (k : Blk → R) (b : Blk), t.get p = some b → getBK p t k = k b
  | p, .n, k, b, h => by cases p <;> cases h
  | .h, .d none l r, k, b, h => by cases h
  | .h, .d (some x) l r, k, b, h => by cases h; rfl
  | .o p, .d x l r, k, b, h => getBK_eq p l k b h
  | .i p, .d x l r, k, b, h => getBK_eq p r k b h
theorem nthK_eq {α : Type} : ∀ (l : List α) (n : Nat) (k : α → R) (v : α), l[n]? = some v → nthK l n k = k v
  | [], n, k, v, h => by simp at h
  | x :: l, 0, k, v, h => by simp at h; subst h; rfl
  | x :: l, n + 1, k, v, h => nthK_eq l n k v (by simpa using h)
theorem cellsAt_eq {b : Blk} (h : S.h.get id = some b) (k : List V → R) : cellsAt id S k = k b.cs := by
  show getBK id S.h _ = _
  rw [getBK_eq _ _ _ _ h]
theorem takeK_eq {α : Type} : ∀ (l : List α) (n : Nat) (k : List α → R), n ≤ l.length → takeK l n k = k (l.take n)
  | [], n, k, h => by simp at h; subst h; rfl
  | x :: l, 0, k, h => rfl
  | x :: l, n + 1, k, h => by
    show takeK l n (fun t => k (x :: t)) = _
    rw [takeK_eq l n _ (by simpa using h)]; rfl
theorem dropK_eq {α : Type} : ∀ (l : List α) (n : Nat) (k : List α → R), n ≤ l.length → dropK l n k = k (l.drop n)
  | [], n, k, h => by simp at h; subst h; rfl
  | x :: l, 0, k, h => rfl
  | x :: l, n + 1, k, h => by
    show dropK l n k = _
    rw [dropK_eq l n _ (by simpa using h)]; rfl
theorem pLd_eq {b : Blk} {o : Nat} {x : V} (h : S.h.get id = some b) (hx : b.cs[o]? = some x) (c : V → R) : pLd (.p id o) S c = c x := by
  show cellsAt id S (fun cs => nthK cs o c) = _
  rw [cellsAt_eq h, nthK_eq _ _ _ _ hx]
theorem gu_true (x : R) : gu true x = x := by rfl
theorem pSt1_eq {b : Nat} {y x : V} (h : S.h.get id = some ⟨b, [y]⟩) (hb : S.fl ≤ b) (hx : ∀ k, cellsK x k = k [x]) (c : St → R) : pSt 1 (.p id 0) x S c = c (S.upd id ⟨b, [x]⟩) := by
  show cellsK x (fun ys => lenL ys 0 (fun m => gu (Nat.beq m 1) (updK id S 0 ys c))) = _
  rw [hx]
  show updK id S 0 [x] c = _
  show getBK id S.h _ = _
  rw [getBK_eq _ _ _ _ h]
  show gu (Nat.ble S.fl b) _ = _
  rw [Nat.ble_eq_true_of_le hb]
  show putK [y] 0 [x] (fun cs' => setBK id (.mk b cs') S.h (fun h' => c (.mk h' S.nx S.cnt S.fl))) = _
  show setBK id (.mk b [x]) S.h _ = _
  rw [setBK_eq]; rfl
theorem pBox_eq {x : V} (hx : ∀ k, cellsK x k = k [x]) (S : St) (c : Cont) : pBox x S c = c (.p S.nx 0) (S.new [x]) := by
  show cellsK x (fun cs => newK cs S (fun nx S' => c (.p nx 0) S')) = _
  rw [hx, newK_eq]
theorem pAlloc_eq (z : List V) (S : St) (c : Cont) : pAlloc z S c = c (.p S.nx 0) (S.new z) := by
  show newK z S (fun nx S' => c (.p nx 0) S') = _
  rw [newK_eq]
/-- a slice of one number -/
theorem pBsl1_eq {x : V} (hx : ∀ k, cellsK x k = k [x]) (S : St) (c : Cont) : pBsl [.i .i64 0] 1 [(0, 1, x)] S c = c (.sl S.nx 0 1 1) (S.new [x]) := by
  show cellsK x (fun vs => lenL vs 0 (fun m => gu (Nat.beq m 1) (putK [.i .i64 0] 0 vs _))) = _
  rw [hx]
  show newK [x] S (fun nx S' => c (.sl nx 0 1 1) S') = _
  rw [newK_eq]
/-- a slice of one pair of numbers -/
theorem pBsl2_eq (x y : V) (S : St) (c : Cont) : pBsl [.i .i64 0, .i .i64 0] 1 [(0, 2, .ag [x, y])] S c = c (.sl S.nx 0 1 1) (S.new [x, y]) := by
  show newK [x, y] S (fun nx S' => c (.sl nx 0 1 1) S') = _
  rw [newK_eq]
theorem pBuild2_eq {x y : V} (hx : ∀ k, cellsK x k = k [x]) (hy : ∀ k, cellsK y k = k [y]) (c : V → R) : pBuild [.i .i64 0, .i .i64 0] [(0, 1, x), (1, 1, y)] c = c (.ag [x, y]) := by
  show cellsK x (fun vs => lenL vs 0 (fun m => gu (Nat.beq m 1) (putK [.i .i64 0, .i .i64 0] 0 vs _))) = _
  rw [hx]
  show cellsK y (fun vs => lenL vs 0 (fun m => gu (Nat.beq m 1) (putK [x, .i .i64 0] 1 vs _))) = _
  rw [hy]
  rfl
theorem cellsK_i (k : IntKind) (n : Nat) (c : List V → R) : cellsK (.i k n) c = c [.i k n] := by rfl
theorem cellsK_so (a : Pos) (x y z t : Nat) (c : List V → R) : cellsK (.so a x y z t) c = c [.so a x y z t] := by rfl
theorem elems_eq {b : Blk} {sz off n : Nat} (h : S.h.get id = some b) (hn : off + n * sz ≤ b.cs.length) (k : List V → R) : elems sz id off n S k = k ((b.cs.drop off).take (n * sz)) := by
  show cellsAt id S (fun cs => dropK cs off (fun l => takeK l (Nat.mul n sz) k)) = _
  rw [cellsAt_eq h, dropK_eq _ _ _ (by omega), takeK_eq _ _ _ (by rw [List.length_drop]; show n * sz ≤ _; omega)]
  rfl
/-- append of one element of two cells, to nothing -/
theorem pApp2_nil {id2 : Pos} {b2 : Nat} {x y : V} (h2 : S.h.get id2 = some ⟨b2, [x, y]⟩) (c : Cont) : pApp 2 .sn (.sl id2 0 1 1) S c = c (.so S.nx 0 1 1 2) (S.new [x, y]) := by
  show elems 2 id2 0 1 S (fun new => app1 2 1 new .sn S c) = _
  rw [elems_eq h2 (by simp)]
  show newK [x, y] S (fun nx S' => c (.so nx 0 1 1 2) S') = _
  rw [newK_eq]
/-- append of one element of two cells, to a full row -/
theorem pApp2_so {id id2 : Pos} {b b2 l : Nat} {cs : List V} {x y : V} (h2 : S.h.get id2 = some ⟨b2, [x, y]⟩) (h : S.h.get id = some ⟨b, cs⟩) (hb : S.fl ≤ b) (hc : cs.length = l * 2) (hl : l < 1073741824) (c : Cont) :
    pApp 2 (.so id 0 l l 2) (.sl id2 0 1 1) S c = c (.so S.nx 0 (l + 1) (l + 1) 2) ((S.upd id ⟨0, []⟩).new (cs ++ [x, y])) := by
  show elems 2 id2 0 1 S (fun new => app1 2 1 new (.so id 0 l l 2) S c) = _
  rw [elems_eq h2 (by simp)]
  show Bool.rec (motive := fun _ => Unit → R) _ _ (Nat.ble (l + 1) l) () = _
  have e : Nat.ble (l + 1) l = false := by rw [ble_eq]; exact decide_eq_false (by omega)
  rw [e]
  show elems 2 id 0 l S (fun old => appK old [x, y] (fun cs => killK id S (fun S => newK cs S (fun nx S' => fN (Nat.add l 1) (fun l => gu (Nat.ble l 1073741824) (c (.so nx 0 l l 2) S')))))) = _
  rw [elems_eq h (by show 0 + l * 2 ≤ cs.length; omega), appK_eq]
  show killK id S _ = _
  show getBK id S.h _ = _
  rw [getBK_eq _ _ _ _ h]
  show gu (Nat.ble S.fl b) _ = _
  rw [Nat.ble_eq_true_of_le hb, gu_true]
  show setBK id (.mk 0 []) S.h _ = _
  rw [setBK_eq]
  show newK _ (St.upd S id ⟨0, []⟩) _ = _
  rw [newK_eq, fN_eq]
  show gu (Nat.ble (l + 1) 1073741824) _ = _
  rw [Nat.ble_eq_true_of_le (show l + 1 ≤ 1073741824 by omega), gu_true]
  have e2 : (cs.drop 0).take (l * 2) = cs := by rw [List.drop_zero, ← hc, List.take_length]
  show c _ (St.new (St.upd S id ⟨0, []⟩) ((cs.drop 0).take (l * 2) ++ [x, y])) = _
  rw [e2]; rfl
/- numbers below 2^63 -/
theorem neg_n {a : Nat} (h : a < 9223372036854775808) : neg .i64 a = false := by
  show Nat.ble 9223372036854775808 a = false
  rw [ble_eq]; exact decide_eq_false (by omega)
theorem rem_n {a b : Nat} (ha : a < 9223372036854775808) (h0 : 0 < b) (hb : b < 9223372036854775808) (c : V → R) : pRem (.i .i64 a) (.i .i64 b) c = c (.i .i64 (a % b)) := by
  obtain ⟨b, rfl⟩ : ∃ x, b = x + 1 := ⟨b - 1, by omega⟩
  rw [pRem_i]
  have : remI .i64 a (b + 1) = a % (b + 1) := by
    unfold remI
    rw [neg_n ha, neg_n hb]; rfl
  rw [this]
theorem quo_n {a b : Nat} (ha : a < 9223372036854775808) (h0 : 0 < b) (hb : b < 9223372036854775808) (c : V → R) : pQuo (.i .i64 a) (.i .i64 b) c = c (.i .i64 (a / b)) := by
  obtain ⟨b, rfl⟩ : ∃ x, b = x + 1 := ⟨b - 1, by omega⟩
  rw [pQuo_i]
  have : quoI .i64 a (b + 1) = a / (b + 1) := by
    unfold quoI
    rw [neg_n ha, neg_n hb]; rfl
  rw [this]
theorem add_n {a b : Nat} (h : a + b < 18446744073709551616) (c : V → R) : pAdd (.i .i64 a) (.i .i64 b) c = c (.i .i64 (a + b)) := by
  rw [pAdd_i, show (a + b) % M .i64 = a + b from Nat.mod_eq_of_lt h]
theorem mul_n {a b : Nat} (h : a * b < 18446744073709551616) (c : V → R) : pMul (.i .i64 a) (.i .i64 b) c = c (.i .i64 (a * b)) := by
  rw [pMul_i, show (a * b) % M .i64 = a * b from Nat.mod_eq_of_lt h]
theorem eql_n (a b : Nat) (c : V → R) : pEql (.i .i64 a) (.i .i64 b) c = c (.b (decide (a = b))) := by
  rw [pEql_i]
  congr 2
  by_cases h : a = b
  · subst h; rw [Nat.beq_refl, decide_eq_true rfl]
  · rw [decide_eq_false h]; cases hb : Nat.beq a b; rfl; exact absurd (Nat.eq_of_beq_eq_true hb) h
theorem neq_n (a b : Nat) (c : V → R) : pNeq (.i .i64 a) (.i .i64 b) c = c (.b (!decide (a = b))) := by
  rw [pNeq_i]
  congr 2
  by_cases h : a = b
  · subst h; rw [Nat.beq_refl, decide_eq_true rfl]
  · rw [decide_eq_false h]; cases hb : Nat.beq a b; rfl; exact absurd (Nat.eq_of_beq_eq_true hb) h
theorem dec_sh {a b : Nat} (ha : a < 9223372036854775808) (hb : b < 9223372036854775808) : Nat.blt (sh .i64 a) (sh .i64 b) = decide (a < b) := by
  rw [sh_lt ha, sh_lt hb, blt_eq]; exact decide_eq_decide.2 (by omega)
theorem lss_n {a b : Nat} (ha : a < 9223372036854775808) (hb : b < 9223372036854775808) (c : V → R) : pLss (.i .i64 a) (.i .i64 b) c = c (.b (decide (a < b))) := by
  rw [pLss_i, dec_sh ha hb]
theorem gtr_n {a b : Nat} (ha : a < 9223372036854775808) (hb : b < 9223372036854775808) (c : V → R) : pGtr (.i .i64 a) (.i .i64 b) c = c (.b (decide (b < a))) := by
  rw [pGtr_i, dec_sh hb ha]
theorem leq_n {a b : Nat} (ha : a < 9223372036854775808) (hb : b < 9223372036854775808) (c : V → R) : pLeq (.i .i64 a) (.i .i64 b) c = c (.b (decide (a ≤ b))) := by
  rw [pLeq_i, sh_lt ha, sh_lt hb, ble_eq, show decide (a + 9223372036854775808 ≤ b + 9223372036854775808) = decide (a ≤ b) from decide_eq_decide.2 (by omega)]
theorem geq_n {a b : Nat} (ha : a < 9223372036854775808) (hb : b < 9223372036854775808) (c : V → R) : pGeq (.i .i64 a) (.i .i64 b) c = c (.b (decide (b ≤ a))) := by
  rw [pGeq_i, sh_lt ha, sh_lt hb, ble_eq, show decide (b + 9223372036854775808 ≤ a + 9223372036854775808) = decide (b ≤ a) from decide_eq_decide.2 (by omega)]
end Go.AM
