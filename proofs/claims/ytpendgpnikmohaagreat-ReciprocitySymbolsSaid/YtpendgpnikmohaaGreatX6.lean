/- Operations that touch no memory: what the machine makes of them is what the model makes of them. -/
import Derived.Test.YtpendgpnikmohaaGreatX5
import Derived.Laws.StructEq
import Derived.Laws.Entries
import Derived.Laws.Unary
namespace Go.AM
set_option linter.unusedVariables false
set_option linter.unusedSimpArgs false
variable {out : V × St} {ρ : Ren} {P : Program} {w : World} {a : Act}
abbrev Env := List (Nat × V)
def look (γ : Env) (t : Nat) : V := match γ with
  | [] => .other
  | (s, v) :: r => cond (Nat.beq s t) v (look r t)
/-- a constant of one cell -/
noncomputable def cv0 : Value → V
  | .bool b => .b b
  | .int k n => cond (decide (dec k (n % (M k : Int)).toNat = n)) (.i k (n % (M k : Int)).toNat) .other
  | .string s => .s (s.data.toList.map UInt8.toNat)
  | .pointer none => .pn
  | .slice none 0 0 => .sn
  | .nilFunc => .fn0
  | _ => .other
/-- all cells of one -/
theorem one_sub {l : List V} (h : ∀ v ∈ l, v.one = true) (a n : Nat) : ∀ v ∈ (l.drop a).take n, v.one = true := fun v hv => h v (List.mem_of_mem_drop (List.mem_of_mem_take hv))
noncomputable def cv : Value → V
  | .agg cs => cond ((cs.toList.map cv0).all V.one) (.ag (cs.toList.map cv0)) .other
  | .tuple cs => cond cs.isEmpty .u .other
  | c => cv0 c
noncomputable def val (γ : Env) : Operand → V
  | .tmp t => look γ t
  | .const c => cv c
  | .func f => .f f []
  | .global _ => .other
theorem cv0_ok (c : Value) : VR ρ (cv0 c) c := by
  unfold cv0
  split
  · exact .b _
  · rename_i k n
    by_cases h : dec k (n % (M k : Int)).toNat = n
    · rw [decide_eq_true h]
      have h0 := Int.emod_nonneg n (b := (M k : Int)) (by have := M_pos k; omega)
      have h1 := Int.emod_lt_of_pos n (b := (M k : Int)) (by have := M_pos k; omega)
      exact .i _ _ _ (by omega) h.symm
    · rw [decide_eq_false h]; exact .other _
  · exact .s _ _ rfl
  · exact .pn
  · exact .sn
  · exact .fn0
  · exact .other _
theorem cv0s_ok : ∀ l : List Value, VRs ρ (l.map cv0) l
  | [] => .nil
  | c :: l => .cons _ _ _ _ (cv0_ok c) (cv0s_ok l)
theorem cv_ok' (c : Value) : VR ρ (cv c) c := by
  unfold cv
  split
  · rename_i cs
    cases h : (cs.toList.map cv0).all V.one
    · exact .other _
    · exact .ag _ _ (List.all_eq_true.1 h) (cv0s_ok _)
  · rename_i cs
    cases h : cs.isEmpty
    · exact .other _
    · have : cs = #[] := by simpa using h
      subst this; exact .u
  · exact cv0_ok c
/-- the frame's slots are as the machine has them -/
def EnvR (ρ : Ren) (γ : Env) (a : Act) : Prop := ∀ t, VR ρ (look γ t) (a.tmps.getD t undef)
theorem EnvR.val {γ : Env} (h : EnvR ρ γ a) (x : Operand) : VR ρ (val γ x) (a.eval x) := by
  cases x with
  | tmp t => exact h t
  | const c => exact cv_ok' c
  | global g => exact .other _
  | func f => exact .f f [] #[] .nil
theorem EnvR.mono {ρ' : Ren} {γ : Env} (h : EnvR ρ γ a) (m : ∀ id L, ρ id = some L → ρ' id = some L) : EnvR ρ' γ a := fun t => (h t).mono m
/-- the operation runs to a value -/
def Runs (P : Program) (o : Oper) (a : Act) (w : World) (T : Value → World → Prop) : Prop :=
  ∃ u w', ((execOp a.eval o).run P w = .ok (.value u) w' ∨ (execOp a.eval o).run P w = .ok .skip w' ∧ u = undef) ∧ T u w'
/-- no memory touched: one value, whatever the world -/
def PureOK (P : Program) (o : Oper) (γ : Env) (v : V) : Prop := ∀ ρ a w, EnvR ρ γ a → Runs P o a w fun u w' => w' = w ∧ VR ρ v u
theorem Runs.value {o : Oper} {T : Value → World → Prop} {u : Value} {w' : World} (h : (execOp a.eval o).run P w = .ok (.value u) w') (t : T u w') : Runs P o a w T := ⟨u, w', .inl h, t⟩
theorem VRs.map {γ : Env} (h : EnvR ρ γ a) : ∀ l : List Operand, VRs ρ (l.map (val γ)) (l.map a.eval)
  | [] => .nil
  | x :: l => .cons _ _ _ _ (h.val x) (VRs.map h l)
-- what a related value is
section inv
variable {u : Value}
theorem VR.b_inv {x : Bool} (h : VR ρ (.b x) u) : u = .bool x := by cases h; rfl
theorem VR.i_inv {k : IntKind} {n : Nat} (h : VR ρ (.i k n) u) : u = .int k (dec k n) ∧ n < M k := by cases h with | i _ _ z h1 h2 => subst h2; exact ⟨rfl, h1⟩
theorem VR.s_inv {l : List Nat} (h : VR ρ (.s l) u) : ∃ t : ByteArray, u = .string t ∧ t.data.toList.map UInt8.toNat = l := by cases h with | s _ t h1 => exact ⟨t, rfl, h1⟩
theorem VR.p_inv {id : Pos} {off : Nat} (h : VR ρ (.p id off) u) : ∃ L, ρ id = some L ∧ u = .pointer (some ⟨L.b, L.d + off, none⟩) := by cases h with | p _ _ o L h1 h2 => subst h2; exact ⟨L, h1, rfl⟩
theorem VR.sl_any {v : V} {id : Pos} {off len : Nat} (hs : IsSl v id off len) (h : VR ρ v u) : ∃ L o c, ρ id = some L ∧ u = .slice (some ⟨L.b, o, none⟩) len c ∧ len ≤ c ∧ (0 < len → o = L.d + off) := by
  cases hs with
  | sl => cases h with | sl _ _ _ _ o L h1 h2 h3 => exact ⟨L, o, _, h1, rfl, h2, fun h => h3 (by omega)⟩
  | so => cases h with | so _ _ _ _ _ o c L h1 h2 h3 h4 h5 => exact ⟨L, o, c, h1, rfl, by omega, fun h => h5 (by omega)⟩
theorem VR.ag_inv {l : List V} (h : VR ρ (.ag l) u) : ∃ cs : Array Value, u = .agg cs ∧ VRs ρ l cs.toList := by cases h with | ag _ cs h0 h1 => exact ⟨cs, rfl, h1⟩
theorem VR.ag_one {l : List V} (h : VR ρ (.ag l) u) : ∀ v ∈ l, v.one = true := by cases h with | ag _ cs h0 h1 => exact h0
theorem VR.tu_inv {l : List V} (h : VR ρ (.tu l) u) : ∃ cs : Array Value, u = .tuple cs ∧ VRs ρ l cs.toList := by cases h with | tu _ cs h1 => exact ⟨cs, rfl, h1⟩
theorem VR.pn_inv (h : VR ρ .pn u) : u = .pointer none := by cases h; rfl
theorem VR.sn_inv (h : VR ρ .sn u) : u = .slice none 0 0 := by cases h; rfl
theorem VR.fn0_inv (h : VR ρ .fn0 u) : u = .nilFunc := by cases h; rfl
theorem VR.u_inv (h : VR ρ .u u) : u = undef := by cases h; rfl
theorem VR.f_inv {id : Nat} {cs : List V} (h : VR ρ (.f id cs) u) : ∃ us : Array Value, u = .func (.func id) #[] us ∧ VRs ρ cs us.toList := by cases h with | f _ _ us h1 => exact ⟨us, rfl, h1⟩
end inv
/-- integers of one kind -/
noncomputable def intOp : BinOp → Option (V → V → (V → R) → R)
  | .add => some pAdd | .sub => some pSub | .mul => some pMul | .quo => some pQuo | .rem => some pRem | .and => some pAnd | .or => some pOr | .xor => some pXor
  | .shl => some pShl | .shr => some pShr | .eql => some pEql | .neq => some pNeq | .lss => some pLss | .leq => some pLeq | .gtr => some pGtr | .geq => some pGeq | .andNot => none
theorem of_c {c : V → R} {k : IntKind} {n : Nat} (h : retI c k n = some out) : c (.i k n) = some out := by rw [retI_eq] at h; exact h
theorem of_b {c : V → R} {b : Bool} (h : retB c b = some out) : c (.b b) = some out := by rw [retB_eq] at h; exact h
theorem shr_ok {k : IntKind} {x : Nat} (hx : x < M k) (n : Nat) : (dec k x).fdiv (2 ^ n) = dec k (shrI k x n) ∧ shrI k x n < M k := by
  unfold shrI
  have hp : 0 < 2 ^ n := Nat.pow_pos (by decide)
  have e2 : (2 : Int) ^ n = ((2 ^ n : Nat) : Int) := by push_cast; rfl
  cases h : neg k x
  · show _ = dec k (x / 2 ^ n) ∧ x / 2 ^ n < M k
    have hle := Nat.div_le_self x (2 ^ n)
    refine ⟨?_, by omega⟩
    rw [dec_nat h, dec_nat ((neg_false k _).2 fun hs => by have := (neg_false k x).1 h hs; omega), e2, Int.fdiv_eq_ediv_of_nonneg _ (by omega)]
    exact (Int.natCast_ediv x (2 ^ n)).symm
  · show _ = dec k (M k - ((M k - 1 - x) / 2 ^ n + 1)) ∧ M k - ((M k - 1 - x) / 2 ^ n + 1) < M k
    obtain ⟨hs, hh⟩ := (neg_iff k x).1 h
    have hM := M_sgn k hs
    have hle := Nat.div_le_self (M k - 1 - x) (2 ^ n)
    have h1 := Nat.div_add_mod (M k - 1 - x) (2 ^ n)
    have h2 := Nat.mod_lt (M k - 1 - x) hp
    rw [dec_abs hx h, e2]
    generalize 2 ^ n = p at *
    generalize hq : (M k - 1 - x) / p = q at *
    generalize (M k - 1 - x) % p = r at *
    refine ⟨?_, by omega⟩
    rw [dec_abs (by omega) ((neg_iff k _).2 ⟨hs, by omega⟩), Int.fdiv_eq_ediv_of_nonneg _ (by omega)]
    have e4 : (-((M k - x : Nat) : Int)) = -(((M k - 1 - x : Nat) : Int) + 1) := by omega
    have e5 : M k - (M k - (q + 1)) = q + 1 := by omega
    rw [e4, e5, ← h1]
    push_cast
    rw [show -(((p : Int) * q + r) + 1) = (p - 1 - r : Int) + (p : Int) * (-(q + 1)) by rw [Int.mul_neg, Int.mul_add, Int.mul_one]; omega]
    rw [Int.add_mul_ediv_left _ _ (by omega), Int.ediv_eq_zero_of_lt (by omega) (by omega)]
    omega
theorem intOp_ok {op : BinOp} {f : V → V → (V → R) → R} (hf : intOp op = some f) {x y : V} {c : V → R} (h : f x y c = some out) :
    ∃ v, c v = some out ∧ ∀ (ρ : Ren) (xu yu : Value), VR ρ x xu → VR ρ y yu → ∀ (t : TypeId) (w : World), ∃ u, (binOp op t xu yu).run P w = .ok u w ∧ VR ρ v u := by
  have fin : ∀ {k : IntKind} {n : Nat} {z : Int} {ρ : Ren}, z = dec k n → n < M k → VR ρ (.i k n) (.int k z) := fun h1 h2 => .i _ _ _ h2 h1
  cases op <;> simp only [intOp, Option.some.injEq, reduceCtorEq] at hf <;> subst hf
  case shl =>
    obtain ⟨k, p, rfl, h1⟩ := vI_some h
    obtain ⟨k', q, rfl, h2⟩ := vI_some h1
    obtain ⟨h3, h4⟩ := gu_some h2
    refine ⟨_, of_c h4, fun ρ xu yu hx hy t w => ?_⟩
    obtain ⟨rfl, hp⟩ := hx.i_inv; obtain ⟨rfl, hq⟩ := hy.i_inv
    have hnn : neg k' q = false := by simpa using h3
    have hq0 : ¬ dec k' q < 0 := by rw [dec_nat hnn]; omega
    have hm : min (dec k' q).toNat k.bits = minN q (bits k) := by
      rw [dec_nat hnn]; show min q k.bits = minN q (bits k)
      have : bits k = k.bits := by cases k <;> rfl
      rw [this]; unfold minN
      by_cases hle : q ≤ k.bits
      · rw [show Nat.ble q k.bits = true from Nat.ble_eq_true_of_le hle]; exact Nat.min_eq_left hle
      · rw [show Nat.ble q k.bits = false from by cases e : Nat.ble q k.bits; rfl; exact absurd (Nat.le_of_ble_eq_true e) hle]; exact Nat.min_eq_right (by omega)
    refine ⟨_, by simp only [binOp, Op.shift, hq0, if_false, hm]; rfl, fin ?_ (mod_lt k _)⟩
    refine wrap_of k _ _ ?_
    rw [Int.mul_emod, dec_mod_eq k p hp, ← Int.mul_emod]; push_cast; rfl
  case shr =>
    obtain ⟨k, p, rfl, h1⟩ := vI_some h
    obtain ⟨k', q, rfl, h2⟩ := vI_some h1
    obtain ⟨h3, h4⟩ := gu_some h2
    refine ⟨_, of_c h4, fun ρ xu yu hx hy t w => ?_⟩
    obtain ⟨rfl, hp⟩ := hx.i_inv; obtain ⟨rfl, hq⟩ := hy.i_inv
    have hnn : neg k' q = false := by simpa using h3
    have hq0 : ¬ dec k' q < 0 := by rw [dec_nat hnn]; omega
    have hm : min (dec k' q).toNat k.bits = minN q (bits k) := by
      rw [dec_nat hnn]; show min q k.bits = minN q (bits k)
      have : bits k = k.bits := by cases k <;> rfl
      rw [this]; unfold minN
      by_cases hle : q ≤ k.bits
      · rw [show Nat.ble q k.bits = true from Nat.ble_eq_true_of_le hle]; exact Nat.min_eq_left hle
      · rw [show Nat.ble q k.bits = false from by cases e : Nat.ble q k.bits; rfl; exact absurd (Nat.le_of_ble_eq_true e) hle]; exact Nat.min_eq_right (by omega)
    exact ⟨_, by simp only [binOp, Op.shift, hq0, if_false, hm]; rfl, fin (shr_ok hp _).1 (shr_ok hp _).2⟩
  all_goals
    obtain ⟨k, p, q, rfl, rfl, h1⟩ := two_some h
  case add => exact ⟨_, of_c h1, fun ρ xu yu hx hy t w => by obtain ⟨rfl, hp⟩ := hx.i_inv; obtain ⟨rfl, hq⟩ := hy.i_inv; exact ⟨_, by simp [binOp, Op.intArith], fin (add_ok hp hq) (mod_lt k _)⟩⟩
  case sub => exact ⟨_, of_c h1, fun ρ xu yu hx hy t w => by obtain ⟨rfl, hp⟩ := hx.i_inv; obtain ⟨rfl, hq⟩ := hy.i_inv; exact ⟨_, by simp [binOp, Op.intArith], fin (sub_ok hp hq) (mod_lt k _)⟩⟩
  case mul => exact ⟨_, of_c h1, fun ρ xu yu hx hy t w => by obtain ⟨rfl, hp⟩ := hx.i_inv; obtain ⟨rfl, hq⟩ := hy.i_inv; exact ⟨_, by simp [binOp, Op.intArith], fin (mul_ok hp hq) (mod_lt k _)⟩⟩
  case quo =>
    obtain ⟨h2, h3⟩ := gu_some h1
    have h0 : 0 < q := Nat.le_of_ble_eq_true h2
    exact ⟨_, of_c h3, fun ρ xu yu hx hy t w => by
      obtain ⟨rfl, hp⟩ := hx.i_inv; obtain ⟨rfl, hq⟩ := hy.i_inv
      have hz : dec k q ≠ 0 := fun e => by have := dec_inj (k := k) hq (M_pos k) (b := 0) (by rw [e]; cases k <;> rfl); omega
      exact ⟨_, by simp only [binOp, Op.intDiv, hz, if_false, ne_eq, not_true, if_true]; rfl, fin (quo_ok hp hq h0).1 (quo_ok hp hq h0).2⟩⟩
  case rem =>
    obtain ⟨h2, h3⟩ := gu_some h1
    have h0 : 0 < q := Nat.le_of_ble_eq_true h2
    exact ⟨_, of_c h3, fun ρ xu yu hx hy t w => by
      obtain ⟨rfl, hp⟩ := hx.i_inv; obtain ⟨rfl, hq⟩ := hy.i_inv
      have hz : dec k q ≠ 0 := fun e => by have := dec_inj (k := k) hq (M_pos k) (b := 0) (by rw [e]; cases k <;> rfl); omega
      exact ⟨_, by simp only [binOp, Op.intDiv, hz, if_false, ne_eq, not_true, if_true]; rfl, fin (rem_ok hp hq h0).1 (rem_ok hp hq h0).2⟩⟩
  case and => exact ⟨_, of_c h1, fun ρ xu yu hx hy t w => by
      obtain ⟨rfl, hp⟩ := hx.i_inv; obtain ⟨rfl, hq⟩ := hy.i_inv
      have hb := bit_ok (k := k) (c := p &&& q) (BitVec.ofInt k.bits (dec k p) &&& BitVec.ofInt k.bits (dec k q)) (by rw [ofInt_dec, ofInt_dec, BitVec.toNat_and, ofNat_toNat hp, ofNat_toNat hq])
      exact ⟨_, by simp [binOp, Op.intBits], fin hb.1 hb.2⟩⟩
  case or => exact ⟨_, of_c h1, fun ρ xu yu hx hy t w => by
      obtain ⟨rfl, hp⟩ := hx.i_inv; obtain ⟨rfl, hq⟩ := hy.i_inv
      have hb := bit_ok (k := k) (c := p ||| q) (BitVec.ofInt k.bits (dec k p) ||| BitVec.ofInt k.bits (dec k q)) (by rw [ofInt_dec, ofInt_dec, BitVec.toNat_or, ofNat_toNat hp, ofNat_toNat hq])
      exact ⟨_, by simp [binOp, Op.intBits], fin hb.1 hb.2⟩⟩
  case xor => exact ⟨_, of_c h1, fun ρ xu yu hx hy t w => by
      obtain ⟨rfl, hp⟩ := hx.i_inv; obtain ⟨rfl, hq⟩ := hy.i_inv
      have hb := bit_ok (k := k) (c := p ^^^ q) (BitVec.ofInt k.bits (dec k p) ^^^ BitVec.ofInt k.bits (dec k q)) (by rw [ofInt_dec, ofInt_dec, BitVec.toNat_xor, ofNat_toNat hp, ofNat_toNat hq])
      exact ⟨_, by simp [binOp, Op.intBits], fin hb.1 hb.2⟩⟩
  case eql => exact ⟨_, of_b h1, fun ρ xu yu hx hy t w => by obtain ⟨rfl, hp⟩ := hx.i_inv; obtain ⟨rfl, hq⟩ := hy.i_inv; exact ⟨_, by simp [binOp, Op.intCmp]; rfl, by rw [beq_dec hp hq]; exact .b _⟩⟩
  case neq => exact ⟨_, of_b h1, fun ρ xu yu hx hy t w => by obtain ⟨rfl, hp⟩ := hx.i_inv; obtain ⟨rfl, hq⟩ := hy.i_inv; exact ⟨_, by simp [binOp, Op.intCmp]; rfl, by rw [beq_dec hp hq]; exact .b _⟩⟩
  case lss => exact ⟨_, of_b h1, fun ρ xu yu hx hy t w => by obtain ⟨rfl, hp⟩ := hx.i_inv; obtain ⟨rfl, hq⟩ := hy.i_inv; exact ⟨_, by simp [binOp, Op.intCmp]; rfl, by rw [blt_sh hp hq]; exact .b _⟩⟩
  case leq => exact ⟨_, of_b h1, fun ρ xu yu hx hy t w => by obtain ⟨rfl, hp⟩ := hx.i_inv; obtain ⟨rfl, hq⟩ := hy.i_inv; exact ⟨_, by simp [binOp, Op.intCmp]; rfl, by rw [ble_sh hp hq]; exact .b _⟩⟩
  case gtr => exact ⟨_, of_b h1, fun ρ xu yu hx hy t w => by obtain ⟨rfl, hp⟩ := hx.i_inv; obtain ⟨rfl, hq⟩ := hy.i_inv; exact ⟨_, by simp [binOp, Op.intCmp]; rfl, by rw [blt_sh hq hp]; exact .b _⟩⟩
  case geq => exact ⟨_, of_b h1, fun ρ xu yu hx hy t w => by obtain ⟨rfl, hp⟩ := hx.i_inv; obtain ⟨rfl, hq⟩ := hy.i_inv; exact ⟨_, by simp [binOp, Op.intCmp]; rfl, by rw [ble_sh hq hp]; exact .b _⟩⟩
end Go.AM
