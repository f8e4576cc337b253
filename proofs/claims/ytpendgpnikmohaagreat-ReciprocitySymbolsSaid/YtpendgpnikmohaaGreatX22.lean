/- math/bits.Add64 and Sub64; the functions at the top. -/
import Derived.Test.YtpendgpnikmohaaGreatX21
import Derived.Laws.Externs
namespace Go.AM
set_option linter.unusedVariables false
variable {P : Program} {out : V × St}
def sub64Entry : Array Value → Sem Value := fun args => do
  let (x, y, b) ← Extern.MathBitsCarry.three "Sub64" args
  pure (Extern.MathBitsCarry.pair ((x + Extern.MathBitsCarry.m64 - y - b) % Extern.MathBitsCarry.m64) (if x < y + b then 1 else 0))
theorem run_sub64 (x y b : Nat) (hb : b ≤ 1) (w : World) :
    (sub64Entry #[.int .u64 x, .int .u64 y, .int .u64 b]).run P w =
      .ok (.tuple #[.int .u64 (((x + 18446744073709551616 - y - b) % 18446744073709551616 : Nat) : Int), .int .u64 ((if x < y + b then 1 else 0 : Nat) : Int)]) w := by
  have : b = 0 ∨ b = 1 := by omega
  rcases this with rfl | rfl <;> rfl
theorem vr_w {ρ : Ren} {n : Nat} {u : Value} (h : VR ρ (.i .u64 n) u) : n < 18446744073709551616 ∧ u = .int .u64 (n : Int) := by
  cases h with
  | i _ _ z h1 h2 => exact ⟨h1, by rw [h2]; rfl⟩
theorem w_vr {ρ : Ren} {n : Nat} (h : n < 18446744073709551616) : VR ρ (.i .u64 n) (.int .u64 (n : Int)) := .i _ _ _ h rfl
theorem three_w {ρ : Ren} {x y z : Nat} {args : Array Value} (h : VRs ρ [.i .u64 x, .i .u64 y, .i .u64 z] args.toList) : x < 18446744073709551616 ∧ y < 18446744073709551616 ∧ args = #[.int .u64 (x : Int), .int .u64 (y : Int), .int .u64 (z : Int)] := by
  obtain ⟨l⟩ := args
  cases h with
  | cons _ _ _ _ h1 h2 =>
    cases h2 with
    | cons _ _ _ _ h3 h4 =>
      cases h4 with
      | cons _ _ _ _ h5 h6 =>
        cases h6
        rw [(vr_w h1).2, (vr_w h3).2, (vr_w h5).2]
        exact ⟨(vr_w h1).1, (vr_w h3).1, rfl⟩
def Fbits (p : V → V → V → (V → R) → R) : Gn 3 := fun x y z S k => p x y z (fun v => k v S)
theorem ext64 {f : FuncId} {fn : Func} {e : Array Value → Sem Value} {p : V → V → V → (V → R) → R} (hf : P.funcs[f]? = some fn) (hname : (fn.name == "runtime.NumGoroutine") = false)
    (hb : fn.body.isNone = true) (hn : Extern.findNext fn = none) (he : Extern.find fn = some e)
    (hp : ∀ {x y z : V} {c : V → R} {out : V × St}, p x y z c = some out → ∃ a b d u v : Nat, x = .i .u64 a ∧ y = .i .u64 b ∧ z = .i .u64 d ∧ c (.tu [.i .u64 u, .i .u64 v]) = some out ∧ (a < 18446744073709551616 → b < 18446744073709551616 → u < 18446744073709551616 ∧ v < 18446744073709551616 ∧ ∀ w, (e #[.int .u64 a, .int .u64 b, .int .u64 d]).run P w = .ok (.tuple #[.int .u64 (u : Int), .int .u64 (v : Int)]) w)) :
    FOK P f (un 3 (Fbits p)) := by
  intro vs S k out ok h
  match vs, h with
  | [x, y, z], h =>
    obtain ⟨a, b, d, u, v, rfl, rfl, rfl, h1, h2⟩ := hp (show p x y z _ = some out from h)
    refine ⟨_, S, h1, Abs.refl _ _, fun ρ w args ha hh hr => ?_⟩
    obtain ⟨h3, h4, rfl⟩ := three_w ha
    obtain ⟨h5, h6, h7⟩ := h2 h3 h4
    exact .inr ⟨_, w, by rw [run_callFunc_extern hf hname hb hn he, h7]; rfl, ρ, Post.refl hh, .tu _ _ (.cons _ _ _ _ (w_vr h5) (.cons _ _ _ _ (w_vr h6) .nil))⟩
  | [], h => cases h
  | [_], h => cases h
  | [_, _], h => cases h
  | _ :: _ :: _ :: _ :: _, h => cases h
theorem ext_add {f : FuncId} {fn : Func} (hf : P.funcs[f]? = some fn) (hname : (fn.name == "runtime.NumGoroutine") = false)
    (hb : fn.body.isNone = true) (hn : Extern.findNext fn = none) (he : Extern.find fn = some add64Entry) : FOK P f (un 3 (Fbits pAdd64)) :=
  ext64 hf hname hb hn he fun {x y z c out} h => by
    obtain ⟨a, ex, h1⟩ := vW_some h
    obtain ⟨b, ey, h2⟩ := vW_some h1
    obtain ⟨d, ez, h3⟩ := vW_some h2
    obtain ⟨hd, h4⟩ := gu_some h3
    subst ex ey ez
    have hd := Nat.le_of_ble_eq_true hd
    rw [fN_eq, fN_eq] at h4
    refine ⟨a, b, d, _, _, rfl, rfl, rfl, h4, fun ha hb => ⟨Nat.mod_lt _ (by decide), Nat.div_lt_of_lt_mul (show a + b + d < 18446744073709551616 * 18446744073709551616 by omega), fun w => ?_⟩⟩
    rw [run_add64 (a : Int) (b : Int) (d : Int) (by omega) (by omega) (by omega) (by omega)]
    show _ = Result.ok (Value.tuple #[.int .u64 (((a + b + d) % 18446744073709551616 : Nat) : Int), .int .u64 (((a + b + d) / 18446744073709551616 : Nat) : Int)]) w
    congr 5 <;> omega
theorem ext_sub {f : FuncId} {fn : Func} (hf : P.funcs[f]? = some fn) (hname : (fn.name == "runtime.NumGoroutine") = false)
    (hb : fn.body.isNone = true) (hn : Extern.findNext fn = none) (he : Extern.find fn = some sub64Entry) : FOK P f (un 3 (Fbits pSub64)) :=
  ext64 hf hname hb hn he fun {x y z c out} h => by
    obtain ⟨a, ex, h1⟩ := vW_some h
    obtain ⟨b, ey, h2⟩ := vW_some h1
    obtain ⟨d, ez, h3⟩ := vW_some h2
    obtain ⟨hd, h4⟩ := gu_some h3
    subst ex ey ez
    have hd := Nat.le_of_ble_eq_true hd
    rw [fN_eq] at h4
    refine ⟨a, b, d, (a + 18446744073709551616 - (b + d)) % 18446744073709551616, (if a < b + d then 1 else 0), rfl, rfl, rfl, ?_, fun ha hb => ⟨Nat.mod_lt _ (by decide), by split <;> decide, fun w => ?_⟩⟩
    · have h' : Bool.rec (motive := fun _ => R) (c (.tu [.i .u64 ((a + 18446744073709551616 - (b + d)) % 18446744073709551616), .i .u64 0])) (c (.tu [.i .u64 ((a + 18446744073709551616 - (b + d)) % 18446744073709551616), .i .u64 1])) (Nat.blt a (b + d)) = some out := h4
      by_cases hl : a < b + d
      · rw [if_pos hl]; rw [show Nat.blt a (b + d) = true from Nat.ble_eq_true_of_le hl] at h'; exact h'
      · rw [if_neg hl]; rw [show Nat.blt a (b + d) = false from by cases hq : Nat.blt a (b + d); rfl; exact absurd (Nat.le_of_ble_eq_true hq) hl] at h'; exact h'
    · rw [run_sub64 a b d hd, show a + 18446744073709551616 - b - d = a + 18446744073709551616 - (b + d) by omega]
/-- plain calls of a function with a body -/
theorem top_calls {f : Nat} {fn : Func} {np : Nat} {F : Gn np} (hf : P.funcs[f]? = some fn) (hb : fn.body.isSome = true) (hnm : (fn.name == "runtime.NumGoroutine") = false) (h : FOK P f (un np F)) (vs : List V) (args : Array Value) (ha : VRs (fun _ => none) vs args.toList)
    (hr : yesB (un np F vs S0 fun v S => some (v, S)) = true) (w : World) : Calls P f args w fun e w' => e = .returned (.bool true) ∧ Go.RowKit.Below w.heap.size w w' := by
  obtain ⟨S, hS⟩ := yesB_some hr
  obtain ⟨v, S', h1, h2, h3⟩ := h vs S0 _ _ S0_ok hS
  cases h1
  have hh : HRel (fun _ => none) S0 w := ⟨(fun id L h => by cases h), (fun id L b h => by cases h), (fun id id' L L' b b' h => by cases h)⟩
  have := h3 (fun _ => none) w args ha hh (fun _ _ _ => rfl)
  rcases this with ⟨h4, h5⟩ | ⟨u, w', h4, h5⟩
  · exact h5.mono fun e w' ⟨u, he, ρ', p, q⟩ => ⟨by rw [he, q.b_inv], p.os, p.tape, p.output, p.size, fun k hk => p.frame k hk fun id L h => by cases h⟩
  · exfalso
    simp only [callFunc, Sem.run_bind, run_program, Result.andThen_ok, hf, hnm, Bool.false_eq_true, if_false] at h4
    obtain ⟨c, hc⟩ : ∃ c, fn.body = some c := by cases h : fn.body; rw [h] at hb; cases hb; exact ⟨_, rfl⟩
    simp only [hc, Option.isNone_some] at h4
    cases h4
end Go.AM
