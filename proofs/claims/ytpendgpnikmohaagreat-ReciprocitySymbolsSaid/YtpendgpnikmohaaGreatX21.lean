/- Functions given by their printed texts. -/
import Derived.Test.YtpendgpnikmohaaGreatX20
import Derived.KernelRfl
namespace Go.AM
set_option linter.unusedVariables false
variable {P : Program}
theorem fokP {l t : List (Nat × Fun)} (hl : LOK P l) (ht : LOK P t) (hm : P.follows .mixedOrders = true) {f : FuncId} {fn : Func} (hf : P.funcs[f]? = some fn) {vars : List Nat} {n np : Nat}
    (hc : (fn.body.isSome && !(fn.name == "runtime.NumGoroutine") && Nat.beq vars.length n && parB 0 vars np && Nat.ble np n && Nat.ble np fn.ntmps) = true) {C : CS n} (hC : denCode P ⟨l, t⟩ vars n fn.ntmps (fn.body.getD .skip) = C) {F : Gn np}
    (hF : cur np (fnB P vars n np fn.results.toList C) = F) : FOK P f (un np F) := by
  simp only [Bool.and_eq_true, Bool.not_eq_true'] at hc
  obtain ⟨⟨⟨⟨⟨h1, h2⟩, h3⟩, h4⟩, h5⟩, h6⟩ := hc
  have hb : fn.body = some (fn.body.getD .skip) := by cases h : fn.body; rw [h] at h1; cases h1; rfl
  exact fok (Cx.ok hl ht) hm hf hb h2 h3 h4 h5 h6 hC hF
end Go.AM
