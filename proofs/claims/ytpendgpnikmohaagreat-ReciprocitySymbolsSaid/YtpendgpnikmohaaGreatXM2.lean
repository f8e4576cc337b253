/- Blocks laid one after the other. -/
import Derived.Test.YtpendgpnikmohaaGreatXM1
namespace Go.AM
set_option linter.unusedVariables false
def layS : List (List V) → St → St
  | [], S => S
  | cs :: r, S => layS r (S.new cs)
theorem layS_ok : ∀ (l : List (List V)) (S : St), SOK S → SOK (layS l S) ∧ (layS l S).cnt = S.cnt + l.length ∧ (layS l S).fl = S.fl ∧ (∀ q : Pos, q.num < S.cnt → (layS l S).h.get q = S.h.get q) ∧
    (∀ (j : Nat) (cs : List V), l[j]? = some cs → ∀ q : Pos, q.num = S.cnt + j → (layS l S).h.get q = some ⟨S.cnt + j, cs⟩)
  | [], S, ok => ⟨ok, rfl, rfl, fun _ _ => rfl, fun j cs h => by simp at h⟩
  | c :: r, S, ok => by
    obtain ⟨h1, h2, h3, h4, h5⟩ := layS_ok r (S.new c) (ok.new c)
    have hc : (S.new c).cnt = S.cnt + 1 := rfl
    refine ⟨h1, by simp only [layS, h2, hc, List.length_cons]; omega, h3, fun q hq => ?_, fun j cs hj q hq => ?_⟩
    · show (layS r (S.new c)).h.get q = _
      rw [h4 q (by omega), St.new_get_ne c fun e => by rw [e, ok.nx] at hq; omega]
    · show (layS r (S.new c)).h.get q = _
      cases j with
      | zero =>
        simp at hj; subst hj
        have : q = S.nx := Pos.num_inj _ _ (by rw [hq, ok.nx]; rfl)
        rw [h4 q (by omega), this, St.new_get]; rfl
      | succ j =>
        rw [h5 j cs (by simpa using hj) q (by omega), hc]
        congr 2; omega
end Go.AM
