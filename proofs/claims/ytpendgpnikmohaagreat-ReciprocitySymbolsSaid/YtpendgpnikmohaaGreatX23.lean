/- What a run of a function shows, used as that function's text. -/
import Derived.Test.YtpendgpnikmohaaGreatX22
namespace Go.AM
set_option linter.unusedVariables false
variable {P : Program} {out : V × St}
theorem HRel.below {ρ : Ren} {S : St} {w w' : World} (h : HRel ρ S w) (b : Go.RowKit.Below w.heap.size w w') : HRel ρ S w' := by
  refine ⟨fun id L hL => Nat.lt_of_lt_of_le (h.at_ id L hL) b.size, fun id L blk hL hb h0 => ?_, h.inj⟩
  obtain ⟨c, e, fr, h1, h2⟩ := h.cells id L blk hL hb h0
  exact ⟨c, e, fr, (b.block _ (h.at_ id L hL)).trans h1, h2⟩
theorem Post.below {ρ : Ren} {fl : Nat} {S : St} {w w' : World} (h : HRel ρ S w) (b : Go.RowKit.Below w.heap.size w w') : Post ρ fl S S w w' ρ :=
  ⟨fun _ _ => rfl, h.below b, b.os, b.tape, b.output, b.size, fun k hk _ => b.block k hk, fun id L h1 h2 => by omega⟩
theorem CallsX.mono {f : FuncId} {args : Array Value} {w : World} {T T' : Value → World → Prop} (h : CallsX P f args w T) (k : ∀ u w', T u w' → T' u w') : CallsX P f args w T' := by
  rcases h with ⟨h1, h2⟩ | ⟨u, w', h1, h2⟩
  · exact .inl ⟨h1, h2.mono fun e w' ⟨u, he, ht⟩ => ⟨u, he, k _ _ ht⟩⟩
  · exact .inr ⟨u, w', h1, k _ _ h2⟩
/-- a function that hands back true -/
def sayT : Gn 0 := fun S k => k (.b true) S
theorem yes_ok {f : Nat} (h : ∀ w, CallsX P f #[] w fun u w' => u = .bool true ∧ Go.RowKit.Below w.heap.size w w') : FOK P f (un 0 sayT) := by
  intro vs S k out ok h'
  cases vs with
  | cons v l => cases h'
  | nil =>
    refine ⟨.b true, S, h', Abs.refl _ _, fun ρ w args ha hh hr => ?_⟩
    obtain ⟨l⟩ := args
    cases ha
    exact (h w).mono fun u w' ⟨hu, hb⟩ => ⟨ρ, Post.below hh hb, by rw [hu]; exact .b _⟩
theorem pRem_nat {a b : Nat} {c : V → R} : pRem (.i .u8 a) (.i .u8 (b + 1)) c = c (.i .u8 (a % (b + 1))) := by
  show retI c .u8 (Nat.mod a (b + 1)) = _
  exact retI_eq _ _ _
end Go.AM
