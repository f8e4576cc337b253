/- One text or another. -/
import Derived.Test.YtpendgpnikmohaaGreatXM5
namespace Go.AM
variable {P : Program}
noncomputable section
def orF (A B : Fun) : Fun := fun vs S k => match A vs S k with | some r => some r | none => B vs S k
theorem orF_ok {f : FuncId} {A B : Fun} (hA : FOK P f A) (hB : FOK P f B) : FOK P f (orF A B) := by
  intro vs S k out ok h
  simp only [orF] at h
  cases hq : A vs S k with
  | none => rw [hq] at h; exact hB vs S k out ok h
  | some r => rw [hq] at h; cases h; exact hA vs S k _ ok hq
theorem cur_ok {f : FuncId} {A : Fun} (n : Nat) (hA : FOK P f A) : FOK P f (un n (cur n A)) := fun vs S k out ok h => hA vs S k out ok (un_cur n A vs S k h).2
end
end Go.AM
