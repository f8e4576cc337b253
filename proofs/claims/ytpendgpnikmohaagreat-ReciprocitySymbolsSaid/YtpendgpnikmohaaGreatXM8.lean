/- A function of flat values that was run at one of them in the empty memory, told as pure. -/
import Derived.Test.YtpendgpnikmohaaGreatXM7
import Derived.Test.YtpendgpnikmohaaGreatX26
namespace Go.AM
set_option linter.unusedVariables false
set_option linter.unusedSimpArgs false
noncomputable section
variable {P : Program}
def flatT : V → Bool
  | .tu l => flatL l
  | v => flatV v
theorem flatV_ok (p : Pos → Bool) {v : V} (h : flatV v = true) : okV p v = true := by cases v <;> first | rfl | cases h
theorem flatL_ok (p : Pos → Bool) : ∀ {l : List V}, flatL l = true → okL p l = true
  | [], _ => rfl
  | v :: l, h => by
    simp only [flatL, Bool.and_eq_true] at h
    simp only [okL, flatV_ok p h.1, flatL_ok p h.2, Bool.and_self]
theorem flatT_ok (p : Pos → Bool) {v : V} (h : flatT v = true) : okV p v = true := by
  cases v <;> first | rfl | cases h | skip
  simp only [okV]; exact flatL_ok p h
theorem flatT_ren (π : Pos → Pos) {v : V} (h : flatT v = true) : renV π v = v := by
  cases v <;> first | rfl | cases h | skip
  simp only [renV]; rw [flat_renL π h]
theorem flatT_eq {v : V} (h : flatT v = true) : eqV v v = true := by
  cases v <;> first | cases h | skip
  all_goals first
    | exact eqV_refl _ (fun e => by cases e) (by rfl)
    | (simp only [eqV]; exact eqL_refl h)
/-- what a table of flat values tells -/
def pureF (D : List V → Option V) : Fun := fun vs S k => match D vs with
  | some v => k v S
  | none => none
theorem pure_ok {f : FuncId} {F : Fun} (hF : FOK P f F) (D : List V → Option V)
    (h : ∀ vs v, D vs = some v → flatL vs = true ∧ flatT v = true ∧ ∃ S2, F vs (mkS []) (fun v S => some (v, S)) = some (v, S2)) : FOK P f (pureF D) := by
  intro vs S k out ok h'
  simp only [pureF] at h'
  cases hd : D vs with
  | none => rw [hd] at h'; cases h'
  | some v =>
    rw [hd] at h'
    obtain ⟨h1, h2, S2, h3⟩ := h vs v hd
    have hs : stat [] vs v [] = true := by
      simp only [stat, flatL_ok _ h1, flatT_ok _ h2, List.all_nil, nd, Bool.and_self]
    have hr : runOk (F vs (mkS []) fun v S => some (v, S)) v [] = true := by
      rw [h3]; simp only [runOk, flatT_eq h2, List.all_nil, Bool.and_self]
    refine memo_ok hF hs hr vs S k out ok ?_
    have ha : ∀ e, argsOk [] vs vs S e = true := fun e => by
      simp only [argsOk, flat_renL _ h1, eqL_refl h1, blksOk, List.length_nil, injOk, Bool.and_self]
    simp only [memoF, ha, cond_true, layK_eq, forceT_eq, flatT_ren _ h2, List.map_nil, layS]
    exact h'
end
end Go.AM
