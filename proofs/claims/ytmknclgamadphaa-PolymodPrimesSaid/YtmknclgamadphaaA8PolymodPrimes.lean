/- Congruence of polynomials modulo a polynomial. No program in sight. -/
import Derived.Test.YtmknclgamadphaaA4PolymodPrimes
import Derived.Test.YtmknclgamadphaaA7PolymodPrimes
namespace Go.Proofs.Ytmknclgamadphaa.MPolymodPrimes
set_option linter.unusedVariables false
set_option linter.unusedSimpArgs false
theorem id_cgadd {R : Type} [CR R] (a b c d : R) : a + c - (b + d) = (a - b) + (c - d) := by
  have h := CR.solve [a, b, c, d] (.v 0 + .v 2 - (.v 1 + .v 3)) ((.v 0 - .v 1) + (.v 2 - .v 3)) (by decide +kernel)
  exact h
theorem id_cgmul {R : Type} [CR R] (a b c d : R) : a * c - b * d = c * (a - b) + b * (c - d) := by
  have h := CR.solve [a, b, c, d] (.v 0 * .v 2 - .v 1 * .v 3) (.v 2 * (.v 0 - .v 1) + .v 1 * (.v 2 - .v 3)) (by decide +kernel)
  exact h
theorem id_cgtrans {R : Type} [CR R] (a b c : R) : a - c = (a - b) + (b - c) := by
  have h := CR.solve [a, b, c] (.v 0 - .v 2) ((.v 0 - .v 1) + (.v 1 - .v 2)) (by decide +kernel)
  exact h
theorem id_cgsymm {R : Type} [CR R] (a b : R) : b - a = -(a - b) := by
  have h := CR.solve [a, b] (.v 1 - .v 0) (.neg (.v 0 - .v 1)) (by decide +kernel)
  exact h
theorem id_cgrem {R : Type} [CR R] {f q g r : R} (h : f = q * g + r) : f - r = q * g := by
  have h2 := CR.solve1 (l := [f, q, g, r]) h (.v 0 - .v 3) (.v 1 * .v 2) (.v 0) (.v 1 * .v 2 + .v 3) (.neg .o) rfl rfl (by decide +kernel)
  exact h2
namespace Fx
variable {p : Int}
/-- A polynomial: a bound of its degree. -/
def Po (f : Fx p) : Prop := ∃ n, f.bd n
theorem Po.add {f g : Fx p} : Po f → Po g → Po (f + g) := fun ⟨n, h⟩ ⟨m, k⟩ => ⟨max n m, (h.mono (by omega)).add (k.mono (by omega))⟩
theorem Po.sub {f g : Fx p} : Po f → Po g → Po (f - g) := fun ⟨n, h⟩ ⟨m, k⟩ => ⟨max n m, (h.mono (by omega)).sub (k.mono (by omega))⟩
theorem Po.mul {f g : Fx p} : Po f → Po g → Po (f * g) := fun ⟨n, h⟩ ⟨m, k⟩ => ⟨n + m, mul_bd' h k⟩
theorem po_mono (a : Int) (k : Nat) : Po (mono p a k) := ⟨k + 1, mono_bd a k⟩
theorem po_toF (l : List Int) : Po (toF p l) := ⟨_, toF_bd p l⟩
theorem po_one : Po (1 : Fx p) := ⟨1, bd_one⟩
theorem Po.pw {f : Fx p} (h : Po f) (n : Nat) : Po (CR.pw f n) := by
  induction n with
  | zero => exact po_one
  | succ n ih => exact ih.mul h
/-- a and b leave the same remainder by g. -/
structure Cg (g a b : Fx p) : Prop where
  pa : Po a
  pb : Po b
  dv : Dvd g (a - b)
theorem Cg.refl {g a : Fx p} (h : Po a) : Cg g a a := ⟨h, h, by rw [CR.sub_self]; exact Dvd.zero g⟩
theorem Cg.symm {g a b : Fx p} (h : Cg g a b) : Cg g b a := ⟨h.pb, h.pa, by rw [id_cgsymm]; exact h.dv.neg⟩
theorem Cg.trans {g a b c : Fx p} (h : Cg g a b) (k : Cg g b c) : Cg g a c := ⟨h.pa, k.pb, by rw [id_cgtrans a b c]; exact h.dv.add k.dv⟩
theorem Cg.add {g a b c d : Fx p} (h : Cg g a b) (k : Cg g c d) : Cg g (a + c) (b + d) := ⟨h.pa.add k.pa, h.pb.add k.pb, by rw [id_cgadd]; exact h.dv.add k.dv⟩
theorem Cg.mul {g a b c d : Fx p} (h : Cg g a b) (k : Cg g c d) : Cg g (a * c) (b * d) := by
  obtain ⟨n, hn⟩ := k.pa
  obtain ⟨m, hm⟩ := h.pb
  exact ⟨h.pa.mul k.pa, h.pb.mul k.pb, by rw [id_cgmul]; exact (h.dv.mul hn).add (k.dv.mul hm)⟩
theorem Cg.pw {g a b : Fx p} (h : Cg g a b) (n : Nat) : Cg g (CR.pw a n) (CR.pw b n) := by
  induction n with
  | zero => exact Cg.refl po_one
  | succ n ih => exact ih.mul h
theorem cg_rem {g f q r : Fx p} (hq : Po q) (hg : Po g) (hr : Po r) (h : f = q * g + r) : Cg g f r := by
  obtain ⟨n, hn⟩ := hq
  exact ⟨by rw [h]; exact (Po.mul ⟨n, hn⟩ hg).add hr, hr, ⟨q, n, hn, id_cgrem h⟩⟩
theorem Cg.eq (hp : Prime p) {g a b : Fx p} {k : Nat} (hg : g.top k) (h : Cg g a b) (ha : a.bd k) (hb : b.bd k) : a = b := by
  refine CR.sub_eq_zero (Classical.byContradiction fun hne => ?_)
  obtain ⟨j, hj, ht⟩ := exists_top (ha.sub hb) hne
  have := h.dv.le hp hg ht
  omega
end Fx
theorem DM.cg {p : Int} {f g q r : List Int} (h : DM p f g q r) : Fx.Cg (toF p g) (toF p f) (toF p r) := Fx.cg_rem (Fx.po_toF q) (Fx.po_toF g) (Fx.po_toF r) h.eq
end Go.Proofs.Ytmknclgamadphaa.MPolymodPrimes
