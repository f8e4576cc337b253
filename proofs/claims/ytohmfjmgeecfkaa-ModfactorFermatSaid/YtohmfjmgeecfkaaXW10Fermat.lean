/- Fermat: the law returns true at all arguments. -/
import Derived.Test.YtohmfjmgeecfkaaMFR0
import Derived.Test.YtohmfjmgeecfkaaMFR1
import Derived.Test.YtohmfjmgeecfkaaMFR2
import Derived.Test.YtohmfjmgeecfkaaMFR3
import Derived.Test.YtohmfjmgeecfkaaMFR4
import Derived.Test.YtohmfjmgeecfkaaMFR5
import Derived.Test.YtohmfjmgeecfkaaMFR6
import Derived.Test.YtohmfjmgeecfkaaMFR7
set_option linter.unusedVariables false
set_option linter.unusedSimpArgs false
set_option maxRecDepth 100000
namespace Go.AM
open Go.Proofs
noncomputable section
theorem head3 (f5 : Gn 1) (f6 : Gn 2) (f7 : Gn 2) (f8 : Gn 1) (v0 v1 : V) : G3 (C3 sayT f5 f6 f7 f8) v0 v1 S0 fin = pConv .i64 v0 (fun a0 => pRem a0 (.i .i64 62) (fun q => pConv .i64 v1 (fun a2 => pRem a2 (.i .i64 6) (fun a3 => pAdd (.i .i64 1) a3 (fun k => L3 sayT f5 f6 f7 f8 v0 v1 q k))))) := by rfl
theorem conv8 {n : Nat} (hn : n < 256) (c : V → R) : pConv .i64 (.i .u8 n) c = c (nn n) := by
  show retI c .i64 (cvI .u8 .i64 n) = _
  rw [retI_eq]
  have : cvI .u8 .i64 n = n := by
    unfold cvI
    have : neg .u8 n = false := by rfl
    rw [this]
    show n % 18446744073709551616 = n
    omega
  rw [this]
theorem split3 (f5 : Gn 1) (f6 : Gn 2) (f7 : Gn 2) (f8 : Gn 1) {n m : Nat} (hn : n < 256) (hm : m < 256) : G3 (C3 sayT f5 f6 f7 f8) (.i .u8 n) (.i .u8 m) S0 fin = L3 sayT f5 f6 f7 f8 (.i .u8 n) (.i .u8 m) (nn (n % 62)) (nn (1 + m % 6)) := by
  rw [head3, conv8 hn, rem_n (by omega) (by decide) (by decide), conv8 hm, rem_n (by omega) (by decide) (by decide), add_n (by omega)]
theorem fp2 (v0 v1 : V) : ∀ j, j < 6 → yesB (L3h v0 v1 (nn 2) (nn (1 + j))) = true
  | 0, _ => frun2x1 v0 v1
  | 1, _ => frun2x2 v0 v1
  | 2, _ => frun2x3 v0 v1
  | 3, _ => frun2x4 v0 v1
  | 4, _ => frun2x5 v0 v1
  | 5, _ => frun2x6 v0 v1
  | n + 6, h => absurd h (by omega)
theorem fp3 (v0 v1 : V) : ∀ j, j < 6 → yesB (L3h v0 v1 (nn 3) (nn (1 + j))) = true
  | 0, _ => frun3x1 v0 v1
  | 1, _ => frun3x2 v0 v1
  | 2, _ => frun3x3 v0 v1
  | 3, _ => frun3x4 v0 v1
  | 4, _ => frun3x5 v0 v1
  | 5, _ => frun3x6 v0 v1
  | n + 6, h => absurd h (by omega)
theorem fp5 (v0 v1 : V) : ∀ j, j < 6 → yesB (L3h v0 v1 (nn 5) (nn (1 + j))) = true
  | 0, _ => frun5x1 v0 v1
  | 1, _ => frun5x2 v0 v1
  | 2, _ => frun5x3 v0 v1
  | 3, _ => frun5x4 v0 v1
  | 4, _ => frun5x5 v0 v1
  | 5, _ => frun5x6 v0 v1
  | n + 6, h => absurd h (by omega)
theorem fp7 (v0 v1 : V) : ∀ j, j < 6 → yesB (L3h v0 v1 (nn 7) (nn (1 + j))) = true
  | 0, _ => frun7x1 v0 v1
  | 1, _ => frun7x2 v0 v1
  | 2, _ => frun7x3 v0 v1
  | 3, _ => frun7x4 v0 v1
  | 4, _ => frun7x5 v0 v1
  | 5, _ => frun7x6 v0 v1
  | n + 6, h => absurd h (by omega)
theorem fp11 (v0 v1 : V) : ∀ j, j < 6 → yesB (L3h v0 v1 (nn 11) (nn (1 + j))) = true
  | 0, _ => frun11x1 v0 v1
  | 1, _ => frun11x2 v0 v1
  | 2, _ => frun11x3 v0 v1
  | 3, _ => frun11x4 v0 v1
  | 4, _ => frun11x5 v0 v1
  | 5, _ => frun11x6 v0 v1
  | n + 6, h => absurd h (by omega)
theorem fp13 (v0 v1 : V) : ∀ j, j < 6 → yesB (L3h v0 v1 (nn 13) (nn (1 + j))) = true
  | 0, _ => frun13x1 v0 v1
  | 1, _ => frun13x2 v0 v1
  | 2, _ => frun13x3 v0 v1
  | 3, _ => frun13x4 v0 v1
  | 4, _ => frun13x5 v0 v1
  | 5, _ => frun13x6 v0 v1
  | n + 6, h => absurd h (by omega)
theorem fp17 (v0 v1 : V) : ∀ j, j < 6 → yesB (L3h v0 v1 (nn 17) (nn (1 + j))) = true
  | 0, _ => frun17x1 v0 v1
  | 1, _ => frun17x2 v0 v1
  | 2, _ => frun17x3 v0 v1
  | 3, _ => frun17x4 v0 v1
  | 4, _ => frun17x5 v0 v1
  | 5, _ => frun17x6 v0 v1
  | n + 6, h => absurd h (by omega)
theorem fp19 (v0 v1 : V) : ∀ j, j < 6 → yesB (L3h v0 v1 (nn 19) (nn (1 + j))) = true
  | 0, _ => frun19x1 v0 v1
  | 1, _ => frun19x2 v0 v1
  | 2, _ => frun19x3 v0 v1
  | 3, _ => frun19x4 v0 v1
  | 4, _ => frun19x5 v0 v1
  | 5, _ => frun19x6 v0 v1
  | n + 6, h => absurd h (by omega)
theorem fp23 (v0 v1 : V) : ∀ j, j < 6 → yesB (L3h v0 v1 (nn 23) (nn (1 + j))) = true
  | 0, _ => frun23x1 v0 v1
  | 1, _ => frun23x2 v0 v1
  | 2, _ => frun23x3 v0 v1
  | 3, _ => frun23x4 v0 v1
  | 4, _ => frun23x5 v0 v1
  | 5, _ => frun23x6 v0 v1
  | n + 6, h => absurd h (by omega)
theorem fp29 (v0 v1 : V) : ∀ j, j < 6 → yesB (L3h v0 v1 (nn 29) (nn (1 + j))) = true
  | 0, _ => frun29x1 v0 v1
  | 1, _ => frun29x2 v0 v1
  | 2, _ => frun29x3 v0 v1
  | 3, _ => frun29x4 v0 v1
  | 4, _ => frun29x5 v0 v1
  | 5, _ => frun29x6 v0 v1
  | n + 6, h => absurd h (by omega)
theorem fp31 (v0 v1 : V) : ∀ j, j < 6 → yesB (L3h v0 v1 (nn 31) (nn (1 + j))) = true
  | 0, _ => frun31x1 v0 v1
  | 1, _ => frun31x2 v0 v1
  | 2, _ => frun31x3 v0 v1
  | 3, _ => frun31x4 v0 v1
  | 4, _ => frun31x5 v0 v1
  | 5, _ => frun31x6 v0 v1
  | n + 6, h => absurd h (by omega)
theorem fp37 (v0 v1 : V) : ∀ j, j < 6 → yesB (L3h v0 v1 (nn 37) (nn (1 + j))) = true
  | 0, _ => frun37x1 v0 v1
  | 1, _ => frun37x2 v0 v1
  | 2, _ => frun37x3 v0 v1
  | 3, _ => frun37x4 v0 v1
  | 4, _ => frun37x5 v0 v1
  | 5, _ => frun37x6 v0 v1
  | n + 6, h => absurd h (by omega)
theorem fp41 (v0 v1 : V) : ∀ j, j < 6 → yesB (L3h v0 v1 (nn 41) (nn (1 + j))) = true
  | 0, _ => frun41x1 v0 v1
  | 1, _ => frun41x2 v0 v1
  | 2, _ => frun41x3 v0 v1
  | 3, _ => frun41x4 v0 v1
  | 4, _ => frun41x5 v0 v1
  | 5, _ => frun41x6 v0 v1
  | n + 6, h => absurd h (by omega)
theorem fp43 (v0 v1 : V) : ∀ j, j < 6 → yesB (L3h v0 v1 (nn 43) (nn (1 + j))) = true
  | 0, _ => frun43x1 v0 v1
  | 1, _ => frun43x2 v0 v1
  | 2, _ => frun43x3 v0 v1
  | 3, _ => frun43x4 v0 v1
  | 4, _ => frun43x5 v0 v1
  | 5, _ => frun43x6 v0 v1
  | n + 6, h => absurd h (by omega)
theorem fp47 (v0 v1 : V) : ∀ j, j < 6 → yesB (L3h v0 v1 (nn 47) (nn (1 + j))) = true
  | 0, _ => frun47x1 v0 v1
  | 1, _ => frun47x2 v0 v1
  | 2, _ => frun47x3 v0 v1
  | 3, _ => frun47x4 v0 v1
  | 4, _ => frun47x5 v0 v1
  | 5, _ => frun47x6 v0 v1
  | n + 6, h => absurd h (by omega)
theorem fp53 (v0 v1 : V) : ∀ j, j < 6 → yesB (L3h v0 v1 (nn 53) (nn (1 + j))) = true
  | 0, _ => frun53x1 v0 v1
  | 1, _ => frun53x2 v0 v1
  | 2, _ => frun53x3 v0 v1
  | 3, _ => frun53x4 v0 v1
  | 4, _ => frun53x5 v0 v1
  | 5, _ => frun53x6 v0 v1
  | n + 6, h => absurd h (by omega)
theorem fp59 (v0 v1 : V) : ∀ j, j < 6 → yesB (L3h v0 v1 (nn 59) (nn (1 + j))) = true
  | 0, _ => frun59x1 v0 v1
  | 1, _ => frun59x2 v0 v1
  | 2, _ => frun59x3 v0 v1
  | 3, _ => frun59x4 v0 v1
  | 4, _ => frun59x5 v0 v1
  | 5, _ => frun59x6 v0 v1
  | n + 6, h => absurd h (by omega)
theorem fp61 (v0 v1 : V) : ∀ j, j < 6 → yesB (L3h v0 v1 (nn 61) (nn (1 + j))) = true
  | 0, _ => frun61x1 v0 v1
  | 1, _ => frun61x2 v0 v1
  | 2, _ => frun61x3 v0 v1
  | 3, _ => frun61x4 v0 v1
  | 4, _ => frun61x5 v0 v1
  | 5, _ => frun61x6 v0 v1
  | n + 6, h => absurd h (by omega)
theorem all3 (v0 v1 : V) (j : Nat) (hj : j < 6) : ∀ i, i < 62 → yesB (L3h v0 v1 (nn i) (nn (1 + j))) = true
  | 0, _ => fno0 v0 v1 _
  | 1, _ => fno1 v0 v1 _
  | 2, _ => fp2 v0 v1 j hj
  | 3, _ => fp3 v0 v1 j hj
  | 4, _ => fno4 v0 v1 _
  | 5, _ => fp5 v0 v1 j hj
  | 6, _ => fno6 v0 v1 _
  | 7, _ => fp7 v0 v1 j hj
  | 8, _ => fno8 v0 v1 _
  | 9, _ => fno9 v0 v1 _
  | 10, _ => fno10 v0 v1 _
  | 11, _ => fp11 v0 v1 j hj
  | 12, _ => fno12 v0 v1 _
  | 13, _ => fp13 v0 v1 j hj
  | 14, _ => fno14 v0 v1 _
  | 15, _ => fno15 v0 v1 _
  | 16, _ => fno16 v0 v1 _
  | 17, _ => fp17 v0 v1 j hj
  | 18, _ => fno18 v0 v1 _
  | 19, _ => fp19 v0 v1 j hj
  | 20, _ => fno20 v0 v1 _
  | 21, _ => fno21 v0 v1 _
  | 22, _ => fno22 v0 v1 _
  | 23, _ => fp23 v0 v1 j hj
  | 24, _ => fno24 v0 v1 _
  | 25, _ => fno25 v0 v1 _
  | 26, _ => fno26 v0 v1 _
  | 27, _ => fno27 v0 v1 _
  | 28, _ => fno28 v0 v1 _
  | 29, _ => fp29 v0 v1 j hj
  | 30, _ => fno30 v0 v1 _
  | 31, _ => fp31 v0 v1 j hj
  | 32, _ => fno32 v0 v1 _
  | 33, _ => fno33 v0 v1 _
  | 34, _ => fno34 v0 v1 _
  | 35, _ => fno35 v0 v1 _
  | 36, _ => fno36 v0 v1 _
  | 37, _ => fp37 v0 v1 j hj
  | 38, _ => fno38 v0 v1 _
  | 39, _ => fno39 v0 v1 _
  | 40, _ => fno40 v0 v1 _
  | 41, _ => fp41 v0 v1 j hj
  | 42, _ => fno42 v0 v1 _
  | 43, _ => fp43 v0 v1 j hj
  | 44, _ => fno44 v0 v1 _
  | 45, _ => fno45 v0 v1 _
  | 46, _ => fno46 v0 v1 _
  | 47, _ => fp47 v0 v1 j hj
  | 48, _ => fno48 v0 v1 _
  | 49, _ => fno49 v0 v1 _
  | 50, _ => fno50 v0 v1 _
  | 51, _ => fno51 v0 v1 _
  | 52, _ => fno52 v0 v1 _
  | 53, _ => fp53 v0 v1 j hj
  | 54, _ => fno54 v0 v1 _
  | 55, _ => fno55 v0 v1 _
  | 56, _ => fno56 v0 v1 _
  | 57, _ => fno57 v0 v1 _
  | 58, _ => fno58 v0 v1 _
  | 59, _ => fp59 v0 v1 j hj
  | 60, _ => fno60 v0 v1 _
  | 61, _ => fp61 v0 v1 j hj
  | n + 62, h => absurd h (by omega)
theorem un2 (g : Gn 2) (a b : V) : un 2 g [a, b] = g a b := by rfl
theorem walkModfactorFermat (a b : Int) (W : World) (wa : (Lit.int .u8 a).wf = true) (wb : (Lit.int .u8 b).wf = true) : Calls Try.prog 3 #[.int .u8 a, .int .u8 b] W fun e w' => e = .returned (.bool true) ∧ Go.RowKit.Below W.heap.size W w' := by
  have hv : VRs (fun _ => none) [.i .u8 (a % (M .u8 : Int)).toNat, .i .u8 (b % (M .u8 : Int)).toNat] (#[.int .u8 a, .int .u8 b] : Array Value).toList := .cons _ _ _ _ (vr_wf wa) (.cons _ _ _ _ (vr_wf wb) .nil)
  have h1 : (a % (M .u8 : Int)).toNat < 256 := by have h := Int.emod_lt_of_pos a (b := (M .u8 : Int)) (by decide); have h2 : (M .u8 : Int) = 256 := rfl; omega
  have h2 : (b % (M .u8 : Int)).toNat < 256 := by have h := Int.emod_lt_of_pos b (b := (M .u8 : Int)) (by decide); have h2 : (M .u8 : Int) = 256 := rfl; omega
  refine top_calls Try.func3 (by kernel_rfl) (by kernel_rfl) K3h _ _ hv ?_ W
  rw [un2]
  show yesB (G3 (C3 sayT F5 F6h F7 F8) _ _ S0 fin) = true
  rw [split3 _ _ _ _ h1 h2]
  exact all3 _ _ _ (Nat.mod_lt _ (by decide)) _ (Nat.mod_lt _ (by decide))
end
end Go.AM
