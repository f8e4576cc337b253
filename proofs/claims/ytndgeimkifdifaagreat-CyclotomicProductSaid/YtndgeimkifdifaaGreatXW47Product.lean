/- Product: the law returns true at all arguments. -/
import Derived.Test.YtndgeimkifdifaaGreatMPR0
import Derived.Test.YtndgeimkifdifaaGreatMPR1
import Derived.Test.YtndgeimkifdifaaGreatMPR2
import Derived.Test.YtndgeimkifdifaaGreatMPR3
import Derived.Test.YtndgeimkifdifaaGreatMPR4
import Derived.Test.YtndgeimkifdifaaGreatMPR5
import Derived.Test.YtndgeimkifdifaaGreatMPR6
import Derived.Test.YtndgeimkifdifaaGreatMPR7
import Derived.Test.YtndgeimkifdifaaGreatMPR8
import Derived.Test.YtndgeimkifdifaaGreatMPR9
import Derived.Test.YtndgeimkifdifaaGreatXD
set_option linter.unusedVariables false
set_option linter.unusedSimpArgs false
set_option maxRecDepth 100000
namespace Go.AM
open Go.Proofs
noncomputable section
theorem head6 (f12 : Gn 1) (f32 : Gn 1) (f33 : Gn 1) (f34 : Gn 1) (f35 : Gn 2) (f36 : Gn 1) (f37 : Gn 2) (f38 : Gn 1) (f39 : Gn 2) (f40 : Gn 2) (f41 : Gn 2) (v0 : V) : G6 (C6 f12 sayT f32 f33 f34 f35 f36 f37 f38 f39 f40 f41) v0 S0 fin = pConv .i64 v0 (fun a0 => pRem a0 (.i .i64 60) (fun a1 => pAdd (.i .i64 1) a1 (fun n => L6 f12 sayT f32 f33 f34 f35 f36 f37 f38 f39 f40 f41 v0 n))) := by rfl
theorem conv8 {n : Nat} (hn : n < 256) (c : V → R) : pConv .i64 (.i .u8 n) c = c (.i .i64 n) := by
  show retI c .i64 (cvI .u8 .i64 n) = _
  rw [retI_eq]
  have : cvI .u8 .i64 n = n := by
    unfold cvI
    have : neg .u8 n = false := by rfl
    rw [this]
    show n % 18446744073709551616 = n
    omega
  rw [this]
theorem split6 (f12 : Gn 1) (f32 : Gn 1) (f33 : Gn 1) (f34 : Gn 1) (f35 : Gn 2) (f36 : Gn 1) (f37 : Gn 2) (f38 : Gn 1) (f39 : Gn 2) (f40 : Gn 2) (f41 : Gn 2) {n : Nat} (hn : n < 256) : G6 (C6 f12 sayT f32 f33 f34 f35 f36 f37 f38 f39 f40 f41) (.i .u8 n) S0 fin = L6 f12 sayT f32 f33 f34 f35 f36 f37 f38 f39 f40 f41 (.i .u8 n) (.i .i64 (1 + n % 60)) := by
  rw [head6, conv8 hn, rem_n (by omega) (by decide) (by decide), add_n (by omega)]
theorem all6 (v0 : V) : ∀ i, i < 60 → yesB (L6h v0 (.i .i64 (1 + i))) = true
  | 0, _ => prun1 v0
  | 1, _ => prun2 v0
  | 2, _ => prun3 v0
  | 3, _ => prun4 v0
  | 4, _ => prun5 v0
  | 5, _ => prun6 v0
  | 6, _ => prun7 v0
  | 7, _ => prun8 v0
  | 8, _ => prun9 v0
  | 9, _ => prun10 v0
  | 10, _ => prun11 v0
  | 11, _ => prun12 v0
  | 12, _ => prun13 v0
  | 13, _ => prun14 v0
  | 14, _ => prun15 v0
  | 15, _ => prun16 v0
  | 16, _ => prun17 v0
  | 17, _ => prun18 v0
  | 18, _ => prun19 v0
  | 19, _ => prun20 v0
  | 20, _ => prun21 v0
  | 21, _ => prun22 v0
  | 22, _ => prun23 v0
  | 23, _ => prun24 v0
  | 24, _ => prun25 v0
  | 25, _ => prun26 v0
  | 26, _ => prun27 v0
  | 27, _ => prun28 v0
  | 28, _ => prun29 v0
  | 29, _ => prun30 v0
  | 30, _ => prun31 v0
  | 31, _ => prun32 v0
  | 32, _ => prun33 v0
  | 33, _ => prun34 v0
  | 34, _ => prun35 v0
  | 35, _ => prun36 v0
  | 36, _ => prun37 v0
  | 37, _ => prun38 v0
  | 38, _ => prun39 v0
  | 39, _ => prun40 v0
  | 40, _ => prun41 v0
  | 41, _ => prun42 v0
  | 42, _ => prun43 v0
  | 43, _ => prun44 v0
  | 44, _ => prun45 v0
  | 45, _ => prun46 v0
  | 46, _ => prun47 v0
  | 47, _ => prun48 v0
  | 48, _ => prun49 v0
  | 49, _ => prun50 v0
  | 50, _ => prun51 v0
  | 51, _ => prun52 v0
  | 52, _ => prun53 v0
  | 53, _ => prun54 v0
  | 54, _ => prun55 v0
  | 55, _ => prun56 v0
  | 56, _ => prun57 v0
  | 57, _ => prun58 v0
  | 58, _ => prun59 v0
  | 59, _ => prun60 v0
  | n + 60, h => absurd h (by omega)
theorem un1x (g : Gn 1) (a : V) : un 1 g [a] = g a := by rfl
theorem walkCyclotomicProduct (a : Int) (W : World) (wa : (Lit.int .u8 a).wf = true) : Calls Tryz.prog 6 #[.int .u8 a] W fun e w' => e = .returned (.bool true) ∧ Go.RowKit.Below W.heap.size W w' := by
  have hv : VRs (fun _ => none) [.i .u8 (a % (M .u8 : Int)).toNat] (#[.int .u8 a] : Array Value).toList := .cons _ _ _ _ (vr_wf wa) .nil
  have h1 : (a % (M .u8 : Int)).toNat < 256 := by have h := Int.emod_lt_of_pos a (b := (M .u8 : Int)) (by decide); have h2 : (M .u8 : Int) = 256 := rfl; omega
  refine top_calls Tryz.func6 (by kernel_rfl) (by kernel_rfl) K6h _ _ hv ?_ W
  rw [un1x]
  show yesB (G6 (C6 F12h sayT F32 F33 F34 F35h F36 F37h F38 F39 F40h F41) _ S0 fin) = true
  rw [split6 _ _ _ _ _ _ _ _ _ _ _ h1]
  exact all6 _ _ (Nat.mod_lt _ (by decide))
end
end Go.AM
