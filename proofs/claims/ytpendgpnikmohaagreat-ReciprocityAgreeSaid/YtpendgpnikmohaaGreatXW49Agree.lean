/- Agree: the law returns true at all arguments. -/
import Derived.Test.YtpendgpnikmohaaGreatMGV
import Derived.Test.YtpendgpnikmohaaGreatMGR0
import Derived.Test.YtpendgpnikmohaaGreatMGR1
import Derived.Test.YtpendgpnikmohaaGreatMGR2
import Derived.Test.YtpendgpnikmohaaGreatMGR3
import Derived.Test.YtpendgpnikmohaaGreatMGR4
import Derived.Test.YtpendgpnikmohaaGreatMGR5
import Derived.Test.YtpendgpnikmohaaGreatMGR6
import Derived.Test.YtpendgpnikmohaaGreatMGR7
import Derived.Test.YtpendgpnikmohaaGreatMGR8
import Derived.Test.YtpendgpnikmohaaGreatMGR9
import Derived.Test.YtpendgpnikmohaaGreatMGR10
import Derived.Test.YtpendgpnikmohaaGreatMGR11
import Derived.Test.YtpendgpnikmohaaGreatMGR12
import Derived.Test.YtpendgpnikmohaaGreatMGR13
set_option linter.unusedVariables false
set_option linter.unusedSimpArgs false
set_option maxRecDepth 100000
namespace Go.AM
open Go.Proofs
noncomputable section
theorem head10 (f26 : Gn 2) (f27 : Gn 1) (f29 : Gn 2) (f30 : Gn 2) (f31 : Gn 2) (f32 : Gn 1) (f33 : Gn 2) (f35 : Gn 2) (f36 : Gn 2) (v0 v1 : V) : G10 (C10 sayT f26 f27 f29 f30 f31 f32 f33 f35 f36) v0 v1 S0 fin = f32 v0 S0 (fun a S => f32 v1 S (fun b S => R10 sayT f26 f27 f29 f30 f31 f32 f33 f35 f36 (fun v0 v1 v2 v3 v4 v5 v6 v7 v8 v9 v10 v11 v12 v13 v14 v15 v16 v17 v18 v19 v20 v21 v22 v23 v24 S => fin v24 S) (fun _ => bot 25) (fun v0 v1 v2 v3 v4 v5 v6 v7 v8 v9 v10 v11 v12 v13 v14 v15 v16 v17 v18 v19 v20 v21 v22 v23 v24 S => fin v24 S) v0 v1 (.b false) a b .other .other .other .other .other .other .other .other .other .other .other .other .other .other .other .other .other .other .other (.b false) S)) := by rfl
theorem split10 (f26 : Gn 2) (f27 : Gn 1) (f29 : Gn 2) (f30 : Gn 2) (f31 : Gn 2) (f32 : Gn 1) (f33 : Gn 2) (f35 : Gn 2) (f36 : Gn 2) (v0 v1 a b : V) (ha : ∀ k : Cont, f32 v0 S0 k = k a S0) (hb : ∀ k : Cont, f32 v1 S0 k = k b S0) : G10 (C10 sayT f26 f27 f29 f30 f31 f32 f33 f35 f36) v0 v1 S0 fin = L10 sayT f26 f27 f29 f30 f31 f32 f33 f35 f36 v0 v1 a b := by
  rw [head10, ha, hb]; rfl
def C32r (a0 : V) (f47 : Gn 1) : CS 6 := (cSeq (cReg fun kn v0 v1 v2 v3 v4 v5 S => kn v0 v1 v2 v3 v4 (.i .i64 0) S) (cSeq (cReg fun kn v0 v1 v2 v3 v4 v5 S => kn v0 v1 (.i .i64 3) v3 v4 v5 S) (cSeq (cSeq (cReg fun kn v0 v1 v2 v3 v4 v5 S => pConv .i64 a0 (fun a1 => kn v0 a1 v2 v3 v4 v5 S)) (cBlock 0 (cLoop (cSeq (cSeq (cReg fun kn v0 v1 v2 v3 v4 v5 S => pGtr v1 (.i .i64 0) (fun a0 => pGd a0 false (fun c => c v2 S) S (fun a1 S => pGd a0 false (fun c => f47 a1 S c) S (fun a2 S => pGd a0 false (fun c => pNot a2 (fun v => c v S)) S (fun a3 S => pPick a0 (.b true) a3 (fun a4 => kn v0 v1 v2 a4 v4 v5 S)))))) (cCond (fun x y v0 v1 v2 v3 v4 v5 S => pIf v3 (x v0 v1 v2 v3 v4 v5 S) (y v0 v1 v2 v3 v4 v5 S)) cSkip (cExit 0))) (cSeq (cBlock 1 (cSeq (cReg fun kn v0 v1 v2 v3 v4 v5 S => f47 v2 S (fun a0 S => kn v0 v1 v2 v3 a0 v5 S)) (cCond (fun x y v0 v1 v2 v3 v4 v5 S => pIf v4 (x v0 v1 v2 v3 v4 v5 S) (y v0 v1 v2 v3 v4 v5 S)) (cReg fun kn v0 v1 v2 v3 v4 v5 S => pSub v1 (.i .i64 1) (fun a0 => kn v0 a0 v2 v3 v4 v5 S)) cSkip))) (cReg fun kn v0 v1 v2 v3 v4 v5 S => pAdd v2 (.i .i64 1) (fun a0 => kn v0 v1 a0 v3 v4 v5 S))))))) (cSeq (cReg fun kn v0 v1 v2 v3 v4 v5 S => kn v0 v1 v2 v3 v4 v2 S) cRet))))
theorem sm_split (v : V) (S : St) (k : Cont) : F32 v S k = pRem v (.i .u8 10) (fun a0 => G32 (C32r a0 F47) v S k) := by rfl
theorem sm_at (n i : Nat) (h : n % 10 = i) (S : St) (k : Cont) : F32 (.i .u8 n) S k = G32 (C32r (.i .u8 i) F47) (.i .u8 n) S k := by
  rw [sm_split, pRem_nat, h]
theorem sm0 (v : V) (S : St) (k : Cont) : G32 (C32r (.i .u8 0) F47) v S k = k (.i .i64 3) S := by kernel_rfl
theorem sm1 (v : V) (S : St) (k : Cont) : G32 (C32r (.i .u8 1) F47) v S k = k (.i .i64 5) S := by kernel_rfl
theorem sm2 (v : V) (S : St) (k : Cont) : G32 (C32r (.i .u8 2) F47) v S k = k (.i .i64 7) S := by kernel_rfl
theorem sm3 (v : V) (S : St) (k : Cont) : G32 (C32r (.i .u8 3) F47) v S k = k (.i .i64 11) S := by kernel_rfl
theorem sm4 (v : V) (S : St) (k : Cont) : G32 (C32r (.i .u8 4) F47) v S k = k (.i .i64 13) S := by kernel_rfl
theorem sm5 (v : V) (S : St) (k : Cont) : G32 (C32r (.i .u8 5) F47) v S k = k (.i .i64 17) S := by kernel_rfl
theorem sm6 (v : V) (S : St) (k : Cont) : G32 (C32r (.i .u8 6) F47) v S k = k (.i .i64 19) S := by kernel_rfl
theorem sm7 (v : V) (S : St) (k : Cont) : G32 (C32r (.i .u8 7) F47) v S k = k (.i .i64 23) S := by kernel_rfl
theorem sm8 (v : V) (S : St) (k : Cont) : G32 (C32r (.i .u8 8) F47) v S k = k (.i .i64 29) S := by kernel_rfl
theorem sm9 (v : V) (S : St) (k : Cont) : G32 (C32r (.i .u8 9) F47) v S k = k (.i .i64 31) S := by kernel_rfl
theorem toP (n : Nat) : n % 10 = 0 ∨ n % 10 = 1 ∨ n % 10 = 2 ∨ n % 10 = 3 ∨ n % 10 = 4 ∨ n % 10 = 5 ∨ n % 10 = 6 ∨ n % 10 = 7 ∨ n % 10 = 8 ∨ n % 10 = 9 := by omega
theorem row0 (n m : Nat) (h : n % 10 = 0) : yesB (F10h (.i .u8 n) (.i .u8 m) S0 fin) = true := by
  rcases toP m with g | g | g | g | g | g | g | g | g | g
  · show yesB (G10 (C10 sayT F26 F27 F29 F30 F31 F32 F33h F35h F36) _ _ S0 fin) = true
    rw [split10 _ _ _ _ _ _ _ _ _ _ _ _ _ (fun k => (sm_at n 0 h S0 k).trans (sm0 _ _ _)) (fun k => (sm_at m 0 g S0 k).trans (sm0 _ _ _))]
    exact grun0x0 _ _
  · show yesB (G10 (C10 sayT F26 F27 F29 F30 F31 F32 F33h F35h F36) _ _ S0 fin) = true
    rw [split10 _ _ _ _ _ _ _ _ _ _ _ _ _ (fun k => (sm_at n 0 h S0 k).trans (sm0 _ _ _)) (fun k => (sm_at m 1 g S0 k).trans (sm1 _ _ _))]
    exact grun0x1 _ _
  · show yesB (G10 (C10 sayT F26 F27 F29 F30 F31 F32 F33h F35h F36) _ _ S0 fin) = true
    rw [split10 _ _ _ _ _ _ _ _ _ _ _ _ _ (fun k => (sm_at n 0 h S0 k).trans (sm0 _ _ _)) (fun k => (sm_at m 2 g S0 k).trans (sm2 _ _ _))]
    exact grun0x2 _ _
  · show yesB (G10 (C10 sayT F26 F27 F29 F30 F31 F32 F33h F35h F36) _ _ S0 fin) = true
    rw [split10 _ _ _ _ _ _ _ _ _ _ _ _ _ (fun k => (sm_at n 0 h S0 k).trans (sm0 _ _ _)) (fun k => (sm_at m 3 g S0 k).trans (sm3 _ _ _))]
    exact grun0x3 _ _
  · show yesB (G10 (C10 sayT F26 F27 F29 F30 F31 F32 F33h F35h F36) _ _ S0 fin) = true
    rw [split10 _ _ _ _ _ _ _ _ _ _ _ _ _ (fun k => (sm_at n 0 h S0 k).trans (sm0 _ _ _)) (fun k => (sm_at m 4 g S0 k).trans (sm4 _ _ _))]
    exact grun0x4 _ _
  · show yesB (G10 (C10 sayT F26 F27 F29 F30 F31 F32 F33h F35h F36) _ _ S0 fin) = true
    rw [split10 _ _ _ _ _ _ _ _ _ _ _ _ _ (fun k => (sm_at n 0 h S0 k).trans (sm0 _ _ _)) (fun k => (sm_at m 5 g S0 k).trans (sm5 _ _ _))]
    exact grun0x5 _ _
  · show yesB (G10 (C10 sayT F26 F27 F29 F30 F31 F32 F33h F35h F36) _ _ S0 fin) = true
    rw [split10 _ _ _ _ _ _ _ _ _ _ _ _ _ (fun k => (sm_at n 0 h S0 k).trans (sm0 _ _ _)) (fun k => (sm_at m 6 g S0 k).trans (sm6 _ _ _))]
    exact grun0x6 _ _
  · show yesB (G10 (C10 sayT F26 F27 F29 F30 F31 F32 F33h F35h F36) _ _ S0 fin) = true
    rw [split10 _ _ _ _ _ _ _ _ _ _ _ _ _ (fun k => (sm_at n 0 h S0 k).trans (sm0 _ _ _)) (fun k => (sm_at m 7 g S0 k).trans (sm7 _ _ _))]
    exact grun0x7 _ _
  · show yesB (G10 (C10 sayT F26 F27 F29 F30 F31 F32 F33h F35h F36) _ _ S0 fin) = true
    rw [split10 _ _ _ _ _ _ _ _ _ _ _ _ _ (fun k => (sm_at n 0 h S0 k).trans (sm0 _ _ _)) (fun k => (sm_at m 8 g S0 k).trans (sm8 _ _ _))]
    exact grun0x8 _ _
  · show yesB (G10 (C10 sayT F26 F27 F29 F30 F31 F32 F33h F35h F36) _ _ S0 fin) = true
    rw [split10 _ _ _ _ _ _ _ _ _ _ _ _ _ (fun k => (sm_at n 0 h S0 k).trans (sm0 _ _ _)) (fun k => (sm_at m 9 g S0 k).trans (sm9 _ _ _))]
    exact grun0x9 _ _
theorem row1 (n m : Nat) (h : n % 10 = 1) : yesB (F10h (.i .u8 n) (.i .u8 m) S0 fin) = true := by
  rcases toP m with g | g | g | g | g | g | g | g | g | g
  · show yesB (G10 (C10 sayT F26 F27 F29 F30 F31 F32 F33h F35h F36) _ _ S0 fin) = true
    rw [split10 _ _ _ _ _ _ _ _ _ _ _ _ _ (fun k => (sm_at n 1 h S0 k).trans (sm1 _ _ _)) (fun k => (sm_at m 0 g S0 k).trans (sm0 _ _ _))]
    exact grun1x0 _ _
  · show yesB (G10 (C10 sayT F26 F27 F29 F30 F31 F32 F33h F35h F36) _ _ S0 fin) = true
    rw [split10 _ _ _ _ _ _ _ _ _ _ _ _ _ (fun k => (sm_at n 1 h S0 k).trans (sm1 _ _ _)) (fun k => (sm_at m 1 g S0 k).trans (sm1 _ _ _))]
    exact grun1x1 _ _
  · show yesB (G10 (C10 sayT F26 F27 F29 F30 F31 F32 F33h F35h F36) _ _ S0 fin) = true
    rw [split10 _ _ _ _ _ _ _ _ _ _ _ _ _ (fun k => (sm_at n 1 h S0 k).trans (sm1 _ _ _)) (fun k => (sm_at m 2 g S0 k).trans (sm2 _ _ _))]
    exact grun1x2 _ _
  · show yesB (G10 (C10 sayT F26 F27 F29 F30 F31 F32 F33h F35h F36) _ _ S0 fin) = true
    rw [split10 _ _ _ _ _ _ _ _ _ _ _ _ _ (fun k => (sm_at n 1 h S0 k).trans (sm1 _ _ _)) (fun k => (sm_at m 3 g S0 k).trans (sm3 _ _ _))]
    exact grun1x3 _ _
  · show yesB (G10 (C10 sayT F26 F27 F29 F30 F31 F32 F33h F35h F36) _ _ S0 fin) = true
    rw [split10 _ _ _ _ _ _ _ _ _ _ _ _ _ (fun k => (sm_at n 1 h S0 k).trans (sm1 _ _ _)) (fun k => (sm_at m 4 g S0 k).trans (sm4 _ _ _))]
    exact grun1x4 _ _
  · show yesB (G10 (C10 sayT F26 F27 F29 F30 F31 F32 F33h F35h F36) _ _ S0 fin) = true
    rw [split10 _ _ _ _ _ _ _ _ _ _ _ _ _ (fun k => (sm_at n 1 h S0 k).trans (sm1 _ _ _)) (fun k => (sm_at m 5 g S0 k).trans (sm5 _ _ _))]
    exact grun1x5 _ _
  · show yesB (G10 (C10 sayT F26 F27 F29 F30 F31 F32 F33h F35h F36) _ _ S0 fin) = true
    rw [split10 _ _ _ _ _ _ _ _ _ _ _ _ _ (fun k => (sm_at n 1 h S0 k).trans (sm1 _ _ _)) (fun k => (sm_at m 6 g S0 k).trans (sm6 _ _ _))]
    exact grun1x6 _ _
  · show yesB (G10 (C10 sayT F26 F27 F29 F30 F31 F32 F33h F35h F36) _ _ S0 fin) = true
    rw [split10 _ _ _ _ _ _ _ _ _ _ _ _ _ (fun k => (sm_at n 1 h S0 k).trans (sm1 _ _ _)) (fun k => (sm_at m 7 g S0 k).trans (sm7 _ _ _))]
    exact grun1x7 _ _
  · show yesB (G10 (C10 sayT F26 F27 F29 F30 F31 F32 F33h F35h F36) _ _ S0 fin) = true
    rw [split10 _ _ _ _ _ _ _ _ _ _ _ _ _ (fun k => (sm_at n 1 h S0 k).trans (sm1 _ _ _)) (fun k => (sm_at m 8 g S0 k).trans (sm8 _ _ _))]
    exact grun1x8 _ _
  · show yesB (G10 (C10 sayT F26 F27 F29 F30 F31 F32 F33h F35h F36) _ _ S0 fin) = true
    rw [split10 _ _ _ _ _ _ _ _ _ _ _ _ _ (fun k => (sm_at n 1 h S0 k).trans (sm1 _ _ _)) (fun k => (sm_at m 9 g S0 k).trans (sm9 _ _ _))]
    exact grun1x9 _ _
theorem row2 (n m : Nat) (h : n % 10 = 2) : yesB (F10h (.i .u8 n) (.i .u8 m) S0 fin) = true := by
  rcases toP m with g | g | g | g | g | g | g | g | g | g
  · show yesB (G10 (C10 sayT F26 F27 F29 F30 F31 F32 F33h F35h F36) _ _ S0 fin) = true
    rw [split10 _ _ _ _ _ _ _ _ _ _ _ _ _ (fun k => (sm_at n 2 h S0 k).trans (sm2 _ _ _)) (fun k => (sm_at m 0 g S0 k).trans (sm0 _ _ _))]
    exact grun2x0 _ _
  · show yesB (G10 (C10 sayT F26 F27 F29 F30 F31 F32 F33h F35h F36) _ _ S0 fin) = true
    rw [split10 _ _ _ _ _ _ _ _ _ _ _ _ _ (fun k => (sm_at n 2 h S0 k).trans (sm2 _ _ _)) (fun k => (sm_at m 1 g S0 k).trans (sm1 _ _ _))]
    exact grun2x1 _ _
  · show yesB (G10 (C10 sayT F26 F27 F29 F30 F31 F32 F33h F35h F36) _ _ S0 fin) = true
    rw [split10 _ _ _ _ _ _ _ _ _ _ _ _ _ (fun k => (sm_at n 2 h S0 k).trans (sm2 _ _ _)) (fun k => (sm_at m 2 g S0 k).trans (sm2 _ _ _))]
    exact grun2x2 _ _
  · show yesB (G10 (C10 sayT F26 F27 F29 F30 F31 F32 F33h F35h F36) _ _ S0 fin) = true
    rw [split10 _ _ _ _ _ _ _ _ _ _ _ _ _ (fun k => (sm_at n 2 h S0 k).trans (sm2 _ _ _)) (fun k => (sm_at m 3 g S0 k).trans (sm3 _ _ _))]
    exact grun2x3 _ _
  · show yesB (G10 (C10 sayT F26 F27 F29 F30 F31 F32 F33h F35h F36) _ _ S0 fin) = true
    rw [split10 _ _ _ _ _ _ _ _ _ _ _ _ _ (fun k => (sm_at n 2 h S0 k).trans (sm2 _ _ _)) (fun k => (sm_at m 4 g S0 k).trans (sm4 _ _ _))]
    exact grun2x4 _ _
  · show yesB (G10 (C10 sayT F26 F27 F29 F30 F31 F32 F33h F35h F36) _ _ S0 fin) = true
    rw [split10 _ _ _ _ _ _ _ _ _ _ _ _ _ (fun k => (sm_at n 2 h S0 k).trans (sm2 _ _ _)) (fun k => (sm_at m 5 g S0 k).trans (sm5 _ _ _))]
    exact grun2x5 _ _
  · show yesB (G10 (C10 sayT F26 F27 F29 F30 F31 F32 F33h F35h F36) _ _ S0 fin) = true
    rw [split10 _ _ _ _ _ _ _ _ _ _ _ _ _ (fun k => (sm_at n 2 h S0 k).trans (sm2 _ _ _)) (fun k => (sm_at m 6 g S0 k).trans (sm6 _ _ _))]
    exact grun2x6 _ _
  · show yesB (G10 (C10 sayT F26 F27 F29 F30 F31 F32 F33h F35h F36) _ _ S0 fin) = true
    rw [split10 _ _ _ _ _ _ _ _ _ _ _ _ _ (fun k => (sm_at n 2 h S0 k).trans (sm2 _ _ _)) (fun k => (sm_at m 7 g S0 k).trans (sm7 _ _ _))]
    exact grun2x7 _ _
  · show yesB (G10 (C10 sayT F26 F27 F29 F30 F31 F32 F33h F35h F36) _ _ S0 fin) = true
    rw [split10 _ _ _ _ _ _ _ _ _ _ _ _ _ (fun k => (sm_at n 2 h S0 k).trans (sm2 _ _ _)) (fun k => (sm_at m 8 g S0 k).trans (sm8 _ _ _))]
    exact grun2x8 _ _
  · show yesB (G10 (C10 sayT F26 F27 F29 F30 F31 F32 F33h F35h F36) _ _ S0 fin) = true
    rw [split10 _ _ _ _ _ _ _ _ _ _ _ _ _ (fun k => (sm_at n 2 h S0 k).trans (sm2 _ _ _)) (fun k => (sm_at m 9 g S0 k).trans (sm9 _ _ _))]
    exact grun2x9 _ _
theorem row3 (n m : Nat) (h : n % 10 = 3) : yesB (F10h (.i .u8 n) (.i .u8 m) S0 fin) = true := by
  rcases toP m with g | g | g | g | g | g | g | g | g | g
  · show yesB (G10 (C10 sayT F26 F27 F29 F30 F31 F32 F33h F35h F36) _ _ S0 fin) = true
    rw [split10 _ _ _ _ _ _ _ _ _ _ _ _ _ (fun k => (sm_at n 3 h S0 k).trans (sm3 _ _ _)) (fun k => (sm_at m 0 g S0 k).trans (sm0 _ _ _))]
    exact grun3x0 _ _
  · show yesB (G10 (C10 sayT F26 F27 F29 F30 F31 F32 F33h F35h F36) _ _ S0 fin) = true
    rw [split10 _ _ _ _ _ _ _ _ _ _ _ _ _ (fun k => (sm_at n 3 h S0 k).trans (sm3 _ _ _)) (fun k => (sm_at m 1 g S0 k).trans (sm1 _ _ _))]
    exact grun3x1 _ _
  · show yesB (G10 (C10 sayT F26 F27 F29 F30 F31 F32 F33h F35h F36) _ _ S0 fin) = true
    rw [split10 _ _ _ _ _ _ _ _ _ _ _ _ _ (fun k => (sm_at n 3 h S0 k).trans (sm3 _ _ _)) (fun k => (sm_at m 2 g S0 k).trans (sm2 _ _ _))]
    exact grun3x2 _ _
  · show yesB (G10 (C10 sayT F26 F27 F29 F30 F31 F32 F33h F35h F36) _ _ S0 fin) = true
    rw [split10 _ _ _ _ _ _ _ _ _ _ _ _ _ (fun k => (sm_at n 3 h S0 k).trans (sm3 _ _ _)) (fun k => (sm_at m 3 g S0 k).trans (sm3 _ _ _))]
    exact grun3x3 _ _
  · show yesB (G10 (C10 sayT F26 F27 F29 F30 F31 F32 F33h F35h F36) _ _ S0 fin) = true
    rw [split10 _ _ _ _ _ _ _ _ _ _ _ _ _ (fun k => (sm_at n 3 h S0 k).trans (sm3 _ _ _)) (fun k => (sm_at m 4 g S0 k).trans (sm4 _ _ _))]
    exact grun3x4 _ _
  · show yesB (G10 (C10 sayT F26 F27 F29 F30 F31 F32 F33h F35h F36) _ _ S0 fin) = true
    rw [split10 _ _ _ _ _ _ _ _ _ _ _ _ _ (fun k => (sm_at n 3 h S0 k).trans (sm3 _ _ _)) (fun k => (sm_at m 5 g S0 k).trans (sm5 _ _ _))]
    exact grun3x5 _ _
  · show yesB (G10 (C10 sayT F26 F27 F29 F30 F31 F32 F33h F35h F36) _ _ S0 fin) = true
    rw [split10 _ _ _ _ _ _ _ _ _ _ _ _ _ (fun k => (sm_at n 3 h S0 k).trans (sm3 _ _ _)) (fun k => (sm_at m 6 g S0 k).trans (sm6 _ _ _))]
    exact grun3x6 _ _
  · show yesB (G10 (C10 sayT F26 F27 F29 F30 F31 F32 F33h F35h F36) _ _ S0 fin) = true
    rw [split10 _ _ _ _ _ _ _ _ _ _ _ _ _ (fun k => (sm_at n 3 h S0 k).trans (sm3 _ _ _)) (fun k => (sm_at m 7 g S0 k).trans (sm7 _ _ _))]
    exact grun3x7 _ _
  · show yesB (G10 (C10 sayT F26 F27 F29 F30 F31 F32 F33h F35h F36) _ _ S0 fin) = true
    rw [split10 _ _ _ _ _ _ _ _ _ _ _ _ _ (fun k => (sm_at n 3 h S0 k).trans (sm3 _ _ _)) (fun k => (sm_at m 8 g S0 k).trans (sm8 _ _ _))]
    exact grun3x8 _ _
  · show yesB (G10 (C10 sayT F26 F27 F29 F30 F31 F32 F33h F35h F36) _ _ S0 fin) = true
    rw [split10 _ _ _ _ _ _ _ _ _ _ _ _ _ (fun k => (sm_at n 3 h S0 k).trans (sm3 _ _ _)) (fun k => (sm_at m 9 g S0 k).trans (sm9 _ _ _))]
    exact grun3x9 _ _
theorem row4 (n m : Nat) (h : n % 10 = 4) : yesB (F10h (.i .u8 n) (.i .u8 m) S0 fin) = true := by
  rcases toP m with g | g | g | g | g | g | g | g | g | g
  · show yesB (G10 (C10 sayT F26 F27 F29 F30 F31 F32 F33h F35h F36) _ _ S0 fin) = true
    rw [split10 _ _ _ _ _ _ _ _ _ _ _ _ _ (fun k => (sm_at n 4 h S0 k).trans (sm4 _ _ _)) (fun k => (sm_at m 0 g S0 k).trans (sm0 _ _ _))]
    exact grun4x0 _ _
  · show yesB (G10 (C10 sayT F26 F27 F29 F30 F31 F32 F33h F35h F36) _ _ S0 fin) = true
    rw [split10 _ _ _ _ _ _ _ _ _ _ _ _ _ (fun k => (sm_at n 4 h S0 k).trans (sm4 _ _ _)) (fun k => (sm_at m 1 g S0 k).trans (sm1 _ _ _))]
    exact grun4x1 _ _
  · show yesB (G10 (C10 sayT F26 F27 F29 F30 F31 F32 F33h F35h F36) _ _ S0 fin) = true
    rw [split10 _ _ _ _ _ _ _ _ _ _ _ _ _ (fun k => (sm_at n 4 h S0 k).trans (sm4 _ _ _)) (fun k => (sm_at m 2 g S0 k).trans (sm2 _ _ _))]
    exact grun4x2 _ _
  · show yesB (G10 (C10 sayT F26 F27 F29 F30 F31 F32 F33h F35h F36) _ _ S0 fin) = true
    rw [split10 _ _ _ _ _ _ _ _ _ _ _ _ _ (fun k => (sm_at n 4 h S0 k).trans (sm4 _ _ _)) (fun k => (sm_at m 3 g S0 k).trans (sm3 _ _ _))]
    exact grun4x3 _ _
  · show yesB (G10 (C10 sayT F26 F27 F29 F30 F31 F32 F33h F35h F36) _ _ S0 fin) = true
    rw [split10 _ _ _ _ _ _ _ _ _ _ _ _ _ (fun k => (sm_at n 4 h S0 k).trans (sm4 _ _ _)) (fun k => (sm_at m 4 g S0 k).trans (sm4 _ _ _))]
    exact grun4x4 _ _
  · show yesB (G10 (C10 sayT F26 F27 F29 F30 F31 F32 F33h F35h F36) _ _ S0 fin) = true
    rw [split10 _ _ _ _ _ _ _ _ _ _ _ _ _ (fun k => (sm_at n 4 h S0 k).trans (sm4 _ _ _)) (fun k => (sm_at m 5 g S0 k).trans (sm5 _ _ _))]
    exact grun4x5 _ _
  · show yesB (G10 (C10 sayT F26 F27 F29 F30 F31 F32 F33h F35h F36) _ _ S0 fin) = true
    rw [split10 _ _ _ _ _ _ _ _ _ _ _ _ _ (fun k => (sm_at n 4 h S0 k).trans (sm4 _ _ _)) (fun k => (sm_at m 6 g S0 k).trans (sm6 _ _ _))]
    exact grun4x6 _ _
  · show yesB (G10 (C10 sayT F26 F27 F29 F30 F31 F32 F33h F35h F36) _ _ S0 fin) = true
    rw [split10 _ _ _ _ _ _ _ _ _ _ _ _ _ (fun k => (sm_at n 4 h S0 k).trans (sm4 _ _ _)) (fun k => (sm_at m 7 g S0 k).trans (sm7 _ _ _))]
    exact grun4x7 _ _
  · show yesB (G10 (C10 sayT F26 F27 F29 F30 F31 F32 F33h F35h F36) _ _ S0 fin) = true
    rw [split10 _ _ _ _ _ _ _ _ _ _ _ _ _ (fun k => (sm_at n 4 h S0 k).trans (sm4 _ _ _)) (fun k => (sm_at m 8 g S0 k).trans (sm8 _ _ _))]
    exact grun4x8 _ _
  · show yesB (G10 (C10 sayT F26 F27 F29 F30 F31 F32 F33h F35h F36) _ _ S0 fin) = true
    rw [split10 _ _ _ _ _ _ _ _ _ _ _ _ _ (fun k => (sm_at n 4 h S0 k).trans (sm4 _ _ _)) (fun k => (sm_at m 9 g S0 k).trans (sm9 _ _ _))]
    exact grun4x9 _ _
theorem row5 (n m : Nat) (h : n % 10 = 5) (hm : m % 10 ≠ 7) : yesB (F10h (.i .u8 n) (.i .u8 m) S0 fin) = true := by
  rcases toP m with g | g | g | g | g | g | g | g | g | g
  · show yesB (G10 (C10 sayT F26 F27 F29 F30 F31 F32 F33h F35h F36) _ _ S0 fin) = true
    rw [split10 _ _ _ _ _ _ _ _ _ _ _ _ _ (fun k => (sm_at n 5 h S0 k).trans (sm5 _ _ _)) (fun k => (sm_at m 0 g S0 k).trans (sm0 _ _ _))]
    exact grun5x0 _ _
  · show yesB (G10 (C10 sayT F26 F27 F29 F30 F31 F32 F33h F35h F36) _ _ S0 fin) = true
    rw [split10 _ _ _ _ _ _ _ _ _ _ _ _ _ (fun k => (sm_at n 5 h S0 k).trans (sm5 _ _ _)) (fun k => (sm_at m 1 g S0 k).trans (sm1 _ _ _))]
    exact grun5x1 _ _
  · show yesB (G10 (C10 sayT F26 F27 F29 F30 F31 F32 F33h F35h F36) _ _ S0 fin) = true
    rw [split10 _ _ _ _ _ _ _ _ _ _ _ _ _ (fun k => (sm_at n 5 h S0 k).trans (sm5 _ _ _)) (fun k => (sm_at m 2 g S0 k).trans (sm2 _ _ _))]
    exact grun5x2 _ _
  · show yesB (G10 (C10 sayT F26 F27 F29 F30 F31 F32 F33h F35h F36) _ _ S0 fin) = true
    rw [split10 _ _ _ _ _ _ _ _ _ _ _ _ _ (fun k => (sm_at n 5 h S0 k).trans (sm5 _ _ _)) (fun k => (sm_at m 3 g S0 k).trans (sm3 _ _ _))]
    exact grun5x3 _ _
  · show yesB (G10 (C10 sayT F26 F27 F29 F30 F31 F32 F33h F35h F36) _ _ S0 fin) = true
    rw [split10 _ _ _ _ _ _ _ _ _ _ _ _ _ (fun k => (sm_at n 5 h S0 k).trans (sm5 _ _ _)) (fun k => (sm_at m 4 g S0 k).trans (sm4 _ _ _))]
    exact grun5x4 _ _
  · show yesB (G10 (C10 sayT F26 F27 F29 F30 F31 F32 F33h F35h F36) _ _ S0 fin) = true
    rw [split10 _ _ _ _ _ _ _ _ _ _ _ _ _ (fun k => (sm_at n 5 h S0 k).trans (sm5 _ _ _)) (fun k => (sm_at m 5 g S0 k).trans (sm5 _ _ _))]
    exact grun5x5 _ _
  · show yesB (G10 (C10 sayT F26 F27 F29 F30 F31 F32 F33h F35h F36) _ _ S0 fin) = true
    rw [split10 _ _ _ _ _ _ _ _ _ _ _ _ _ (fun k => (sm_at n 5 h S0 k).trans (sm5 _ _ _)) (fun k => (sm_at m 6 g S0 k).trans (sm6 _ _ _))]
    exact grun5x6 _ _
  · exact absurd g hm
  · show yesB (G10 (C10 sayT F26 F27 F29 F30 F31 F32 F33h F35h F36) _ _ S0 fin) = true
    rw [split10 _ _ _ _ _ _ _ _ _ _ _ _ _ (fun k => (sm_at n 5 h S0 k).trans (sm5 _ _ _)) (fun k => (sm_at m 8 g S0 k).trans (sm8 _ _ _))]
    exact grun5x8 _ _
  · show yesB (G10 (C10 sayT F26 F27 F29 F30 F31 F32 F33h F35h F36) _ _ S0 fin) = true
    rw [split10 _ _ _ _ _ _ _ _ _ _ _ _ _ (fun k => (sm_at n 5 h S0 k).trans (sm5 _ _ _)) (fun k => (sm_at m 9 g S0 k).trans (sm9 _ _ _))]
    exact grun5x9 _ _
theorem row6 (n m : Nat) (h : n % 10 = 6) : yesB (F10h (.i .u8 n) (.i .u8 m) S0 fin) = true := by
  rcases toP m with g | g | g | g | g | g | g | g | g | g
  · show yesB (G10 (C10 sayT F26 F27 F29 F30 F31 F32 F33h F35h F36) _ _ S0 fin) = true
    rw [split10 _ _ _ _ _ _ _ _ _ _ _ _ _ (fun k => (sm_at n 6 h S0 k).trans (sm6 _ _ _)) (fun k => (sm_at m 0 g S0 k).trans (sm0 _ _ _))]
    exact grun6x0 _ _
  · show yesB (G10 (C10 sayT F26 F27 F29 F30 F31 F32 F33h F35h F36) _ _ S0 fin) = true
    rw [split10 _ _ _ _ _ _ _ _ _ _ _ _ _ (fun k => (sm_at n 6 h S0 k).trans (sm6 _ _ _)) (fun k => (sm_at m 1 g S0 k).trans (sm1 _ _ _))]
    exact grun6x1 _ _
  · show yesB (G10 (C10 sayT F26 F27 F29 F30 F31 F32 F33h F35h F36) _ _ S0 fin) = true
    rw [split10 _ _ _ _ _ _ _ _ _ _ _ _ _ (fun k => (sm_at n 6 h S0 k).trans (sm6 _ _ _)) (fun k => (sm_at m 2 g S0 k).trans (sm2 _ _ _))]
    exact grun6x2 _ _
  · show yesB (G10 (C10 sayT F26 F27 F29 F30 F31 F32 F33h F35h F36) _ _ S0 fin) = true
    rw [split10 _ _ _ _ _ _ _ _ _ _ _ _ _ (fun k => (sm_at n 6 h S0 k).trans (sm6 _ _ _)) (fun k => (sm_at m 3 g S0 k).trans (sm3 _ _ _))]
    exact grun6x3 _ _
  · show yesB (G10 (C10 sayT F26 F27 F29 F30 F31 F32 F33h F35h F36) _ _ S0 fin) = true
    rw [split10 _ _ _ _ _ _ _ _ _ _ _ _ _ (fun k => (sm_at n 6 h S0 k).trans (sm6 _ _ _)) (fun k => (sm_at m 4 g S0 k).trans (sm4 _ _ _))]
    exact grun6x4 _ _
  · show yesB (G10 (C10 sayT F26 F27 F29 F30 F31 F32 F33h F35h F36) _ _ S0 fin) = true
    rw [split10 _ _ _ _ _ _ _ _ _ _ _ _ _ (fun k => (sm_at n 6 h S0 k).trans (sm6 _ _ _)) (fun k => (sm_at m 5 g S0 k).trans (sm5 _ _ _))]
    exact grun6x5 _ _
  · show yesB (G10 (C10 sayT F26 F27 F29 F30 F31 F32 F33h F35h F36) _ _ S0 fin) = true
    rw [split10 _ _ _ _ _ _ _ _ _ _ _ _ _ (fun k => (sm_at n 6 h S0 k).trans (sm6 _ _ _)) (fun k => (sm_at m 6 g S0 k).trans (sm6 _ _ _))]
    exact grun6x6 _ _
  · show yesB (G10 (C10 sayT F26 F27 F29 F30 F31 F32 F33h F35h F36) _ _ S0 fin) = true
    rw [split10 _ _ _ _ _ _ _ _ _ _ _ _ _ (fun k => (sm_at n 6 h S0 k).trans (sm6 _ _ _)) (fun k => (sm_at m 7 g S0 k).trans (sm7 _ _ _))]
    exact grun6x7 _ _
  · show yesB (G10 (C10 sayT F26 F27 F29 F30 F31 F32 F33h F35h F36) _ _ S0 fin) = true
    rw [split10 _ _ _ _ _ _ _ _ _ _ _ _ _ (fun k => (sm_at n 6 h S0 k).trans (sm6 _ _ _)) (fun k => (sm_at m 8 g S0 k).trans (sm8 _ _ _))]
    exact grun6x8 _ _
  · show yesB (G10 (C10 sayT F26 F27 F29 F30 F31 F32 F33h F35h F36) _ _ S0 fin) = true
    rw [split10 _ _ _ _ _ _ _ _ _ _ _ _ _ (fun k => (sm_at n 6 h S0 k).trans (sm6 _ _ _)) (fun k => (sm_at m 9 g S0 k).trans (sm9 _ _ _))]
    exact grun6x9 _ _
theorem row7 (n m : Nat) (h : n % 10 = 7) : yesB (F10h (.i .u8 n) (.i .u8 m) S0 fin) = true := by
  rcases toP m with g | g | g | g | g | g | g | g | g | g
  · show yesB (G10 (C10 sayT F26 F27 F29 F30 F31 F32 F33h F35h F36) _ _ S0 fin) = true
    rw [split10 _ _ _ _ _ _ _ _ _ _ _ _ _ (fun k => (sm_at n 7 h S0 k).trans (sm7 _ _ _)) (fun k => (sm_at m 0 g S0 k).trans (sm0 _ _ _))]
    exact grun7x0 _ _
  · show yesB (G10 (C10 sayT F26 F27 F29 F30 F31 F32 F33h F35h F36) _ _ S0 fin) = true
    rw [split10 _ _ _ _ _ _ _ _ _ _ _ _ _ (fun k => (sm_at n 7 h S0 k).trans (sm7 _ _ _)) (fun k => (sm_at m 1 g S0 k).trans (sm1 _ _ _))]
    exact grun7x1 _ _
  · show yesB (G10 (C10 sayT F26 F27 F29 F30 F31 F32 F33h F35h F36) _ _ S0 fin) = true
    rw [split10 _ _ _ _ _ _ _ _ _ _ _ _ _ (fun k => (sm_at n 7 h S0 k).trans (sm7 _ _ _)) (fun k => (sm_at m 2 g S0 k).trans (sm2 _ _ _))]
    exact grun7x2 _ _
  · show yesB (G10 (C10 sayT F26 F27 F29 F30 F31 F32 F33h F35h F36) _ _ S0 fin) = true
    rw [split10 _ _ _ _ _ _ _ _ _ _ _ _ _ (fun k => (sm_at n 7 h S0 k).trans (sm7 _ _ _)) (fun k => (sm_at m 3 g S0 k).trans (sm3 _ _ _))]
    exact grun7x3 _ _
  · show yesB (G10 (C10 sayT F26 F27 F29 F30 F31 F32 F33h F35h F36) _ _ S0 fin) = true
    rw [split10 _ _ _ _ _ _ _ _ _ _ _ _ _ (fun k => (sm_at n 7 h S0 k).trans (sm7 _ _ _)) (fun k => (sm_at m 4 g S0 k).trans (sm4 _ _ _))]
    exact grun7x4 _ _
  · show yesB (G10 (C10 sayT F26 F27 F29 F30 F31 F32 F33h F35h F36) _ _ S0 fin) = true
    rw [split10 _ _ _ _ _ _ _ _ _ _ _ _ _ (fun k => (sm_at n 7 h S0 k).trans (sm7 _ _ _)) (fun k => (sm_at m 5 g S0 k).trans (sm5 _ _ _))]
    exact grun7x5 _ _
  · show yesB (G10 (C10 sayT F26 F27 F29 F30 F31 F32 F33h F35h F36) _ _ S0 fin) = true
    rw [split10 _ _ _ _ _ _ _ _ _ _ _ _ _ (fun k => (sm_at n 7 h S0 k).trans (sm7 _ _ _)) (fun k => (sm_at m 6 g S0 k).trans (sm6 _ _ _))]
    exact grun7x6 _ _
  · show yesB (G10 (C10 sayT F26 F27 F29 F30 F31 F32 F33h F35h F36) _ _ S0 fin) = true
    rw [split10 _ _ _ _ _ _ _ _ _ _ _ _ _ (fun k => (sm_at n 7 h S0 k).trans (sm7 _ _ _)) (fun k => (sm_at m 7 g S0 k).trans (sm7 _ _ _))]
    exact grun7x7 _ _
  · show yesB (G10 (C10 sayT F26 F27 F29 F30 F31 F32 F33h F35h F36) _ _ S0 fin) = true
    rw [split10 _ _ _ _ _ _ _ _ _ _ _ _ _ (fun k => (sm_at n 7 h S0 k).trans (sm7 _ _ _)) (fun k => (sm_at m 8 g S0 k).trans (sm8 _ _ _))]
    exact grun7x8 _ _
  · show yesB (G10 (C10 sayT F26 F27 F29 F30 F31 F32 F33h F35h F36) _ _ S0 fin) = true
    rw [split10 _ _ _ _ _ _ _ _ _ _ _ _ _ (fun k => (sm_at n 7 h S0 k).trans (sm7 _ _ _)) (fun k => (sm_at m 9 g S0 k).trans (sm9 _ _ _))]
    exact grun7x9 _ _
theorem row8 (n m : Nat) (h : n % 10 = 8) : yesB (F10h (.i .u8 n) (.i .u8 m) S0 fin) = true := by
  rcases toP m with g | g | g | g | g | g | g | g | g | g
  · show yesB (G10 (C10 sayT F26 F27 F29 F30 F31 F32 F33h F35h F36) _ _ S0 fin) = true
    rw [split10 _ _ _ _ _ _ _ _ _ _ _ _ _ (fun k => (sm_at n 8 h S0 k).trans (sm8 _ _ _)) (fun k => (sm_at m 0 g S0 k).trans (sm0 _ _ _))]
    exact grun8x0 _ _
  · show yesB (G10 (C10 sayT F26 F27 F29 F30 F31 F32 F33h F35h F36) _ _ S0 fin) = true
    rw [split10 _ _ _ _ _ _ _ _ _ _ _ _ _ (fun k => (sm_at n 8 h S0 k).trans (sm8 _ _ _)) (fun k => (sm_at m 1 g S0 k).trans (sm1 _ _ _))]
    exact grun8x1 _ _
  · show yesB (G10 (C10 sayT F26 F27 F29 F30 F31 F32 F33h F35h F36) _ _ S0 fin) = true
    rw [split10 _ _ _ _ _ _ _ _ _ _ _ _ _ (fun k => (sm_at n 8 h S0 k).trans (sm8 _ _ _)) (fun k => (sm_at m 2 g S0 k).trans (sm2 _ _ _))]
    exact grun8x2 _ _
  · show yesB (G10 (C10 sayT F26 F27 F29 F30 F31 F32 F33h F35h F36) _ _ S0 fin) = true
    rw [split10 _ _ _ _ _ _ _ _ _ _ _ _ _ (fun k => (sm_at n 8 h S0 k).trans (sm8 _ _ _)) (fun k => (sm_at m 3 g S0 k).trans (sm3 _ _ _))]
    exact grun8x3 _ _
  · show yesB (G10 (C10 sayT F26 F27 F29 F30 F31 F32 F33h F35h F36) _ _ S0 fin) = true
    rw [split10 _ _ _ _ _ _ _ _ _ _ _ _ _ (fun k => (sm_at n 8 h S0 k).trans (sm8 _ _ _)) (fun k => (sm_at m 4 g S0 k).trans (sm4 _ _ _))]
    exact grun8x4 _ _
  · show yesB (G10 (C10 sayT F26 F27 F29 F30 F31 F32 F33h F35h F36) _ _ S0 fin) = true
    rw [split10 _ _ _ _ _ _ _ _ _ _ _ _ _ (fun k => (sm_at n 8 h S0 k).trans (sm8 _ _ _)) (fun k => (sm_at m 5 g S0 k).trans (sm5 _ _ _))]
    exact grun8x5 _ _
  · show yesB (G10 (C10 sayT F26 F27 F29 F30 F31 F32 F33h F35h F36) _ _ S0 fin) = true
    rw [split10 _ _ _ _ _ _ _ _ _ _ _ _ _ (fun k => (sm_at n 8 h S0 k).trans (sm8 _ _ _)) (fun k => (sm_at m 6 g S0 k).trans (sm6 _ _ _))]
    exact grun8x6 _ _
  · show yesB (G10 (C10 sayT F26 F27 F29 F30 F31 F32 F33h F35h F36) _ _ S0 fin) = true
    rw [split10 _ _ _ _ _ _ _ _ _ _ _ _ _ (fun k => (sm_at n 8 h S0 k).trans (sm8 _ _ _)) (fun k => (sm_at m 7 g S0 k).trans (sm7 _ _ _))]
    exact grun8x7 _ _
  · show yesB (G10 (C10 sayT F26 F27 F29 F30 F31 F32 F33h F35h F36) _ _ S0 fin) = true
    rw [split10 _ _ _ _ _ _ _ _ _ _ _ _ _ (fun k => (sm_at n 8 h S0 k).trans (sm8 _ _ _)) (fun k => (sm_at m 8 g S0 k).trans (sm8 _ _ _))]
    exact grun8x8 _ _
  · show yesB (G10 (C10 sayT F26 F27 F29 F30 F31 F32 F33h F35h F36) _ _ S0 fin) = true
    rw [split10 _ _ _ _ _ _ _ _ _ _ _ _ _ (fun k => (sm_at n 8 h S0 k).trans (sm8 _ _ _)) (fun k => (sm_at m 9 g S0 k).trans (sm9 _ _ _))]
    exact grun8x9 _ _
theorem row9 (n m : Nat) (h : n % 10 = 9) : yesB (F10h (.i .u8 n) (.i .u8 m) S0 fin) = true := by
  rcases toP m with g | g | g | g | g | g | g | g | g | g
  · show yesB (G10 (C10 sayT F26 F27 F29 F30 F31 F32 F33h F35h F36) _ _ S0 fin) = true
    rw [split10 _ _ _ _ _ _ _ _ _ _ _ _ _ (fun k => (sm_at n 9 h S0 k).trans (sm9 _ _ _)) (fun k => (sm_at m 0 g S0 k).trans (sm0 _ _ _))]
    exact grun9x0 _ _
  · show yesB (G10 (C10 sayT F26 F27 F29 F30 F31 F32 F33h F35h F36) _ _ S0 fin) = true
    rw [split10 _ _ _ _ _ _ _ _ _ _ _ _ _ (fun k => (sm_at n 9 h S0 k).trans (sm9 _ _ _)) (fun k => (sm_at m 1 g S0 k).trans (sm1 _ _ _))]
    exact grun9x1 _ _
  · show yesB (G10 (C10 sayT F26 F27 F29 F30 F31 F32 F33h F35h F36) _ _ S0 fin) = true
    rw [split10 _ _ _ _ _ _ _ _ _ _ _ _ _ (fun k => (sm_at n 9 h S0 k).trans (sm9 _ _ _)) (fun k => (sm_at m 2 g S0 k).trans (sm2 _ _ _))]
    exact grun9x2 _ _
  · show yesB (G10 (C10 sayT F26 F27 F29 F30 F31 F32 F33h F35h F36) _ _ S0 fin) = true
    rw [split10 _ _ _ _ _ _ _ _ _ _ _ _ _ (fun k => (sm_at n 9 h S0 k).trans (sm9 _ _ _)) (fun k => (sm_at m 3 g S0 k).trans (sm3 _ _ _))]
    exact grun9x3 _ _
  · show yesB (G10 (C10 sayT F26 F27 F29 F30 F31 F32 F33h F35h F36) _ _ S0 fin) = true
    rw [split10 _ _ _ _ _ _ _ _ _ _ _ _ _ (fun k => (sm_at n 9 h S0 k).trans (sm9 _ _ _)) (fun k => (sm_at m 4 g S0 k).trans (sm4 _ _ _))]
    exact grun9x4 _ _
  · show yesB (G10 (C10 sayT F26 F27 F29 F30 F31 F32 F33h F35h F36) _ _ S0 fin) = true
    rw [split10 _ _ _ _ _ _ _ _ _ _ _ _ _ (fun k => (sm_at n 9 h S0 k).trans (sm9 _ _ _)) (fun k => (sm_at m 5 g S0 k).trans (sm5 _ _ _))]
    exact grun9x5 _ _
  · show yesB (G10 (C10 sayT F26 F27 F29 F30 F31 F32 F33h F35h F36) _ _ S0 fin) = true
    rw [split10 _ _ _ _ _ _ _ _ _ _ _ _ _ (fun k => (sm_at n 9 h S0 k).trans (sm9 _ _ _)) (fun k => (sm_at m 6 g S0 k).trans (sm6 _ _ _))]
    exact grun9x6 _ _
  · show yesB (G10 (C10 sayT F26 F27 F29 F30 F31 F32 F33h F35h F36) _ _ S0 fin) = true
    rw [split10 _ _ _ _ _ _ _ _ _ _ _ _ _ (fun k => (sm_at n 9 h S0 k).trans (sm9 _ _ _)) (fun k => (sm_at m 7 g S0 k).trans (sm7 _ _ _))]
    exact grun9x7 _ _
  · show yesB (G10 (C10 sayT F26 F27 F29 F30 F31 F32 F33h F35h F36) _ _ S0 fin) = true
    rw [split10 _ _ _ _ _ _ _ _ _ _ _ _ _ (fun k => (sm_at n 9 h S0 k).trans (sm9 _ _ _)) (fun k => (sm_at m 8 g S0 k).trans (sm8 _ _ _))]
    exact grun9x8 _ _
  · show yesB (G10 (C10 sayT F26 F27 F29 F30 F31 F32 F33h F35h F36) _ _ S0 fin) = true
    rw [split10 _ _ _ _ _ _ _ _ _ _ _ _ _ (fun k => (sm_at n 9 h S0 k).trans (sm9 _ _ _)) (fun k => (sm_at m 9 g S0 k).trans (sm9 _ _ _))]
    exact grun9x9 _ _
theorem rowV (n m : Nat) (h : n % 10 = 5) (g : m % 10 = 7) : yesB (F10v (.i .u8 n) (.i .u8 m) S0 fin) = true := by
  show yesB (G10 (C10 sayT F26 F27 F29 F30 F31 F32 F33h F35v F36) _ _ S0 fin) = true
  rw [split10 _ _ _ _ _ _ _ _ _ _ _ _ _ (fun k => (sm_at n 5 h S0 k).trans (sm5 _ _ _)) (fun k => (sm_at m 7 g S0 k).trans (sm7 _ _ _))]
  exact grun5x7 _ _
theorem all10 (n m : Nat) (hn : ¬ (n % 10 = 5 ∧ m % 10 = 7)) : yesB (F10h (.i .u8 n) (.i .u8 m) S0 fin) = true := by
  rcases toP n with h | h | h | h | h | h | h | h | h | h
  · exact row0 n m h
  · exact row1 n m h
  · exact row2 n m h
  · exact row3 n m h
  · exact row4 n m h
  · exact row5 n m h (fun e => hn ⟨h, e⟩)
  · exact row6 n m h
  · exact row7 n m h
  · exact row8 n m h
  · exact row9 n m h
theorem un2 (g : Gn 2) (a b : V) : un 2 g [a, b] = g a b := by rfl
theorem walkReciprocityAgree (a b : Int) (W : World) (wa : (Lit.int .u8 a).wf = true) (wb : (Lit.int .u8 b).wf = true) : Calls Tryz.prog 10 #[.int .u8 a, .int .u8 b] W fun e w' => e = .returned (.bool true) ∧ Go.RowKit.Below W.heap.size W w' := by
  have hv : VRs (fun _ => none) [.i .u8 (a % (M .u8 : Int)).toNat, .i .u8 (b % (M .u8 : Int)).toNat] (#[.int .u8 a, .int .u8 b] : Array Value).toList := .cons _ _ _ _ (vr_wf wa) (.cons _ _ _ _ (vr_wf wb) .nil)
  by_cases hn : (a % (M .u8 : Int)).toNat % 10 = 5 ∧ (b % (M .u8 : Int)).toNat % 10 = 7
  · refine top_calls Tryz.func10 (by kernel_rfl) (by kernel_rfl) K10v _ _ hv ?_ W
    rw [un2]
    exact rowV _ _ hn.1 hn.2
  · refine top_calls Tryz.func10 (by kernel_rfl) (by kernel_rfl) K10h _ _ hv ?_ W
    rw [un2]
    exact all10 _ _ hn
end
end Go.AM
