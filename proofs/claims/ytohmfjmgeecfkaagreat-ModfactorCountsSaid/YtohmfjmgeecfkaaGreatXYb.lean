/- math/bits.Mul64, exact.mulWords, NatMul, NatCmp, NatOf: pure texts on strings. -/
import Derived.Test.YtohmfjmgeecfkaaGreatXYa
import Derived.Test.YtohmfjmgeecfkaaGreatXUb
import Derived.Test.YtohmfjmgeecfkaaGreatXN
import Derived.Test.YtohmfjmgeecfkaaGreatXUI
namespace Go.AM
open Go.Proofs
open Go.AM.Q
open Go.AM.U
set_option linter.unusedVariables false
set_option linter.unusedSimpArgs false
noncomputable section
variable {S0 S : St} {out : V × St}
/- Mul64 -/
section
variable (x y x0 x1 y0 y1 w0 p1 w0h t w1 w2 p2 w1' p3 h1' w1h hi lo : V) (S : St) (k : Cont)
theorem m64_go (e1 : ∀ c, pAnd x (uu 4294967295) c = c x0) (e2 : ∀ c, pShr x (uu 32) c = c x1) (e3 : ∀ c, pAnd y (uu 4294967295) c = c y0) (e4 : ∀ c, pShr y (uu 32) c = c y1) (e5 : ∀ c, pMul x0 y0 c = c w0) (e6 : ∀ c, pMul x1 y0 c = c p1) (e7 : ∀ c, pShr w0 (uu 32) c = c w0h) (e8 : ∀ c, pAdd p1 w0h c = c t)
    (e9 : ∀ c, pAnd t (uu 4294967295) c = c w1) (e10 : ∀ c, pShr t (uu 32) c = c w2) (e11 : ∀ c, pMul x0 y1 c = c p2) (e12 : ∀ c, pAdd w1 p2 c = c w1') (e13 : ∀ c, pMul x1 y1 c = c p3) (e14 : ∀ c, pAdd p3 w2 c = c h1') (e15 : ∀ c, pShr w1' (uu 32) c = c w1h) (e16 : ∀ c, pAdd h1' w1h c = c hi) (e17 : ∀ c, pMul x y c = c lo) :
    G169 C169 x y S k = k (.tu [hi, lo]) S := by
  simp only [G169, C169, cSeq, cReg, cRet, e1, e2, e3, e4, e5, e6, e7, e8, e9, e10, e11, e12, e13, e14, e15, e16, e17]
end
theorem mul64_ar (P Q R W : Nat) : (P * 18446744073709551616 + (Q + R) * 4294967296 + W) / 18446744073709551616 = P + (Q + W / 4294967296) / 4294967296 + ((Q + W / 4294967296) % 4294967296 + R) / 4294967296 := by omega
theorem split_mul (x y : Nat) : x * y = (x / 4294967296 * (y / 4294967296)) * 18446744073709551616 + (x / 4294967296 * (y % 4294967296) + x % 4294967296 * (y / 4294967296)) * 4294967296 + x % 4294967296 * (y % 4294967296) := by
  have hx := Nat.div_add_mod x 4294967296
  have hy := Nat.div_add_mod y 4294967296
  generalize x / 4294967296 = a at *
  generalize x % 4294967296 = b at *
  generalize y / 4294967296 = c at *
  generalize y % 4294967296 = d at *
  rw [← hx, ← hy, Nat.add_mul, Nat.mul_add, Nat.mul_add]
  have e1 : 4294967296 * a * (4294967296 * c) = a * c * 18446744073709551616 := by
    rw [Nat.mul_assoc, Nat.mul_left_comm a, ← Nat.mul_assoc, Nat.mul_comm]
  have e2 : 4294967296 * a * d = a * d * 4294967296 := by rw [Nat.mul_assoc, Nat.mul_comm]
  have e3 : b * (4294967296 * c) = b * c * 4294967296 := by rw [Nat.mul_left_comm, Nat.mul_comm]
  rw [e1, e2, e3, Nat.add_mul]; omega
theorem m64_eq {x y : Nat} (hx : x < M64) (hy : y < M64) (S : St) (k : Cont) : F169 (uu x) (uu y) S k = k (.tu [uu (x * y / M64), uu (x * y % M64)]) S := by
  have eM : M64 = 18446744073709551616 := rfl
  have eB : B32 = 4294967296 := rfl
  have x1 : x / 4294967296 ≤ 4294967295 := by omega
  have x0 : x % 4294967296 ≤ 4294967295 := by omega
  have y1 : y / 4294967296 ≤ 4294967295 := by omega
  have y0 : y % 4294967296 ≤ 4294967295 := by omega
  have hs := split_mul x y
  have hp := Nat.mul_le_mul x1 y1
  have hq := Nat.mul_le_mul x1 y0
  have hr := Nat.mul_le_mul x0 y1
  have hw := Nat.mul_le_mul x0 y0
  have har := mul64_ar (x / 4294967296 * (y / 4294967296)) (x / 4294967296 * (y % 4294967296)) (x % 4294967296 * (y / 4294967296)) (x % 4294967296 * (y % 4294967296))
  rw [← hs] at har
  refine m64_go (x0 := uu (x % B32)) (x1 := uu (x / B32)) (y0 := uu (y % B32)) (y1 := uu (y / B32)) (w0 := uu (x % 4294967296 * (y % 4294967296))) (p1 := uu (x / 4294967296 * (y % 4294967296))) (w0h := uu (x % 4294967296 * (y % 4294967296) / B32)) (t := uu (x / 4294967296 * (y % 4294967296) + x % 4294967296 * (y % 4294967296) / 4294967296))
    (w1 := uu ((x / 4294967296 * (y % 4294967296) + x % 4294967296 * (y % 4294967296) / 4294967296) % B32)) (w2 := uu ((x / 4294967296 * (y % 4294967296) + x % 4294967296 * (y % 4294967296) / 4294967296) / B32)) (p2 := uu (x % 4294967296 * (y / 4294967296))) (w1' := uu ((x / 4294967296 * (y % 4294967296) + x % 4294967296 * (y % 4294967296) / 4294967296) % 4294967296 + x % 4294967296 * (y / 4294967296)))
    (p3 := uu (x / 4294967296 * (y / 4294967296))) (h1' := uu (x / 4294967296 * (y / 4294967296) + (x / 4294967296 * (y % 4294967296) + x % 4294967296 * (y % 4294967296) / 4294967296) / 4294967296)) (w1h := uu (((x / 4294967296 * (y % 4294967296) + x % 4294967296 * (y % 4294967296) / 4294967296) % 4294967296 + x % 4294967296 * (y / 4294967296)) / B32))
    (hi := uu (x * y / M64)) (lo := uu (x * y % M64)) (S := S) (k := k) (e1 := ulow x) (e2 := ushr32 x) (e3 := ulow y) (e4 := ushr32 y) (e5 := fun c => umul (a := x % 4294967296) (b := y % 4294967296) (by omega) c) (e6 := fun c => umul (a := x / 4294967296) (b := y % 4294967296) (by omega) c) (e7 := ushr32 _) (e8 := fun c => uadd (a := x / 4294967296 * (y % 4294967296)) (b := x % 4294967296 * (y % 4294967296) / 4294967296) (by omega) c) (e9 := ulow _) (e10 := ushr32 _) (e11 := fun c => umul (a := x % 4294967296) (b := y / 4294967296) (by omega) c) (e12 := fun c => uadd (a := (x / 4294967296 * (y % 4294967296) + x % 4294967296 * (y % 4294967296) / 4294967296) % 4294967296) (b := x % 4294967296 * (y / 4294967296)) (by omega) c) (e13 := fun c => umul (a := x / 4294967296) (b := y / 4294967296) (by omega) c) (e14 := fun c => uadd (a := x / 4294967296 * (y / 4294967296)) (b := (x / 4294967296 * (y % 4294967296) + x % 4294967296 * (y % 4294967296) / 4294967296) / 4294967296) (by omega) c) (e15 := ushr32 _) (e16 := fun c => ?_) (e17 := fun c => pMul_i .u64 x y c)
  have := uadd (a := x / 4294967296 * (y / 4294967296) + (x / 4294967296 * (y % 4294967296) + x % 4294967296 * (y % 4294967296) / 4294967296) / 4294967296) (b := ((x / 4294967296 * (y % 4294967296) + x % 4294967296 * (y % 4294967296) / 4294967296) % 4294967296 + x % 4294967296 * (y / 4294967296)) / 4294967296) (by omega) c
  rw [← har] at this
  exact this
/- mulWords -/
def BI141 (f138 : Gn 3) (f169 : Gn 2) : CS 20 := (cSeq (cReg fun kn v0 v1 v2 v3 v4 v5 v6 v7 v8 v9 v10 v11 v12 v13 v14 v15 v16 v17 v18 v19 S => pLss v6 v7 (fun a0 => kn v0 v1 v2 v3 v4 v5 v6 v7 a0 v9 v10 v11 v12 v13 v14 v15 v16 v17 v18 v19 S)) (cSeq (cCond (fun x y v0 v1 v2 v3 v4 v5 v6 v7 v8 v9 v10 v11 v12 v13 v14 v15 v16 v17 v18 v19 S => pIf v8 (x v0 v1 v2 v3 v4 v5 v6 v7 v8 v9 v10 v11 v12 v13 v14 v15 v16 v17 v18 v19 S) (y v0 v1 v2 v3 v4 v5 v6 v7 v8 v9 v10 v11 v12 v13 v14 v15 v16 v17 v18 v19 S)) cSkip (cExit 2)) (cSeq (cBlock 3 (cSeq (cReg fun kn v0 v1 v2 v3 v4 v5 v6 v7 v8 v9 v10 v11 v12 v13 v14 v15 v16 v17 v18 v19 S => pIdx 1 v9 v6 (fun a0 => pLd a0 S (fun a1 => kn v0 v1 v2 v3 v4 v5 v6 v7 v8 v9 v10 a1 v12 v13 v14 v6 v16 v17 v18 v19 S))) (cSeq (cReg fun kn v0 v1 v2 v3 v4 v5 v6 v7 v8 v9 v10 v11 v12 v13 v14 v15 v16 v17 v18 v19 S => f169 v10 v11 S (fun a0 S => pExt a0 0 (fun a1 => pExt a0 1 (fun a2 => kn v0 v1 v2 v3 v4 v5 v6 v7 v8 v9 v10 v11 a2 v13 v14 v15 a1 v17 v18 v19 S)))) (cSeq (cReg fun kn v0 v1 v2 v3 v4 v5 v6 v7 v8 v9 v10 v11 v12 v13 v14 v15 v16 v17 v18 v19 S => kn v0 v1 v2 v3 v4 v5 v6 v7 v8 v9 v10 v11 v12 v13 v14 v15 v16 (.i .u64 0) v18 v19 S) (cSeq (cReg fun kn v0 v1 v2 v3 v4 v5 v6 v7 v8 v9 v10 v11 v12 v13 v14 v15 v16 v17 v18 v19 S => pAdd v14 v15 (fun a0 => pIdx 1 v13 a0 (fun a1 => pLd a1 S (fun a2 => f138 v12 a2 (.i .u64 0) S (fun a3 S => pExt a3 0 (fun a4 => pExt a3 1 (fun a5 => kn v0 v1 v2 v3 v4 v5 v6 v7 v8 v9 v10 v11 a4 v13 v14 v15 v16 a5 v18 v19 S))))))) (cSeq (cReg fun kn v0 v1 v2 v3 v4 v5 v6 v7 v8 v9 v10 v11 v12 v13 v14 v15 v16 v17 v18 v19 S => pAdd v16 v17 (fun a0 => kn v0 v1 v2 v3 v4 v5 v6 v7 v8 v9 v10 v11 v12 v13 v14 v15 a0 v17 v18 v19 S)) (cSeq (cReg fun kn v0 v1 v2 v3 v4 v5 v6 v7 v8 v9 v10 v11 v12 v13 v14 v15 v16 v17 v18 v19 S => f138 v12 v18 (.i .u64 0) S (fun a0 S => pExt a0 0 (fun a1 => pExt a0 1 (fun a2 => kn v0 v1 v2 v3 v4 v5 v6 v7 v8 v9 v10 v11 a1 v13 v14 v15 v16 a2 v18 v19 S)))) (cReg fun kn v0 v1 v2 v3 v4 v5 v6 v7 v8 v9 v10 v11 v12 v13 v14 v15 v16 v17 v18 v19 S => pAdd v14 v15 (fun a0 => pAdd v16 v17 (fun a1 => pIdx 1 v13 a0 (fun a2 => pSt 1 a2 v12 S (fun S => kn v0 v1 v2 v3 v4 v5 v6 v7 v8 v9 v10 v11 v12 v13 v14 v15 v16 v17 a1 v19 S)))))))))))) (cReg fun kn v0 v1 v2 v3 v4 v5 v6 v7 v8 v9 v10 v11 v12 v13 v14 v15 v16 v17 v18 v19 S => pAdd v6 (.i .i64 1) (fun a0 => kn v0 v1 v2 v3 v4 v5 a0 v7 v8 v9 v10 v11 v12 v13 v14 v15 v16 v17 v18 v19 S)))))
def BO141 (I1 : CS 20) : CS 20 := (cSeq (cReg fun kn v0 v1 v2 v3 v4 v5 v6 v7 v8 v9 v10 v11 v12 v13 v14 v15 v16 v17 v18 v19 S => pLss v2 v3 (fun a0 => kn v0 v1 v2 v3 a0 v5 v6 v7 v8 v9 v10 v11 v12 v13 v14 v15 v16 v17 v18 v19 S)) (cSeq (cCond (fun x y v0 v1 v2 v3 v4 v5 v6 v7 v8 v9 v10 v11 v12 v13 v14 v15 v16 v17 v18 v19 S => pIf v4 (x v0 v1 v2 v3 v4 v5 v6 v7 v8 v9 v10 v11 v12 v13 v14 v15 v16 v17 v18 v19 S) (y v0 v1 v2 v3 v4 v5 v6 v7 v8 v9 v10 v11 v12 v13 v14 v15 v16 v17 v18 v19 S)) cSkip (cExit 0)) (cSeq (cBlock 1 (cSeq (cReg fun kn v0 v1 v2 v3 v4 v5 v6 v7 v8 v9 v10 v11 v12 v13 v14 v15 v16 v17 v18 v19 S => pIdx 1 v5 v2 (fun a0 => pLd a0 S (fun a1 => kn v0 v1 v2 v3 v4 v5 v6 v7 v8 v9 a1 v11 v12 v13 v2 v15 v16 v17 v18 v19 S))) (cSeq (cReg fun kn v0 v1 v2 v3 v4 v5 v6 v7 v8 v9 v10 v11 v12 v13 v14 v15 v16 v17 v18 v19 S => kn v0 v1 v2 v3 v4 v5 v6 v7 v8 v9 v10 v11 v12 v13 v14 v15 v16 v17 (.i .u64 0) v19 S) (cSeq (cSeq (cReg fun kn v0 v1 v2 v3 v4 v5 v6 v7 v8 v9 v10 v11 v12 v13 v14 v15 v16 v17 v18 v19 S => pLen v1 (fun a0 => kn v0 v1 v2 v3 v4 v5 (.i .i64 0) a0 v8 v1 v10 v11 v12 v13 v14 v15 v16 v17 v18 v19 S)) I1) (cReg fun kn v0 v1 v2 v3 v4 v5 v6 v7 v8 v9 v10 v11 v12 v13 v14 v15 v16 v17 v18 v19 S => pLen v1 (fun a0 => pAdd v14 a0 (fun a1 => pIdx 1 v13 a1 (fun a2 => pSt 1 a2 v18 S (fun S => kn v0 v1 v2 v3 v4 v5 v6 v7 v8 v9 v10 v11 v12 v13 v14 v15 v16 v17 v18 v19 S))))))))) (cReg fun kn v0 v1 v2 v3 v4 v5 v6 v7 v8 v9 v10 v11 v12 v13 v14 v15 v16 v17 v18 v19 S => pAdd v2 (.i .i64 1) (fun a0 => kn v0 v1 a0 v3 v4 v5 v6 v7 v8 v9 v10 v11 v12 v13 v14 v15 v16 v17 v18 v19 S)))))
def HT141 (f168 : Gn 1) (I0 : CS 20) : CS 20 := (cSeq (cReg fun kn v0 v1 v2 v3 v4 v5 v6 v7 v8 v9 v10 v11 v12 v13 v14 v15 v16 v17 v18 v19 S => kn v0 v1 v2 v3 v4 v5 v6 v7 v8 v9 v10 v11 v12 v13 v14 v15 v16 v17 v18 .sn S) (cSeq (cReg fun kn v0 v1 v2 v3 v4 v5 v6 v7 v8 v9 v10 v11 v12 v13 v14 v15 v16 v17 v18 v19 S => pLen v0 (fun a0 => pLen v1 (fun a1 => pAdd a0 a1 (fun a2 => pMks [(.i .u64 0)] a2 a2 S (fun a3 S => kn v0 v1 v2 v3 v4 v5 v6 v7 v8 v9 v10 v11 v12 a3 v14 v15 v16 v17 v18 v19 S))))) (cSeq (cSeq (cReg fun kn v0 v1 v2 v3 v4 v5 v6 v7 v8 v9 v10 v11 v12 v13 v14 v15 v16 v17 v18 v19 S => pLen v0 (fun a0 => kn v0 v1 (.i .i64 0) a0 v4 v0 v6 v7 v8 v9 v10 v11 v12 v13 v14 v15 v16 v17 v18 v19 S)) I0) (cSeq (cReg fun kn v0 v1 v2 v3 v4 v5 v6 v7 v8 v9 v10 v11 v12 v13 v14 v15 v16 v17 v18 v19 S => f168 v13 S (fun a0 S => kn v0 v1 v2 v3 v4 v5 v6 v7 v8 v9 v10 v11 v12 v13 v14 v15 v16 v17 v18 a0 S)) cRet))))
theorem C141_eq (f138 : Gn 3) (f168 : Gn 1) (f169 : Gn 2) : C141 f138 f168 f169 = HT141 f168 (cBlock 0 (cLoop (BO141 (cBlock 2 (cLoop (BI141 f138 f169)))))) := by rfl
section
variable (f168 : Gn 1) (f169 : Gn 2) (f138 : Gn 3) (K : Fn 20) (kx : Nat → Fn 20) (kr : Fn 20) (v0 v1 v2 v3 v4 v5 v6 v7 v8 v9 v10 v11 v12 v13 v14 v15 v16 v17 v18 v19 a b d q q2 x y hi lo s o l1 c1 l2 c2 hi' c' n' t r w2 w3 w4 w5 w6 w7 w8 w9 w10 w11 w12 w14 w15 w16 w17 w18 : V) (S S1 S2 S3 : St)
theorem wi_end (h1 : ∀ c, pLss v6 v7 c = c (.b false)) : BI141 f138 f169 K kx kr v0 v1 v2 v3 v4 v5 v6 v7 v8 v9 v10 v11 v12 v13 v14 v15 v16 v17 v18 v19 S = kx 2 v0 v1 v2 v3 v4 v5 v6 v7 (.b false) v9 v10 v11 v12 v13 v14 v15 v16 v17 v18 v19 S := by
  simp only [BI141, cSeq, cReg, cCond, cBlock, cSkip, cExit, cRet, h1, ifF]
theorem wi_go (h1 : ∀ c, pLss v6 v7 c = c (.b true)) (h2 : ∀ c, pIdx 1 v9 v6 c = c q2) (h3 : ∀ c, pLd q2 S c = c y) (h4 : ∀ k, f169 v10 y S k = k (.tu [hi, lo]) S) (h5 : ∀ c, pAdd v14 v6 c = c s) (h6 : ∀ c, pIdx 1 v13 s c = c q) (h7 : ∀ c, pLd q S c = c o) (h8 : ∀ k, f138 lo o (uu 0) S k = k (.tu [l1, c1]) S) (h9 : ∀ c, pAdd hi c1 c = c hi')
    (h10 : ∀ k, f138 l1 v18 (uu 0) S k = k (.tu [l2, c2]) S) (h11 : ∀ c, pAdd hi' c2 c = c c') (h12 : ∀ c, pSt 1 q l2 S c = c S1) (h13 : ∀ c, pAdd v6 (nn 1) c = c n') :
    BI141 f138 f169 K kx kr v0 v1 v2 v3 v4 v5 v6 v7 v8 v9 v10 v11 v12 v13 v14 v15 v16 v17 v18 v19 S = K v0 v1 v2 v3 v4 v5 n' v7 (.b true) v9 v10 y l2 v13 v14 v6 hi' c2 c' v19 S1 := by
  simp only [BI141, cSeq, cReg, cCond, cBlock, cSkip, cExit, cRet, h1, h2, h3, h4, h5, h6, h7, h8, h9, h10, h11, h12, h13, ext0, ext1, ifT]
theorem wo_end (I1 : CS 20) (h1 : ∀ c, pLss v2 v3 c = c (.b false)) : BO141 I1 K kx kr v0 v1 v2 v3 v4 v5 v6 v7 v8 v9 v10 v11 v12 v13 v14 v15 v16 v17 v18 v19 S = kx 0 v0 v1 v2 v3 (.b false) v5 v6 v7 v8 v9 v10 v11 v12 v13 v14 v15 v16 v17 v18 v19 S := by
  simp only [BO141, cSeq, cReg, cCond, cBlock, cSkip, cExit, cRet, h1, ifF]
theorem wo_go (I1 : CS 20) (h1 : ∀ c, pLss v2 v3 c = c (.b true)) (h2 : ∀ c, pIdx 1 v5 v2 c = c q) (h3 : ∀ c, pLd q S c = c x) (h4 : ∀ c, pLen v1 c = c b)
    (hI : ∀ (kn : Fn 20) (kx : Nat → Fn 20) (kr : Fn 20), I1 kn kx kr v0 v1 v2 v3 (.b true) v5 (nn 0) b v8 v1 x v11 v12 v13 v2 v15 v16 v17 (uu 0) v19 S = kn v0 v1 v2 v3 (.b true) v5 w6 w7 w8 w9 x w11 w12 v13 v2 w15 w16 w17 w18 v19 S1)
    (h5 : ∀ c, pAdd v2 b c = c s) (h6 : ∀ c, pIdx 1 v13 s c = c q2) (h7 : ∀ c, pSt 1 q2 w18 S1 c = c S2) (h8 : ∀ c, pAdd v2 (nn 1) c = c n') :
    BO141 I1 K kx kr v0 v1 v2 v3 v4 v5 v6 v7 v8 v9 v10 v11 v12 v13 v14 v15 v16 v17 v18 v19 S = K v0 v1 n' v3 (.b true) v5 w6 w7 w8 w9 x w11 w12 v13 v2 w15 w16 w17 w18 v19 S2 := by
  simp only [BO141, cSeq, cReg, cCond, cBlock, cSkip, cExit, cRet, h1, h2, h3, h4, hI, h5, h6, h7, h8, ifT]
theorem mw_head (I0 : CS 20) (h1 : ∀ c, pLen v0 c = c a) (h2 : ∀ c, pLen v1 c = c b) (h3 : ∀ c, pAdd a b c = c t) (h4 : ∀ c : Cont, pMks [.i .u64 0] t t S c = c o S1)
    (hL : ∀ (kn : Fn 20) (kx : Nat → Fn 20) (kr : Fn 20), I0 kn kx kr v0 v1 (nn 0) a v4 v0 v6 v7 v8 v9 v10 v11 v12 o v14 v15 v16 v17 v18 .sn S1 = kn v0 v1 w2 w3 w4 w5 w6 w7 w8 w9 w10 w11 w12 o w14 w15 w16 w17 w18 .sn S2) (h5 : ∀ c, f168 o S2 c = c r S2) :
    HT141 f168 I0 K kx kr v0 v1 v2 v3 v4 v5 v6 v7 v8 v9 v10 v11 v12 v13 v14 v15 v16 v17 v18 v19 S = kr v0 v1 w2 w3 w4 w5 w6 w7 w8 w9 w10 w11 w12 o w14 w15 w16 w17 w18 r S2 := by
  simp only [HT141, cSeq, cReg, cCond, cBlock, cSkip, cExit, cRet, h1, h2, h3, h4, hL, h5]
end
theorem wi_ar (P o c : Nat) (hP : P ≤ 340282366920938463426481119284349108225) (ho : o < 18446744073709551616) (hc : c < 18446744073709551616) :
    ((P % 18446744073709551616 + o + 0) % 18446744073709551616 + c + 0) % 18446744073709551616 = (P + o + c) % 18446744073709551616 ∧
    P / 18446744073709551616 + (P % 18446744073709551616 + o + 0) / 18446744073709551616 + ((P % 18446744073709551616 + o + 0) % 18446744073709551616 + c + 0) / 18446744073709551616 = (P + o + c) / 18446744073709551616 ∧
    (P + o + c) / 18446744073709551616 < 18446744073709551616 := by omega
theorem wi_loop {vy : V} {y : List Nat} {io : Pos} {i m x : Nat} (hx : x < M64) (hy : ∀ z ∈ y, z < M64) (ly : y.length ≤ 90000) (hm : m ≤ 200000) (him : i + y.length ≤ m) :
    ∀ (N k c : Nat) (S : St) (L : List Nat) (v8 v11 v12 v15 v16 v17 : V), k ≤ y.length → y.length < N + k → L.length = m → Run S0 S → Own S0 S io (L.map uu) → TRow S0 vy y S io → (∀ z ∈ L, z < M64) → c < M64 →
    ∃ S' c' w11 w12 w15 w16 w17 L', Run S0 S' ∧ Own S0 S' io (L'.map uu) ∧ L'.length = m ∧ (∀ q ds, q ≠ io → Own S0 S q ds → Own S0 S' q ds) ∧ (∀ z ∈ L', z < M64) ∧ c' < M64 ∧ (∀ j, i + y.length ≤ j → L'.getD j 0 = L.getD j 0) ∧
      ofL M64 L' + M64 ^ (i + y.length) * c' = ofL M64 L + M64 ^ (i + k) * (c + x * ofL M64 (y.drop k)) ∧
      ∀ (kx : Nat → Fn 20) (kr : Fn 20) (v0 v1 v2 v3 v4 v5 v19 : V), loopN (BI141 F138 F169) kx kr N v0 v1 v2 v3 v4 v5 (nn k) (nn y.length) v8 vy (uu x) v11 v12 (.sl io 0 m m) (nn i) v15 v16 v17 (uu c) v19 S = kx 2 v0 v1 v2 v3 v4 v5 (nn y.length) (nn y.length) (.b false) vy (uu x) w11 w12 (.sl io 0 m m) (nn i) w15 w16 w17 (uu c') v19 S'
  | 0, k, c, S, L, v8, v11, v12, v15, v16, v17, h1, h2, hL, r, ho, t2, hl, hc => by omega
  | N + 1, k, c, S, L, v8, v11, v12, v15, v16, v17, h1, h2, hL, r, ho, t2, hl, hc => by
    by_cases hk : k < y.length
    · have eM : M64 = 18446744073709551616 := rfl
      have by' := getD_lt hy (by decide) k
      have bo := getD_lt hl (by decide) (i + k)
      have hxy : x * y.getD k 0 ≤ 18446744073709551615 * 18446744073709551615 := Nat.mul_le_mul (by omega) (by omega)
      obtain ⟨a1', a2', a3'⟩ := wi_ar (x * y.getD k 0) (L.getD (i + k) 0) c (by omega) (by omega) (by omega)
      obtain ⟨q2, s3, s4⟩ := t2.row.get hk
      obtain ⟨s, hss⟩ : ∃ s, x * y.getD k 0 + L.getD (i + k) 0 + c = s := ⟨_, rfl⟩
      rw [hss] at a1' a2' a3'
      obtain ⟨S1, r1, o1, k1, a1⟩ := U.Own_put (x := uu (s % M64)) ho r (i := i + k) (by rw [List.length_map]; omega) (fun k => cellsK_i _ _ k)
      rw [map_set_uu] at o1
      obtain ⟨S', c', w11, w12, w15, w16, w17, L', z1, z2, z3, z4, z6, z7, z8, z9, z10⟩ := wi_loop hx hy ly hm him N (k + 1) (s / M64) S1 (L.set (i + k) (s % M64)) (.b true) (uu (y.getD k 0)) (uu (s % M64)) (nn k) (uu (x * y.getD k 0 / M64 + (x * y.getD k 0 % M64 + L.getD (i + k) 0 + 0) / M64)) (uu (((x * y.getD k 0 % M64 + L.getD (i + k) 0 + 0) % M64 + c + 0) / M64)) (by omega) (by omega) (by rw [List.length_set]; exact hL) r1 o1 (t2.step k1) (fun z hz => by
        rcases List.mem_or_eq_of_mem_set hz with h | h
        · exact hl z h
        · rw [h]; exact Nat.mod_lt _ (by decide)) a3'
      refine ⟨S', c', w11, w12, w15, w16, w17, L', z1, z2, z3, fun q ds hq h => z4 q ds hq (k1 q ds hq h), z6, z7, fun j hj => ?_, ?_, fun kx kr v0 v1 v2 v3 v4 v5 v19 => ?_⟩
      · rw [z8 j hj, gset, if_neg (by omega)]
      · rw [z9]
        have e1 := ofL_set (B := M64) L (i + k) (s % M64) (by omega)
        have e2 := dropG M64 y k
        have e3 := Nat.div_add_mod s M64
        rw [e2]
        generalize ofL M64 (y.drop (k + 1)) = Y at *
        generalize y.getD k 0 = Yk at *
        generalize L.getD (i + k) 0 = O at *
        rw [show i + (k + 1) = (i + k) + 1 by omega, Nat.pow_succ]
        generalize M64 ^ (i + k) = P at *
        have f1 : P * M64 * (s / M64 + x * Y) = P * (M64 * (s / M64)) + P * (x * (M64 * Y)) := by
          rw [Nat.mul_assoc, Nat.mul_add, Nat.mul_add, Nat.mul_left_comm x M64 Y]
        have f2 : P * (c + x * (Yk + M64 * Y)) = P * c + P * (x * Yk) + P * (x * (M64 * Y)) := by
          rw [Nat.mul_add, Nat.mul_add, Nat.mul_add]; omega
        have f3 : P * s = P * (M64 * (s / M64)) + P * (s % M64) := by rw [← Nat.mul_add, e3]
        have f4 : P * s = P * (x * Yk) + P * O + P * c := by rw [← hss, Nat.mul_add, Nat.mul_add]
        rw [f1, f2]
        omega
      · have a1'' : ((x * y.getD k 0 % M64 + L.getD (i + k) 0 + 0) % M64 + c + 0) % M64 = s % M64 := a1'
        have a2'' : x * y.getD k 0 / M64 + (x * y.getD k 0 % M64 + L.getD (i + k) 0 + 0) / M64 + ((x * y.getD k 0 % M64 + L.getD (i + k) 0 + 0) % M64 + c + 0) / M64 = s / M64 := a2'
        rw [loopN_succ, wi_go (h1 := fun c => by rw [lss_n (by omega) (by omega), decide_eq_true hk]) (h2 := s3) (h3 := s4) (h4 := fun k => m64_eq hx by' S k) (h5 := fun c => add_n (by omega) c) (h6 := fun c => idx_sl io (by omega) (by omega) c) (h7 := fun c => U.Own_get ho (by omega) c) (h8 := fun k' => f138_eq (by omega) S k') (h9 := fun k' => uadd (a := x * y.getD k 0 / 18446744073709551616) (b := (x * y.getD k 0 % 18446744073709551616 + L.getD (i + k) 0 + 0) / 18446744073709551616) (by omega) k')
          (h10 := fun k' => (f138_eq (by omega) S k').trans (by rw [a1''])) (h11 := fun k' => (uadd (a := x * y.getD k 0 / 18446744073709551616 + (x * y.getD k 0 % 18446744073709551616 + L.getD (i + k) 0 + 0) / 18446744073709551616) (b := ((x * y.getD k 0 % 18446744073709551616 + L.getD (i + k) 0 + 0) % 18446744073709551616 + c + 0) / 18446744073709551616) (by omega) k').trans (congrArg (fun n => k' (uu n)) a2'')) (h12 := a1) (h13 := fun c => add_n (by omega) c)]
        exact z10 kx kr v0 v1 v2 v3 v4 v5 v19
    · have : k = y.length := by omega
      subst this
      refine ⟨S, c, v11, v12, v15, v16, v17, L, r, ho, hL, fun q ds _ h => h, hl, hc, fun j _ => rfl, ?_, fun kx kr v0 v1 v2 v3 v4 v5 v19 => ?_⟩
      · rw [List.drop_length]; simp [ofL]
      · rw [loopN_succ, wi_end (h1 := fun c => by rw [lss_n (by omega) (by omega), decide_eq_false (by omega)])]
theorem wo_loop {vx vy : V} {x y : List Nat} {io : Pos} {m : Nat} (hx : ∀ z ∈ x, z < M64) (hy : ∀ z ∈ y, z < M64) (lx : x.length ≤ 90000) (ly : y.length ≤ 90000) (hm : m = x.length + y.length) :
    ∀ (N i : Nat) (S : St) (L : List Nat) (v4 v6 v7 v8 v9 v10 v11 v12 v14 v15 v16 v17 v18 : V), i ≤ x.length → x.length < N + i → L.length = m → Run S0 S → Own S0 S io (L.map uu) → TRow S0 vx x S io → TRow S0 vy y S io → (∀ z ∈ L, z < M64) → (∀ j, i + y.length ≤ j → L.getD j 0 = 0) →
    ofL M64 L + M64 ^ i * (ofL M64 (x.drop i) * ofL M64 y) = ofL M64 x * ofL M64 y →
    ∃ S' w6 w7 w8 w9 w10 w11 w12 w14 w15 w16 w17 w18 L', Run S0 S' ∧ Own S0 S' io (L'.map uu) ∧ L'.length = m ∧ (∀ z ∈ L', z < M64) ∧ ofL M64 L' = ofL M64 x * ofL M64 y ∧ (∀ q ds, q ≠ io → Own S0 S q ds → Own S0 S' q ds) ∧
      ∀ (kx : Nat → Fn 20) (kr : Fn 20) (v0 v19 : V), loopN (BO141 (cBlock 2 (cLoop (BI141 F138 F169)))) kx kr N v0 vy (nn i) (nn x.length) v4 vx v6 v7 v8 v9 v10 v11 v12 (.sl io 0 m m) v14 v15 v16 v17 v18 v19 S = kx 0 v0 vy (nn x.length) (nn x.length) (.b false) vx w6 w7 w8 w9 w10 w11 w12 (.sl io 0 m m) w14 w15 w16 w17 w18 v19 S'
  | 0, i, S, L, v4, v6, v7, v8, v9, v10, v11, v12, v14, v15, v16, v17, v18, h1, h2, hL, r, ho, t1, t2, hl, hz, he => by omega
  | N + 1, i, S, L, v4, v6, v7, v8, v9, v10, v11, v12, v14, v15, v16, v17, v18, h1, h2, hL, r, ho, t1, t2, hl, hz, he => by
    by_cases hi : i < x.length
    · have bx := getD_lt hx (by decide) i
      obtain ⟨q1, s1, s2⟩ := t1.row.get hi
      obtain ⟨S1, c', w11, w12, w15, w16, w17, L1, z1, z2, z3, z4, z6, z7, z8, z9, z10⟩ := wi_loop (i := i) (m := m) bx hy ly (by omega) (by omega) 1000000 0 0 S L v8 v11 v12 v15 v16 v17 (by omega) (by omega) hL r ho t2 hl (by decide)
      obtain ⟨S2, r2, o2, k2, a2⟩ := U.Own_put (x := uu c') z2 z1 (i := i + y.length) (by rw [List.length_map]; omega) (fun k => cellsK_i _ _ k)
      rw [map_set_uu] at o2
      have hv : ofL M64 (L1.set (i + y.length) c') = ofL M64 L + M64 ^ i * (x.getD i 0 * ofL M64 y) := by
        have e1 := ofL_set (B := M64) L1 (i + y.length) c' (by omega)
        rw [z8 _ (Nat.le_refl _), hz _ (Nat.le_refl _), Nat.mul_zero, Nat.add_zero, z9] at e1
        rw [e1]; simp
      obtain ⟨S', w6', w7', w8', w9', w10', w11', w12', w14', w15', w16', w17', w18', L', y1, y2, y3, y4, y5, y7, y6⟩ := wo_loop hx hy lx ly hm N (i + 1) S2 (L1.set (i + y.length) c') (.b true) (nn y.length) (nn y.length) (.b false) vy (uu (x.getD i 0)) w11 w12 (nn i) w15 w16 w17 (uu c') (by omega) (by omega) (by rw [List.length_set]; exact z3) r2 o2 ((t1.step z4).step k2) ((t2.step z4).step k2) (fun z hz => by
        rcases List.mem_or_eq_of_mem_set hz with h | h
        · exact z6 z h
        · rw [h]; exact z7) (fun j hj => by rw [gset, if_neg (by omega), z8 j (by omega), hz j (by omega)]) (by
        rw [hv, ← he, dropG M64 x i, Nat.pow_succ]
        generalize ofL M64 (x.drop (i + 1)) = X
        generalize ofL M64 y = Y
        generalize x.getD i 0 = Xi
        generalize M64 ^ i = P
        have f1 : P * M64 * (X * Y) = P * (M64 * X * Y) := by rw [Nat.mul_assoc P, Nat.mul_assoc M64]
        have f2 : P * ((Xi + M64 * X) * Y) = P * (Xi * Y) + P * (M64 * X * Y) := by rw [Nat.add_mul, Nat.mul_add]
        rw [f1, f2]; omega)
      refine ⟨S', w6', w7', w8', w9', w10', w11', w12', w14', w15', w16', w17', w18', L', y1, y2, y3, y4, y5, fun q ds hq h => y7 q ds hq (k2 q ds hq (z4 q ds hq h)), fun kx kr v0 v19 => ?_⟩
      rw [loopN_succ, wo_go (h1 := fun c => by rw [lss_n (by omega) (by omega), decide_eq_true hi]) (h2 := s1) (h3 := s2) (h4 := t2.row.len.1) (hI := fun kn kx kr => by
        obtain ⟨kx', e1, e2⟩ := block_loop_at 2 (BI141 F138 F169) kn kx kr
        rw [e2]
        refine (z10 kx' kr _ _ _ _ _ _ _).trans ?_
        rw [e1]) (h5 := fun c => add_n (by omega) c) (h6 := fun c => idx_sl io (by omega) (by omega) c) (h7 := a2) (h8 := fun c => add_n (by omega) c)]
      exact y6 kx kr v0 v19
    · have : i = x.length := by omega
      subst this
      refine ⟨S, v6, v7, v8, v9, v10, v11, v12, v14, v15, v16, v17, v18, L, r, ho, hL, hl, ?_, fun q ds _ h => h, fun kx kr v0 v19 => ?_⟩
      · rw [← he, List.drop_length]; simp [ofL]
      · rw [loopN_succ, wo_end (h1 := fun c => by rw [lss_n (by omega) (by omega), decide_eq_false (by omega)])]
theorem Wd.len {id : Pos} {m : Nat} {l : List Nat} (h : Wd S0 S id m l) : l.length ≤ m ∧ m ≤ 500000 := by obtain ⟨t, h1, h2, _⟩ := h; omega
theorem Wd.keep {S' : St} {id : Pos} {m : Nat} {l : List Nat} (h : Wd S0 S id m l) (hk : ∀ q ds, Own S0 S q ds → Own S0 S' q ds) : Wd S0 S' id m l := by obtain ⟨t, h1, h2, h3⟩ := h; exact ⟨t, h1, h2, hk _ _ h3⟩
/-- the product of rows of words -/
theorem mulw_run {ix iy : Pos} {mx my : Nat} {x y : List Nat} (hx : Wd S0 S ix mx x) (hy : Wd S0 S iy my y) (bx : ∀ z ∈ x, z < M64) (by' : ∀ z ∈ y, z < M64) (lx : x.length ≤ 90000) (ly : y.length ≤ 90000) (r : Run S0 S) :
    ∃ S' io m, Run S0 S' ∧ Wd S0 S' io m (dg M64 (ofL M64 x * ofL M64 y)) ∧ (∀ q ds, Own S0 S q ds → Own S0 S' q ds ∧ q ≠ io) ∧ ∀ k, F141 (.sl ix 0 x.length mx) (.sl iy 0 y.length my) S k = k (.sl io 0 (dg M64 (ofL M64 x * ofL M64 y)).length m) S' := by
  have r3 := r.new ((List.replicate (x.length + y.length) 0).map uu)
  have zl : (List.replicate (x.length + y.length) 0).length = x.length + y.length := by simp
  have g0 : ∀ j, (List.replicate (x.length + y.length) 0).getD j 0 = 0 := fun j => by
    rw [List.getD_eq_getElem?_getD, List.getElem?_replicate]; split <;> rfl
  have tx : TRow S0 (.sl ix 0 x.length mx) x (S.new ((List.replicate (x.length + y.length) 0).map uu)) S.nx := by
    obtain ⟨t, g1, g2, g3⟩ := hx
    obtain ⟨k1, k2⟩ := g3.keep r ((List.replicate (x.length + y.length) 0).map uu)
    exact Wd.trow (S := S.new ((List.replicate (x.length + y.length) 0).map uu)) ⟨t, g1, g2, k1⟩ k2
  have ty : TRow S0 (.sl iy 0 y.length my) y (S.new ((List.replicate (x.length + y.length) 0).map uu)) S.nx := by
    obtain ⟨t, g1, g2, g3⟩ := hy
    obtain ⟨k1, k2⟩ := g3.keep r ((List.replicate (x.length + y.length) 0).map uu)
    exact Wd.trow (S := S.new ((List.replicate (x.length + y.length) 0).map uu)) ⟨t, g1, g2, k1⟩ k2
  obtain ⟨S', w6, w7, w8, w9, w10, w11, w12, w14, w15, w16, w17, w18, L', z1, z2, z3, z4, z5, z7, z6⟩ := wo_loop (io := S.nx) bx by' lx ly rfl 1000000 0 _ (List.replicate (x.length + y.length) 0) .other .other .other .other .other .other .other .other .other .other .other .other .other (by omega) (by omega) zl r3 (Own.new r _) tx ty (fun z hz => by rw [(List.mem_replicate.1 hz).2]; decide) (fun j _ => g0 j) (by rw [ofL_rep]; simp)
  have hw : Wd S0 S' S.nx (x.length + y.length) L' := ⟨[], by simpa using z3, by omega, by simpa using z2⟩
  obtain ⟨t1, t2⟩ := hw.trim z4
  rw [z5] at t1 t2
  rw [z3] at t2
  refine ⟨S', S.nx, x.length + y.length, z1, t1, fun q ds h => ?_, fun k => ?_⟩
  · obtain ⟨k1, k2⟩ := h.keep r ((List.replicate (x.length + y.length) 0).map uu)
    exact ⟨z7 q ds k2 k1, k2⟩
  · unfold F141 G141
    rw [C141_eq, mw_head (a := nn x.length) (b := nn y.length) (t := nn (x.length + y.length)) (o := .sl S.nx 0 (x.length + y.length) (x.length + y.length)) (w2 := nn x.length) (w3 := nn x.length) (w4 := .b false) (w5 := .sl ix 0 x.length mx) (w6 := w6) (w7 := w7) (w8 := w8) (w9 := w9) (w10 := w10) (w11 := w11) (w12 := w12) (w14 := w14) (w15 := w15) (w16 := w16) (w17 := w17) (w18 := w18) (S1 := S.new ((List.replicate (x.length + y.length) 0).map uu)) (S2 := S')
      (h1 := hx.row.len.1) (h2 := hy.row.len.1) (h3 := fun c => add_n (by omega) c) (h4 := fun c => mks_u (by omega) S c) (hL := fun kn kx kr => ?_) (h5 := t2)]
    obtain ⟨kx', e1, e2⟩ := block_loop_at 0 (BO141 (cBlock 2 (cLoop (BI141 F138 F169)))) kn kx kr
    rw [e2]
    refine (z6 kx' kr _ _).trans ?_
    rw [e1]
/- NatMul -/
theorem nm_go (f137 f139 : Gn 1) (f141 : Gn 2) (v0 v1 a b d r : V) (S S1 S2 S3 S4 : St) (k : Cont) (h1 : ∀ c, f137 v0 S c = c a S1) (h2 : ∀ c, f137 v1 S1 c = c b S2) (h3 : ∀ c, f141 a b S2 c = c d S3) (h4 : ∀ c, f139 d S3 c = c r S4) : G99 (C99 f137 f139 f141) v0 v1 S k = k r S4 := by
  simp only [G99, C99, cSeq, cReg, cRet, h1, h2, h3, h4]
theorem nmul_run {a b : List Nat} (ha : By a) (hb : By b) (la : a.length ≤ 50000) (lb : b.length ≤ 50000) (r : Run S0 S) : ∃ S', Run S0 S' ∧ ∀ k, F99 (.s a) (.s b) S k = k (.s (strN (U.val a * U.val b))) S' := by
  obtain ⟨S1, ix, mx, r1, x1, x2, x3⟩ := words_run ha (by omega) r
  obtain ⟨S2, iy, my, r2, y1, y2, y3⟩ := words_run hb (by omega) r1
  have lx := len_w ha
  have ly := len_w hb
  have x1' := x1.keep fun q ds h => (y2 q ds h).1
  have dX : ∀ z ∈ dg M64 (U.val a), z < M64 := dg_lt (by decide) _
  have dY : ∀ z ∈ dg M64 (U.val b), z < M64 := dg_lt (by decide) _
  obtain ⟨S3, io, m, r3, z1, z2, z3⟩ := mulw_run x1' y1 dX dY (by omega) (by omega) r2
  rw [ofL_dg (by decide), ofL_dg (by decide)] at z1 z3
  have dZ : ∀ z ∈ dg M64 (U.val a * U.val b), z < M64 := dg_lt (by decide) _
  have hl : (dg M64 (U.val a * U.val b)).length ≤ 100000 := by
    refine Nat.le_trans (dg_len (by decide) ((dg M64 (U.val a)).length + (dg M64 (U.val b)).length) _ ?_) (by omega)
    have h1 := ofL_lt (B := M64) (by decide) dX
    have h2 := ofL_lt (B := M64) (by decide) dY
    rw [ofL_dg (by decide)] at h1 h2
    rw [Nat.pow_add]
    exact Nat.mul_lt_mul'' h1 h2
  obtain ⟨S4, p1, p2, p3⟩ := epack_run z1 r3 hl dZ
  rw [ofL_dg (by decide)] at p3
  exact ⟨S4, p1, fun k => nm_go _ _ _ _ _ _ _ _ _ _ _ _ _ _ k x3 y3 z3 p3⟩
def F99t : Gn 2 := cur 2 (pureF (E2 (· * ·) 50000))
theorem K99t : FOK Tryz.prog 99 (un 2 F99t) := E2_ok K99 fun a b ha hb la lb => by
  obtain ⟨S', _, z⟩ := nmul_run ha hb la lb mkS_run
  exact ⟨S', z⟩
open Classical in
/-- a function of two strings of numbers under a condition, as a pure text -/
def E2p (op : Nat → Nat → Nat) (m : Nat) (C : Nat → Nat → Prop) : List V → Option V
  | [.s a, .s b] => if (∃ p, a = strN p) ∧ (∃ q, b = strN q) ∧ a.length ≤ m ∧ b.length ≤ m ∧ C (U.val a) (U.val b) then some (.s (strN (op (U.val a) (U.val b)))) else none
  | _ => none
theorem E2p_ok {P : Program} {f : FuncId} {F : Gn 2} (hF : FOK P f (un 2 F)) {op : Nat → Nat → Nat} {m : Nat} {C : Nat → Nat → Prop} (h : ∀ p q, (strN p).length ≤ m → (strN q).length ≤ m → C p q → ∃ S', ∀ k, F (.s (strN p)) (.s (strN q)) (mkS []) k = k (.s (strN (op p q))) S') : FOK P f (un 2 (cur 2 (pureF (E2p op m C)))) :=
  cur_ok 2 (pure_ok hF (E2p op m C) fun vs v hv => by
    unfold E2p at hv
    split at hv
    · split at hv
      · rename_i a b hc
        obtain ⟨⟨p, rfl⟩, ⟨q, rfl⟩, l1, l2, l3⟩ := hc
        cases hv
        rw [val_strN, val_strN] at l3
        obtain ⟨S', z⟩ := h p q l1 l2 l3
        rw [val_strN, val_strN]
        exact ⟨by rfl, by rfl, S', by rw [un2p]; exact z _⟩
      · cases hv
    · cases hv)
theorem E2p_eq {op : Nat → Nat → Nat} {m a b : Nat} {C : Nat → Nat → Prop} (ha : (strN a).length ≤ m) (hb : (strN b).length ≤ m) (hC : C a b) (S : St) (k : Cont) : cur 2 (pureF (E2p op m C)) (.s (strN a)) (.s (strN b)) S k = k (.s (strN (op a b))) S := by
  have e : E2p op m C [.s (strN a), .s (strN b)] = some (.s (strN (op a b))) := by
    unfold E2p
    simp only []
    rw [if_pos ⟨⟨a, rfl⟩, ⟨b, rfl⟩, ha, hb, by rw [val_strN, val_strN]; exact hC⟩, val_strN, val_strN]
  show pureF (E2p op m C) [.s (strN a), .s (strN b)] S k = _
  simp only [pureF, e]
def F98t : Gn 2 := cur 2 (pureF (E2p (· - ·) 50000 (fun a b => b ≤ a)))
theorem strN_by (n : Nat) : By (strN n) := strN_lt n
theorem K98t : FOK Tryz.prog 98 (un 2 F98t) := E2p_ok K98 fun p q la lb h => by
  obtain ⟨S', _, z⟩ := nsub_run (strN_by p) (strN_by q) la lb (by rw [val_strN, val_strN]; exact h) mkS_run
  rw [val_strN, val_strN] at z
  exact ⟨S', z⟩
/- NatCmp is the reference's Compare -/
theorem F97_eq : F97 = F103 := by rfl
theorem ncmp_run {m n : Nat} (hm : (strN m).length ≤ 900000) (hn : (strN n).length ≤ 900000) (S : St) (k : Cont) : F97 (.s (strN m)) (.s (strN n)) S k = k (cmpV m n) S := by rw [F97_eq]; exact cmp_run hm hn S k
/- NatOf -/
theorem no_go (f139 : Gn 1) (v0 a r : V) (S S1 S2 : St) (k : Cont) (h1 : ∀ c : Cont, pBsl [uu 0] 1 [(0, 1, v0)] S c = c a S1) (h2 : ∀ c, f139 a S1 c = c r S2) : G100 (C100 f139) v0 S k = k r S2 := by
  simp only [G100, C100, cSeq, cReg, cRet, h1, h2]
theorem nof_run {u : Nat} (hu : u < M64) (r : Run S0 S) : ∃ S', Run S0 S' ∧ (∀ q ds, Own S0 S q ds → Own S0 S' q ds) ∧ ∀ k, F100 (uu u) S k = k (.s (strN u)) S' := by
  have hw : Wd S0 (S.new [uu u]) S.nx 1 [u] := ⟨[], rfl, by decide, Own.new r [uu u]⟩
  obtain ⟨S4, p1, p2, p3⟩ := epack_run hw (r.new _) (by simp) (fun z hz => by rw [List.mem_singleton.1 hz]; exact hu)
  rw [show ofL M64 [u] = u by simp [ofL]] at p3
  exact ⟨S4, p1, fun q ds h => p2 q ds (h.keep r [uu u]).1, fun k => no_go _ _ _ _ _ _ _ k (fun c => kbsl_eq (kd := .u64) 0 u S c) p3⟩
def F100t : Gn 1 := cur 1 (pureF E61)
theorem K100t : FOK Tryz.prog 100 (un 1 F100t) := cur_ok 1 (pure_ok K100 E61 fun vs v h => by
  unfold E61 at h
  split at h
  · split at h
    · rename_i u hu
      cases h
      obtain ⟨S', _, _, z⟩ := nof_run (S0 := mkS []) (S := mkS []) hu mkS_run
      exact ⟨by rfl, by rfl, S', by rw [un1p]; exact z _⟩
    · cases h
  · cases h)
theorem nof_eq {u : Nat} (hu : u < 18446744073709551616) (S : St) (k : Cont) : F100t (uu u) S k = k (.s (strN u)) S := F61t_eq hu S k
end
end Go.AM

/- exact.NatPow: a pure text on strings. -/
namespace Go.AM
open Go.Proofs
open Go.AM.Q
open Go.AM.U
set_option linter.unusedVariables false
set_option linter.unusedSimpArgs false
noncomputable section
variable {S0 S : St} {out : V × St}
theorem and1_n (n : Nat) (c : V → R) : pAnd (nn n) (nn 1) c = c (nn (n % 2)) := by
  have e : pAnd (nn n) (nn 1) c = retI c .i64 (Nat.land n 1) := two_i ..
  rw [e, retI_eq]
  congr 2
  exact Nat.and_one_is_mod n
theorem shr1_n {n : Nat} (hn : n < 9223372036854775808) (c : V → R) : pShr (nn n) (uu 1) c = c (nn (n / 2)) := by
  have e : pShr (nn n) (uu 1) c = retI c .i64 (shrI .i64 n 1) := by rfl
  rw [e, retI_eq]
  unfold shrI
  rw [neg_n hn]; rfl
def B101 (f141 : Gn 2) : CS 7 := (cSeq (cSeq (cReg fun kn v0 v1 v2 v3 v4 v5 v6 S => pGtr v1 (.i .i64 0) (fun a0 => kn v0 v1 a0 v3 v4 v5 v6 S)) (cCond (fun x y v0 v1 v2 v3 v4 v5 v6 S => pIf v2 (x v0 v1 v2 v3 v4 v5 v6 S) (y v0 v1 v2 v3 v4 v5 v6 S)) cSkip (cExit 0))) (cSeq (cBlock 1 (cSeq (cSeq (cReg fun kn v0 v1 v2 v3 v4 v5 v6 S => pAnd v1 (.i .i64 1) (fun a0 => pEql a0 (.i .i64 1) (fun a1 => kn v0 v1 v2 a1 v4 v5 v6 S))) (cCond (fun x y v0 v1 v2 v3 v4 v5 v6 S => pIf v3 (x v0 v1 v2 v3 v4 v5 v6 S) (y v0 v1 v2 v3 v4 v5 v6 S)) (cReg fun kn v0 v1 v2 v3 v4 v5 v6 S => f141 v4 v5 S (fun a0 S => kn v0 v1 v2 v3 a0 v5 v6 S)) cSkip)) (cReg fun kn v0 v1 v2 v3 v4 v5 v6 S => f141 v5 v5 S (fun a0 S => kn v0 v1 v2 v3 v4 a0 v6 S)))) (cReg fun kn v0 v1 v2 v3 v4 v5 v6 S => pShr v1 (.i .u64 1) (fun a0 => kn v0 a0 v2 v3 v4 v5 v6 S))))
def HT101 (f137 f139 : Gn 1) (I0 : CS 7) : CS 7 := (cSeq (cReg fun kn v0 v1 v2 v3 v4 v5 v6 S => kn v0 v1 v2 v3 v4 v5 (.s []) S) (cSeq (cReg fun kn v0 v1 v2 v3 v4 v5 v6 S => pBsl [(.i .u64 0)] 1 [(0, 1, (.i .u64 1))] S (fun a0 S => f137 v0 S (fun a1 S => kn v0 v1 v2 v3 a0 a1 v6 S))) (cSeq I0 (cSeq (cReg fun kn v0 v1 v2 v3 v4 v5 v6 S => f139 v4 S (fun a0 S => kn v0 v1 v2 v3 v4 v5 a0 S)) cRet))))
theorem C101_eq (f137 f139 : Gn 1) (f141 : Gn 2) : C101 f137 f139 f141 = HT101 f137 f139 (cBlock 0 (cLoop (B101 f141))) := by rfl
section
variable (f137 f139 : Gn 1) (f141 : Gn 2) (K : Fn 7) (kx : Nat → Fn 7) (kr : Fn 7) (v0 v1 v2 v3 v4 v5 v6 a b x y n' r w1 w2 w3 w4 w5 : V) (S S1 S2 S3 S4 : St)
theorem np_end (h1 : ∀ c, pGtr v1 (nn 0) c = c (.b false)) : B101 f141 K kx kr v0 v1 v2 v3 v4 v5 v6 S = kx 0 v0 v1 (.b false) v3 v4 v5 v6 S := by
  simp only [B101, cSeq, cReg, cCond, cBlock, cSkip, cExit, cRet, h1, ifF]
theorem np_odd (h1 : ∀ c, pGtr v1 (nn 0) c = c (.b true)) (h2 : ∀ c, pAnd v1 (nn 1) c = c a) (h3 : ∀ c, pEql a (nn 1) c = c (.b true)) (h4 : ∀ c, f141 v4 v5 S c = c x S1) (h5 : ∀ c, f141 v5 v5 S1 c = c y S2) (h6 : ∀ c, pShr v1 (uu 1) c = c n') : B101 f141 K kx kr v0 v1 v2 v3 v4 v5 v6 S = K v0 n' (.b true) (.b true) x y v6 S2 := by
  simp only [B101, cSeq, cReg, cCond, cBlock, cSkip, cExit, cRet, h1, h2, h3, h4, h5, h6, ifT]
theorem np_even (h1 : ∀ c, pGtr v1 (nn 0) c = c (.b true)) (h2 : ∀ c, pAnd v1 (nn 1) c = c a) (h3 : ∀ c, pEql a (nn 1) c = c (.b false)) (h5 : ∀ c, f141 v5 v5 S c = c y S2) (h6 : ∀ c, pShr v1 (uu 1) c = c n') : B101 f141 K kx kr v0 v1 v2 v3 v4 v5 v6 S = K v0 n' (.b true) (.b false) v4 y v6 S2 := by
  simp only [B101, cSeq, cReg, cCond, cBlock, cSkip, cExit, cRet, h1, h2, h3, h5, h6, ifT, ifF]
theorem np_head (I0 : CS 7) (h1 : ∀ c : Cont, pBsl [uu 0] 1 [(0, 1, uu 1)] S c = c a S1) (h2 : ∀ c, f137 v0 S1 c = c b S2) (hL : ∀ (kn : Fn 7) (kx : Nat → Fn 7) (kr : Fn 7), I0 kn kx kr v0 v1 v2 v3 a b (.s []) S2 = kn v0 w1 w2 w3 w4 w5 (.s []) S3) (h3 : ∀ c, f139 w4 S3 c = c r S4) :
    HT101 f137 f139 I0 K kx kr v0 v1 v2 v3 v4 v5 v6 S = kr v0 w1 w2 w3 w4 w5 r S4 := by
  simp only [HT101, cSeq, cReg, cCond, cBlock, cSkip, cExit, cRet, h1, h2, hL, h3]
end
theorem pw_mul_lt {a b w u : Nat} (ha : a < M64 ^ w) (hb : b < M64 ^ u) : a * b < M64 ^ (w + u) := by
  rw [Nat.pow_add]
  exact Nat.mul_lt_mul'' ha hb
theorem dg_le {a w : Nat} (h : a < M64 ^ w) : (dg M64 a).length ≤ w := dg_len (by decide) w a h
theorem np_loop : ∀ (N k A B w u : Nat) (i4 i5 : Pos) (m4 m5 : Nat) (v2 v3 : V) (S : St), k < N → k < 1000000 → B < M64 ^ w → A < M64 ^ u → u + w * (2 * k) ≤ 50000 → Run S0 S → Wd S0 S i4 m4 (dg M64 A) → Wd S0 S i5 m5 (dg M64 B) →
    ∃ S' j4 n4 w3 w5, Run S0 S' ∧ Wd S0 S' j4 n4 (dg M64 (A * B ^ k)) ∧ (∃ e, e ≤ 50000 ∧ A * B ^ k < M64 ^ e) ∧
      ∀ (kx : Nat → Fn 7) (kr : Fn 7) (v0 v6 : V), loopN (B101 F141) kx kr N v0 (nn k) v2 v3 (.sl i4 0 (dg M64 A).length m4) (.sl i5 0 (dg M64 B).length m5) v6 S = kx 0 v0 (nn 0) (.b false) w3 (.sl j4 0 (dg M64 (A * B ^ k)).length n4) w5 v6 S'
  | 0, k, A, B, w, u, i4, i5, m4, m5, v2, v3, S, h1, h2, hB, hA, hb, r, d4, d5 => by omega
  | N + 1, 0, A, B, w, u, i4, i5, m4, m5, v2, v3, S, h1, h2, hB, hA, hb, r, d4, d5 => by
    rw [Nat.pow_zero, Nat.mul_one]
    refine ⟨S, i4, m4, v3, .sl i5 0 (dg M64 B).length m5, r, d4, ⟨u, by omega, hA⟩, fun kx kr v0 v6 => ?_⟩
    rw [loopN_succ, np_end (h1 := fun c => by rw [gtr_n (by omega) (by omega)]; rfl)]
  | N + 1, k + 1, A, B, w, u, i4, i5, m4, m5, v2, v3, S, h1, h2, hB, hA, hb, r, d4, d5 => by
    have hw : w * (2 * (k + 1)) = w * (2 * k) + (w + w) := by rw [show 2 * (k + 1) = 2 * k + 2 by omega, Nat.mul_add]; omega
    have lB := dg_le hB
    have lA := dg_le hA
    have bB : ∀ z ∈ dg M64 B, z < M64 := dg_lt (by decide) _
    have bA : ∀ z ∈ dg M64 A, z < M64 := dg_lt (by decide) _
    have hBB := pw_mul_lt hB hB
    have hdiv : (k + 1) / 2 ≤ k := by omega
    have hww : (w + w) * (2 * ((k + 1) / 2)) ≤ w * (2 * (k + 1)) := by
      rw [← Nat.two_mul, Nat.mul_comm 2 w, Nat.mul_assoc]
      exact Nat.mul_le_mul_left _ (by omega)
    have g1 : ∀ c, pGtr (nn (k + 1)) (nn 0) c = c (.b true) := fun c => by rw [gtr_n (by omega) (by omega), decide_eq_true (by omega)]
    have g2 : ∀ c, pAnd (nn (k + 1)) (nn 1) c = c (nn ((k + 1) % 2)) := fun c => and1_n _ c
    have g6 : ∀ c, pShr (nn (k + 1)) (uu 1) c = c (nn ((k + 1) / 2)) := fun c => shr1_n (by omega) c
    by_cases hodd : (k + 1) % 2 = 1
    · have hww2 : (w + w) * (2 * ((k + 1) / 2)) + (w + w) = w * (2 * (k + 1)) := by
        rw [show 2 * ((k + 1) / 2) = k by omega, hw, Nat.add_mul, ← Nat.mul_assoc w 2 k, Nat.mul_comm w 2, Nat.mul_assoc]; omega
      obtain ⟨S1, ia, ma, r1, p1, p2, p3⟩ := mulw_run d4 d5 bA bB (by omega) (by omega) r
      have d5' := d5.keep fun q ds h => (p2 q ds h).1
      obtain ⟨S2, ib, mb, r2, q1, q2, q3⟩ := mulw_run d5' d5' bB bB (by omega) (by omega) r1
      rw [ofL_dg (by decide), ofL_dg (by decide)] at p1 p3
      rw [ofL_dg (by decide)] at q1 q3
      have p1' := p1.keep fun q ds h => (q2 q ds h).1
      obtain ⟨S', j4, n4, w3, w5, z1, z2, z3, z4⟩ := np_loop N ((k + 1) / 2) (A * B) (B * B) (w + w) (u + w) ia ib ma mb (.b true) (.b true) S2 (by omega) (by omega) hBB (pw_mul_lt hA hB) (by omega) r2 p1' q1
      have e : A * B * (B * B) ^ ((k + 1) / 2) = A * B ^ (k + 1) := by
        have e : k + 1 = 2 * ((k + 1) / 2) + 1 := by omega
        conv => rhs; rw [e, Nat.pow_succ, Nat.pow_mul, Nat.pow_two]
        rw [Nat.mul_assoc, Nat.mul_comm B]
      rw [e] at z2 z3 z4
      refine ⟨S', j4, n4, w3, w5, z1, z2, z3, fun kx kr v0 v6 => ?_⟩
      rw [loopN_succ, np_odd (h1 := g1) (h2 := g2) (h3 := fun c => by rw [eql_n, decide_eq_true hodd]) (h4 := p3) (h5 := q3) (h6 := g6)]
      exact z4 kx kr v0 v6
    · obtain ⟨S2, ib, mb, r2, q1, q2, q3⟩ := mulw_run d5 d5 bB bB (by omega) (by omega) r
      rw [ofL_dg (by decide)] at q1 q3
      have d4' := d4.keep fun q ds h => (q2 q ds h).1
      obtain ⟨S', j4, n4, w3, w5, z1, z2, z3, z4⟩ := np_loop N ((k + 1) / 2) A (B * B) (w + w) u i4 ib m4 mb (.b true) (.b false) S2 (by omega) (by omega) hBB hA (by omega) r2 d4' q1
      have e : A * (B * B) ^ ((k + 1) / 2) = A * B ^ (k + 1) := by
        have e : k + 1 = 2 * ((k + 1) / 2) := by omega
        conv => rhs; rw [e, Nat.pow_mul, Nat.pow_two]
      rw [e] at z2 z3 z4
      refine ⟨S', j4, n4, w3, w5, z1, z2, z3, fun kx kr v0 v6 => ?_⟩
      rw [loopN_succ, np_even (h1 := g1) (h2 := g2) (h3 := fun c => by rw [eql_n, decide_eq_false hodd]) (h5 := q3) (h6 := g6)]
      exact z4 kx kr v0 v6
theorem npow_run {b : List Nat} {k w : Nat} (hb : By b) (hl : b.length ≤ 40000) (hw : U.val b < M64 ^ w) (hk : k < 1000000) (hs : 1 + w * (2 * k) ≤ 50000) (r : Run S0 S) : ∃ S', Run S0 S' ∧ ∀ c, F101 (.s b) (nn k) S c = c (.s (strN (U.val b ^ k))) S' := by
  have r0 := r.new [uu 1]
  have h1 : Wd S0 (S.new [uu 1]) S.nx 1 (dg M64 1) := ⟨[], rfl, by decide, Own.new r [uu 1]⟩
  obtain ⟨S2, ix, mx, r2, x1, x2, x3⟩ := words_run hb (by omega) r0
  have h1' := h1.keep fun q ds h => (x2 q ds h).1
  obtain ⟨S3, j4, n4, w3, w5, z1, z2, z3, z4⟩ := np_loop 1000000 k 1 (U.val b) w 1 S.nx ix 1 mx .other .other S2 hk hk hw (by decide) hs r2 h1' x1
  rw [Nat.one_mul] at z2 z3 z4
  have dZ : ∀ z ∈ dg M64 (U.val b ^ k), z < M64 := dg_lt (by decide) _
  obtain ⟨S4, p1, p2, p3⟩ := epack_run z2 z1 (by obtain ⟨e, e1, e2⟩ := z3; exact Nat.le_trans (dg_le e2) (by omega)) dZ
  rw [ofL_dg (by decide)] at p3
  refine ⟨S4, p1, fun c => ?_⟩
  unfold F101 G101
  rw [C101_eq, np_head (a := .sl S.nx 0 1 1) (b := .sl ix 0 (dg M64 (U.val b)).length mx) (w1 := nn 0) (w2 := .b false) (w3 := w3) (w4 := .sl j4 0 (dg M64 (U.val b ^ k)).length n4) (w5 := w5) (S3 := S3) (h1 := fun c => kbsl_eq (kd := .u64) 0 1 S c) (h2 := x3) (hL := fun kn kx kr => ?_) (h3 := p3)]
  obtain ⟨kx', e1, e2⟩ := block_loop_at 0 (B101 F141) kn kx kr
  rw [e2]
  refine (z4 kx' kr _ _).trans ?_
  rw [e1]
open Classical in
def E101 : List V → Option V
  | [.s a, .i .i64 k] => if (∃ p, a = strN p) ∧ a.length ≤ 16 ∧ k < 1000 then some (.s (strN (U.val a ^ k))) else none
  | _ => none
def F101t : Gn 2 := cur 2 (pureF E101)
theorem K101t : FOK Tryz.prog 101 (un 2 F101t) := cur_ok 2 (pure_ok K101 E101 fun vs v hv => by
  unfold E101 at hv
  split at hv
  · split at hv
    · rename_i a k hc
      obtain ⟨⟨p, rfl⟩, l1, l2⟩ := hc
      cases hv
      have hp : U.val (strN p) < M64 ^ 2 := by
        rw [val_strN, show M64 ^ 2 = 256 ^ 16 by decide]
        exact Nat.lt_of_lt_of_le (strN_up p) (Nat.pow_le_pow_right (by decide) l1)
      obtain ⟨S', _, z⟩ := npow_run (strN_by p) (by omega) hp (show k < 1000000 by omega) (by omega) mkS_run
      exact ⟨by rfl, by rfl, S', by rw [un2p]; exact z _⟩
    · cases hv
  · cases hv)
theorem npow_eq {a k : Nat} (ha : (strN a).length ≤ 16) (hk : k < 1000) (S : St) (c : Cont) : F101t (.s (strN a)) (nn k) S c = c (.s (strN (a ^ k))) S := by
  have e : E101 [.s (strN a), nn k] = some (.s (strN (a ^ k))) := by
    unfold E101
    simp only []
    rw [if_pos ⟨⟨a, rfl⟩, ha, hk⟩, val_strN]
  show pureF E101 [.s (strN a), nn k] S c = _
  simp only [pureF, e]
end
end Go.AM

/- exact.compareWords, bits.Div64 by a small divisor, exact.divide by one small word, NatDivMod. -/
namespace Go.AM
open Go.Proofs
open Go.AM.Q
open Go.AM.U
set_option linter.unusedVariables false
set_option linter.unusedSimpArgs false
noncomputable section
variable {S0 S : St} {out : V × St}
/- compareWords -/
def B170 : CS 9 := (cSeq (cSeq (cReg fun kn v0 v1 v2 v3 v4 v5 v6 v7 v8 S => pGeq v4 (.i .i64 0) (fun a0 => kn v0 v1 v2 v3 v4 a0 v6 v7 v8 S)) (cCond (fun x y v0 v1 v2 v3 v4 v5 v6 v7 v8 S => pIf v5 (x v0 v1 v2 v3 v4 v5 v6 v7 v8 S) (y v0 v1 v2 v3 v4 v5 v6 v7 v8 S)) cSkip (cExit 0))) (cSeq (cBlock 1 (cSeq (cReg fun kn v0 v1 v2 v3 v4 v5 v6 v7 v8 S => pIdx 1 v0 v4 (fun a0 => pLd a0 S (fun a1 => pIdx 1 v1 v4 (fun a2 => pLd a2 S (fun a3 => pNeq a1 a3 (fun a4 => kn v0 v1 v2 v3 v4 v5 a4 v7 v8 S)))))) (cCond (fun x y v0 v1 v2 v3 v4 v5 v6 v7 v8 S => pIf v6 (x v0 v1 v2 v3 v4 v5 v6 v7 v8 S) (y v0 v1 v2 v3 v4 v5 v6 v7 v8 S)) (cSeq (cSeq (cReg fun kn v0 v1 v2 v3 v4 v5 v6 v7 v8 S => pIdx 1 v0 v4 (fun a0 => pLd a0 S (fun a1 => pIdx 1 v1 v4 (fun a2 => pLd a2 S (fun a3 => pLss a1 a3 (fun a4 => kn v0 v1 v2 v3 v4 v5 v6 a4 v8 S)))))) (cCond (fun x y v0 v1 v2 v3 v4 v5 v6 v7 v8 S => pIf v7 (x v0 v1 v2 v3 v4 v5 v6 v7 v8 S) (y v0 v1 v2 v3 v4 v5 v6 v7 v8 S)) (cSeq (cReg fun kn v0 v1 v2 v3 v4 v5 v6 v7 v8 S => kn v0 v1 v2 v3 v4 v5 v6 v7 (.i .i64 18446744073709551615) S) cRet) cSkip)) (cSeq (cReg fun kn v0 v1 v2 v3 v4 v5 v6 v7 v8 S => kn v0 v1 v2 v3 v4 v5 v6 v7 (.i .i64 1) S) cRet)) cSkip))) (cReg fun kn v0 v1 v2 v3 v4 v5 v6 v7 v8 S => pSub v4 (.i .i64 1) (fun a0 => kn v0 v1 v2 v3 a0 v5 v6 v7 v8 S))))
def HT170 (I0 : CS 9) : CS 9 := (cSeq (cReg fun kn v0 v1 v2 v3 v4 v5 v6 v7 v8 S => kn v0 v1 v2 v3 v4 v5 v6 v7 (.i .i64 0) S) (cSeq (cSeq (cReg fun kn v0 v1 v2 v3 v4 v5 v6 v7 v8 S => pLen v0 (fun a0 => pLen v1 (fun a1 => pNeq a0 a1 (fun a2 => kn v0 v1 a2 v3 v4 v5 v6 v7 v8 S)))) (cCond (fun x y v0 v1 v2 v3 v4 v5 v6 v7 v8 S => pIf v2 (x v0 v1 v2 v3 v4 v5 v6 v7 v8 S) (y v0 v1 v2 v3 v4 v5 v6 v7 v8 S)) (cSeq (cSeq (cReg fun kn v0 v1 v2 v3 v4 v5 v6 v7 v8 S => pLen v0 (fun a0 => pLen v1 (fun a1 => pLss a0 a1 (fun a2 => kn v0 v1 v2 a2 v4 v5 v6 v7 v8 S)))) (cCond (fun x y v0 v1 v2 v3 v4 v5 v6 v7 v8 S => pIf v3 (x v0 v1 v2 v3 v4 v5 v6 v7 v8 S) (y v0 v1 v2 v3 v4 v5 v6 v7 v8 S)) (cSeq (cReg fun kn v0 v1 v2 v3 v4 v5 v6 v7 v8 S => kn v0 v1 v2 v3 v4 v5 v6 v7 (.i .i64 18446744073709551615) S) cRet) cSkip)) (cSeq (cReg fun kn v0 v1 v2 v3 v4 v5 v6 v7 v8 S => kn v0 v1 v2 v3 v4 v5 v6 v7 (.i .i64 1) S) cRet)) cSkip)) (cSeq (cSeq (cReg fun kn v0 v1 v2 v3 v4 v5 v6 v7 v8 S => pLen v0 (fun a0 => pSub a0 (.i .i64 1) (fun a1 => kn v0 v1 v2 v3 a1 v5 v6 v7 v8 S))) I0) (cSeq (cReg fun kn v0 v1 v2 v3 v4 v5 v6 v7 v8 S => kn v0 v1 v2 v3 v4 v5 v6 v7 (.i .i64 0) S) cRet))))
theorem C170_eq : C170 = HT170 (cBlock 0 (cLoop B170)) := by rfl
section
variable (K : Fn 9) (kx : Nat → Fn 9) (kr : Fn 9) (v0 v1 v2 v3 v4 v5 v6 v7 v8 a b d q q' x y r n' w3 w4 w5 w6 w7 : V) (S : St)
theorem bw_end (h1 : ∀ c, pGeq v4 (nn 0) c = c (.b false)) : B170 K kx kr v0 v1 v2 v3 v4 v5 v6 v7 v8 S = kx 0 v0 v1 v2 v3 v4 (.b false) v6 v7 v8 S := by
  simp only [B170, cSeq, cReg, cCond, cBlock, cSkip, cExit, cRet, h1, ifF]
theorem bw_lt (h1 : ∀ c, pGeq v4 (nn 0) c = c (.b true)) (h2 : ∀ c, pIdx 1 v0 v4 c = c q) (h3 : ∀ c, pLd q S c = c x) (h4 : ∀ c, pIdx 1 v1 v4 c = c q') (h5 : ∀ c, pLd q' S c = c y) (h6 : ∀ c, pNeq x y c = c (.b true)) (h7 : ∀ c, pLss x y c = c (.b true)) : B170 K kx kr v0 v1 v2 v3 v4 v5 v6 v7 v8 S = kr v0 v1 v2 v3 v4 (.b true) (.b true) (.b true) (nn 18446744073709551615) S := by
  simp only [B170, cSeq, cReg, cCond, cBlock, cSkip, cExit, cRet, h1, h2, h3, h4, h5, h6, h7, ifT]
theorem bw_gt (h1 : ∀ c, pGeq v4 (nn 0) c = c (.b true)) (h2 : ∀ c, pIdx 1 v0 v4 c = c q) (h3 : ∀ c, pLd q S c = c x) (h4 : ∀ c, pIdx 1 v1 v4 c = c q') (h5 : ∀ c, pLd q' S c = c y) (h6 : ∀ c, pNeq x y c = c (.b true)) (h7 : ∀ c, pLss x y c = c (.b false)) : B170 K kx kr v0 v1 v2 v3 v4 v5 v6 v7 v8 S = kr v0 v1 v2 v3 v4 (.b true) (.b true) (.b false) (nn 1) S := by
  simp only [B170, cSeq, cReg, cCond, cBlock, cSkip, cExit, cRet, h1, h2, h3, h4, h5, h6, h7, ifT, ifF]
theorem bw_eq (h1 : ∀ c, pGeq v4 (nn 0) c = c (.b true)) (h2 : ∀ c, pIdx 1 v0 v4 c = c q) (h3 : ∀ c, pLd q S c = c x) (h4 : ∀ c, pIdx 1 v1 v4 c = c q') (h5 : ∀ c, pLd q' S c = c y) (h6 : ∀ c, pNeq x y c = c (.b false)) (h8 : ∀ c, pSub v4 (nn 1) c = c n') : B170 K kx kr v0 v1 v2 v3 v4 v5 v6 v7 v8 S = K v0 v1 v2 v3 n' (.b true) (.b false) v7 v8 S := by
  simp only [B170, cSeq, cReg, cCond, cBlock, cSkip, cExit, cRet, h1, h2, h3, h4, h5, h6, h8, ifT, ifF]
theorem bw_short (I0 : CS 9) (h2 : ∀ c, pLen v0 c = c a) (h3 : ∀ c, pLen v1 c = c b) (h4 : ∀ c, pNeq a b c = c (.b true)) (h5 : ∀ c, pLss a b c = c (.b true)) : HT170 I0 K kx kr v0 v1 v2 v3 v4 v5 v6 v7 v8 S = kr v0 v1 (.b true) (.b true) v4 v5 v6 v7 (nn 18446744073709551615) S := by
  simp only [HT170, cSeq, cReg, cCond, cBlock, cSkip, cExit, cRet, h2, h3, h4, h5, ifT]
theorem bw_long (I0 : CS 9) (h2 : ∀ c, pLen v0 c = c a) (h3 : ∀ c, pLen v1 c = c b) (h4 : ∀ c, pNeq a b c = c (.b true)) (h5 : ∀ c, pLss a b c = c (.b false)) : HT170 I0 K kx kr v0 v1 v2 v3 v4 v5 v6 v7 v8 S = kr v0 v1 (.b true) (.b false) v4 v5 v6 v7 (nn 1) S := by
  simp only [HT170, cSeq, cReg, cCond, cBlock, cSkip, cExit, cRet, h2, h3, h4, h5, ifT, ifF]
theorem bw_headE (I0 : CS 9) (h2 : ∀ c, pLen v0 c = c a) (h3 : ∀ c, pLen v1 c = c b) (h4 : ∀ c, pNeq a b c = c (.b false)) (h5 : ∀ c, pSub a (nn 1) c = c n')
    (hL : ∀ (kn : Fn 9) (kx : Nat → Fn 9) (kr : Fn 9), I0 kn kx kr v0 v1 (.b false) v3 n' v5 v6 v7 (nn 0) S = kn v0 v1 (.b false) v3 w4 w5 w6 w7 (nn 0) S) : HT170 I0 K kx kr v0 v1 v2 v3 v4 v5 v6 v7 v8 S = kr v0 v1 (.b false) v3 w4 w5 w6 w7 (nn 0) S := by
  simp only [HT170, cSeq, cReg, cCond, cBlock, cSkip, cExit, cRet, h2, h3, h4, h5, hL, ifF]
theorem bw_headN (I0 : CS 9) (h2 : ∀ c, pLen v0 c = c a) (h3 : ∀ c, pLen v1 c = c b) (h4 : ∀ c, pNeq a b c = c (.b false)) (h5 : ∀ c, pSub a (nn 1) c = c n')
    (hL : ∀ (kn : Fn 9) (kx : Nat → Fn 9) (kr : Fn 9), I0 kn kx kr v0 v1 (.b false) v3 n' v5 v6 v7 (nn 0) S = kr v0 v1 (.b false) v3 w4 w5 w6 w7 r S) : HT170 I0 K kx kr v0 v1 v2 v3 v4 v5 v6 v7 v8 S = kr v0 v1 (.b false) v3 w4 w5 w6 w7 r S := by
  simp only [HT170, cSeq, cReg, cCond, cBlock, cSkip, cExit, cRet, h2, h3, h4, h5, hL, ifF]
end
theorem ofL_inj {B : Nat} (hB : 0 < B) : ∀ (a b : List Nat), a.length = b.length → (∀ z ∈ a, z < B) → (∀ z ∈ b, z < B) → ofL B a = ofL B b → a = b := fun a => by
  induction a with
  | nil =>
    intro b h _ _ _
    exact (List.length_eq_zero_iff.1 h.symm).symm
  | cons p a ih =>
    intro b h h3 h4 h5
    match b, h with
    | r :: b, h =>
      have p1 := h3 p (List.mem_cons_self ..)
      have p2 := h4 r (List.mem_cons_self ..)
      have h5 : p + B * ofL B a = r + B * ofL B b := h5
      have m1 : (p + B * ofL B a) % B = p := by rw [Nat.add_mul_mod_self_left, Nat.mod_eq_of_lt p1]
      have m2 : (r + B * ofL B b) % B = r := by rw [Nat.add_mul_mod_self_left, Nat.mod_eq_of_lt p2]
      have e1 : p = r := by rw [← m1, ← m2, h5]
      subst e1
      have e2 : ofL B a = ofL B b := Nat.eq_of_mul_eq_mul_left hB (by omega)
      rw [ih b (by simpa using h) (fun z hz => h3 z (List.mem_cons_of_mem _ hz)) (fun z hz => h4 z (List.mem_cons_of_mem _ hz)) e2]
theorem bw_loop {va vy : V} {x y : List Nat} (hx : KRow .u64 S va x) (hy : KRow .u64 S vy y) (bx : ∀ z ∈ x, z < M64) (by' : ∀ z ∈ y, z < M64) (hl : x.length = y.length) (lx : x.length ≤ 100000) : ∀ (N j : Nat) (v5 v6 : V), j ≤ x.length → j < N → ofL M64 (x.drop j) = ofL M64 (y.drop j) →
    (ofL M64 x = ofL M64 y ∧ ∃ w6, ∀ (kx : Nat → Fn 9) (kr : Fn 9) (v2 v3 v7 v8 : V), loopN B170 kx kr N va vy v2 v3 (vk j) v5 v6 v7 v8 S = kx 0 va vy v2 v3 (nn (M64 - 1)) (.b false) w6 v7 v8 S) ∨
    (ofL M64 x ≠ ofL M64 y ∧ ∃ w4 w7, ∀ (kx : Nat → Fn 9) (kr : Fn 9) (v2 v3 v7 v8 : V), loopN B170 kx kr N va vy v2 v3 (vk j) v5 v6 v7 v8 S = kr va vy v2 v3 w4 (.b true) (.b true) w7 (cmpV (ofL M64 x) (ofL M64 y)) S)
  | 0, j, v5, v6, h1, h2, he => by omega
  | N + 1, 0, v5, v6, h1, h2, he => by
    rw [List.drop_zero, List.drop_zero] at he
    refine .inl ⟨he, v6, fun kx kr v2 v3 v7 v8 => ?_⟩
    have e0 : vk 0 = nn (M64 - 1) := rfl
    rw [loopN_succ, e0, bw_end (v4 := nn (M64 - 1)) (h1 := fun c => geq_neg (d := 1) (by omega) (by omega) c)]
  | N + 1, j + 1, v5, v6, h1, h2, he => by
    obtain ⟨q, s1, s2⟩ := hx.get (i := j) (by omega)
    obtain ⟨q', s3, s4⟩ := hy.get (i := j) (by omega)
    have eM : M64 = 18446744073709551616 := rfl
    have ev : vk (j + 1) = nn j := rfl
    have g1 : ∀ c, pGeq (nn j) (nn 0) c = c (.b true) := fun c => by rw [geq_n (by omega) (by omega), decide_eq_true (by omega)]
    have xj := getD_lt bx (by decide) j
    have yj := getD_lt by' (by decide) j
    have dx := dropG M64 x j
    have dy := dropG M64 y j
    by_cases h : x.getD j 0 = y.getD j 0
    · rcases bw_loop hx hy bx by' hl lx N j (.b true) (.b false) (by omega) (by omega) (by rw [dx, dy, h, he]) with ⟨e, w5, z⟩ | ⟨e, w4, w7, z⟩
      · refine .inl ⟨e, w5, fun kx kr v2 v3 v7 v8 => ?_⟩
        rw [loopN_succ, ev, bw_eq (v4 := nn j) (h1 := g1) (h2 := s1) (h3 := s2) (h4 := s3) (h5 := s4) (h6 := fun c => by rw [uneq, decide_eq_false (by simpa using h)]) (h8 := fun c => vk_sub j (by omega) c)]
        exact z kx kr v2 v3 v7 v8
      · refine .inr ⟨e, w4, w7, fun kx kr v2 v3 v7 v8 => ?_⟩
        rw [loopN_succ, ev, bw_eq (v4 := nn j) (h1 := g1) (h2 := s1) (h3 := s2) (h4 := s3) (h5 := s4) (h6 := fun c => by rw [uneq, decide_eq_false (by simpa using h)]) (h8 := fun c => vk_sub j (by omega) c)]
        exact z kx kr v2 v3 v7 v8
    · have hlt : ((x.getD j 0 < y.getD j 0) ↔ (ofL M64 x < ofL M64 y)) ∧ ofL M64 x ≠ ofL M64 y := by
        have ex := split_ofL M64 x j (by omega)
        have ey := split_ofL M64 y j (by omega)
        have tx := take_lt (B := M64) (by decide) bx j (by omega)
        have ty := take_lt (B := M64) (by decide) by' j (by omega)
        rw [dx] at ex; rw [dy, ← he] at ey
        rw [ex, ey]
        generalize ofL M64 (x.take j) = a at *
        generalize ofL M64 (y.take j) = b at *
        generalize ofL M64 (x.drop (j + 1)) = H at *
        generalize x.getD j 0 = p at *
        generalize y.getD j 0 = r at *
        generalize M64 ^ j = P at *
        have up : ∀ p r a b : Nat, p < r → a < P → a + P * (p + M64 * H) < b + P * (r + M64 * H) := fun p r a b hpr ha => by
          have := Nat.mul_le_mul_left P (show p + M64 * H + 1 ≤ r + M64 * H by omega)
          rw [Nat.mul_add P (p + M64 * H) 1] at this
          omega
        rcases Nat.lt_or_ge p r with h1 | h1
        · have := up p r a b h1 tx
          exact ⟨⟨fun _ => this, fun _ => h1⟩, by omega⟩
        · have := up r p b a (by omega) ty
          exact ⟨⟨fun _ => by omega, fun _ => by omega⟩, by omega⟩
      have h6 : ∀ c, pNeq (uu (x.getD j 0)) (uu (y.getD j 0)) c = c (.b true) := fun c => by rw [uneq, decide_eq_true h]
      by_cases h7 : x.getD j 0 < y.getD j 0
      · refine .inr ⟨hlt.2, nn j, .b true, fun kx kr v2 v3 v7 v8 => ?_⟩
        rw [loopN_succ, ev, bw_lt (v4 := nn j) (h1 := g1) (h2 := s1) (h3 := s2) (h4 := s3) (h5 := s4) (h6 := h6) (h7 := fun c => by rw [ulss (by omega) (by omega), decide_eq_true h7]), cmpV, if_pos (hlt.1.1 h7)]
      · refine .inr ⟨hlt.2, nn j, .b false, fun kx kr v2 v3 v7 v8 => ?_⟩
        rw [loopN_succ, ev, bw_gt (v4 := nn j) (h1 := g1) (h2 := s1) (h3 := s2) (h4 := s3) (h5 := s4) (h6 := h6) (h7 := fun c => by rw [ulss (by omega) (by omega), decide_eq_false h7]), cmpV, if_neg (fun h => h7 (hlt.1.2 h)), if_neg hlt.2]
theorem cmpw_run {vx vy : V} {X Y : Nat} (hx : KRow .u64 S vx (dg M64 X)) (hy : KRow .u64 S vy (dg M64 Y)) (lx : (dg M64 X).length ≤ 100000) (ly : (dg M64 Y).length ≤ 100000) (k : Cont) : F170 vx vy S k = k (cmpV X Y) S := by
  have bx : ∀ z ∈ dg M64 X, z < M64 := dg_lt (by decide) _
  have by' : ∀ z ∈ dg M64 Y, z < M64 := dg_lt (by decide) _
  unfold F170 G170
  by_cases h : (dg M64 X).length = (dg M64 Y).length
  · have h4 : ∀ c, pNeq (nn (dg M64 X).length) (nn (dg M64 Y).length) c = c (.b false) := fun c => by rw [nneq, decide_eq_false (by simpa using h)]
    have hd : (dg M64 X).drop (dg M64 X).length = [] := List.drop_length ..
    have hd2 : (dg M64 Y).drop (dg M64 X).length = [] := by rw [h]; exact List.drop_length ..
    rcases bw_loop hx hy bx by' h (by omega) 1000000 (dg M64 X).length .other .other (Nat.le_refl _) (by omega) (by rw [hd, hd2]) with ⟨e, w5, z⟩ | ⟨e, w4, w7, z⟩
    · rw [ofL_dg (by decide), ofL_dg (by decide)] at e
      rw [C170_eq, bw_headE (a := nn (dg M64 X).length) (b := nn (dg M64 Y).length) (n' := vk (dg M64 X).length) (w4 := nn (M64 - 1)) (w5 := .b false) (w6 := w5) (w7 := .other) (h2 := hx.len.1) (h3 := hy.len.1) (h4 := h4) (h5 := fun c => vk_sub _ (by omega) c) (hL := fun kn kx kr => ?_)]
      · rw [cmpV, if_neg (by omega), if_pos e]
      · obtain ⟨kx', e1, e2⟩ := block_loop_at 0 B170 kn kx kr
        rw [e2]
        refine (z kx' kr _ _ _ _).trans ?_
        rw [e1]
    · rw [ofL_dg (by decide), ofL_dg (by decide)] at z
      rw [C170_eq, bw_headN (a := nn (dg M64 X).length) (b := nn (dg M64 Y).length) (n' := vk (dg M64 X).length) (w4 := w4) (w5 := .b true) (w6 := .b true) (w7 := w7) (r := cmpV X Y) (h2 := hx.len.1) (h3 := hy.len.1) (h4 := h4) (h5 := fun c => vk_sub _ (by omega) c) (hL := fun kn kx kr => ?_)]
      obtain ⟨kx', e1, e2⟩ := block_loop_at 0 B170 kn kx kr
      rw [e2]
      exact z kx' kr _ _ _ _
  · have h4 : ∀ c, pNeq (nn (dg M64 X).length) (nn (dg M64 Y).length) c = c (.b true) := fun c => by rw [nneq, decide_eq_true h]
    have len : ∀ a b, (dg M64 a).length < (dg M64 b).length → a < b := fun a b => dg_mono (by decide)
    by_cases h2 : (dg M64 X).length < (dg M64 Y).length
    · rw [C170_eq, bw_short (h2 := hx.len.1) (h3 := hy.len.1) (h4 := h4) (h5 := fun c => by rw [lss_n (by omega) (by omega), decide_eq_true h2]), cmpV, if_pos (len X Y h2)]
    · have := len Y X (by omega)
      rw [C170_eq, bw_long (h2 := hx.len.1) (h3 := hy.len.1) (h4 := h4) (h5 := fun c => by rw [lss_n (by omega) (by omega), decide_eq_false h2]), cmpV, if_neg (by omega), if_neg (by omega)]
/- LeadingZeros64 of 1 .. 64 -/
def lz (y : Nat) : Nat := 63 - Nat.log2 y
def chkLz : Bool := upto0 (fun y => okR (F172 (uu (y + 1)) (mkS []) fun v S => some (v, S)) (nn (lz (y + 1)))) 64
theorem chkLz_ok : chkLz = true := by kernel_rfl
def E172 : List V → Option V
  | [.i .u64 y] => if 0 < y ∧ y ≤ 64 then some (nn (lz y)) else none
  | _ => none
def F172t : Gn 1 := cur 1 (pureF E172)
theorem K172t : FOK Tryz.prog 172 (un 1 F172t) := cur_ok 1 (pureS_ok K172 E172 fun vs v hv => by
  unfold E172 at hv
  split at hv
  · split at hv
    · rename_i y hy
      cases hv
      obtain ⟨y, rfl⟩ : ∃ z, y = z + 1 := ⟨y - 1, by omega⟩
      have := upto0_ok chkLz_ok y (by omega)
      obtain ⟨S2, e⟩ := okR_some this
      exact ⟨by rfl, by rfl, S2, by rw [un1p]; exact e⟩
    · cases hv
  · cases hv)
theorem lz_eq {y : Nat} (h0 : 0 < y) (hy : y ≤ 64) (S : St) (k : Cont) : F172t (uu y) S k = k (nn (lz y)) S := by
  have e : E172 [uu y] = some (nn (lz y)) := if_pos ⟨h0, hy⟩
  show pureF E172 [uu y] S k = _
  simp only [pureF, e]
/- Div64 -/
def BA171 : CS 23 := (cSeq (cSeq (cReg fun kn v0 v1 v2 v3 v4 v5 v6 v7 v8 v9 v10 v11 v12 v13 v14 v15 v16 v17 v18 v19 v20 v21 v22 S => pGeq v10 (.i .u64 4294967296) (fun a0 => pGd a0 false (fun c => c v10 S) S (fun a1 S => pGd a0 false (fun c => c v11 S) S (fun a2 S => pGd a0 false (fun c => pMul a1 a2 (fun v => c v S)) S (fun a3 S => pGd a0 false (fun c => c v12 S) S (fun a4 S => pGd a0 false (fun c => pMul (.i .u64 4294967296) a4 (fun v => c v S)) S (fun a5 S => pGd a0 false (fun c => c v13 S) S (fun a6 S => pGd a0 false (fun c => pAdd a5 a6 (fun v => c v S)) S (fun a7 S => pGd a0 false (fun c => pGtr a3 a7 (fun v => c v S)) S (fun a8 S => pPick a0 (.b true) a8 (fun a9 => kn v0 v1 v2 v3 v4 v5 v6 v7 v8 v9 v10 v11 v12 v13 a9 v15 v16 v17 v18 v19 v20 v21 v22 S))))))))))) (cCond (fun x y v0 v1 v2 v3 v4 v5 v6 v7 v8 v9 v10 v11 v12 v13 v14 v15 v16 v17 v18 v19 v20 v21 v22 S => pIf v14 (x v0 v1 v2 v3 v4 v5 v6 v7 v8 v9 v10 v11 v12 v13 v14 v15 v16 v17 v18 v19 v20 v21 v22 S) (y v0 v1 v2 v3 v4 v5 v6 v7 v8 v9 v10 v11 v12 v13 v14 v15 v16 v17 v18 v19 v20 v21 v22 S)) cSkip (cExit 0))) (cBlock 1 (cSeq (cReg fun kn v0 v1 v2 v3 v4 v5 v6 v7 v8 v9 v10 v11 v12 v13 v14 v15 v16 v17 v18 v19 v20 v21 v22 S => pSub v10 (.i .u64 1) (fun a0 => kn v0 v1 v2 v3 v4 v5 v6 v7 v8 v9 a0 v11 v12 v13 v14 v15 v16 v17 v18 v19 v20 v21 v22 S)) (cSeq (cReg fun kn v0 v1 v2 v3 v4 v5 v6 v7 v8 v9 v10 v11 v12 v13 v14 v15 v16 v17 v18 v19 v20 v21 v22 S => pAdd v12 v9 (fun a0 => kn v0 v1 v2 v3 v4 v5 v6 v7 v8 v9 v10 v11 a0 v13 v14 v15 v16 v17 v18 v19 v20 v21 v22 S)) (cSeq (cReg fun kn v0 v1 v2 v3 v4 v5 v6 v7 v8 v9 v10 v11 v12 v13 v14 v15 v16 v17 v18 v19 v20 v21 v22 S => pGeq v12 (.i .u64 4294967296) (fun a0 => kn v0 v1 v2 v3 v4 v5 v6 v7 v8 v9 v10 v11 v12 v13 v14 a0 v16 v17 v18 v19 v20 v21 v22 S)) (cCond (fun x y v0 v1 v2 v3 v4 v5 v6 v7 v8 v9 v10 v11 v12 v13 v14 v15 v16 v17 v18 v19 v20 v21 v22 S => pIf v15 (x v0 v1 v2 v3 v4 v5 v6 v7 v8 v9 v10 v11 v12 v13 v14 v15 v16 v17 v18 v19 v20 v21 v22 S) (y v0 v1 v2 v3 v4 v5 v6 v7 v8 v9 v10 v11 v12 v13 v14 v15 v16 v17 v18 v19 v20 v21 v22 S)) (cExit 0) cSkip))))))
def BB171 : CS 23 := (cSeq (cSeq (cReg fun kn v0 v1 v2 v3 v4 v5 v6 v7 v8 v9 v10 v11 v12 v13 v14 v15 v16 v17 v18 v19 v20 v21 v22 S => pGeq v17 (.i .u64 4294967296) (fun a0 => pGd a0 false (fun c => c v17 S) S (fun a1 S => pGd a0 false (fun c => c v11 S) S (fun a2 S => pGd a0 false (fun c => pMul a1 a2 (fun v => c v S)) S (fun a3 S => pGd a0 false (fun c => c v12 S) S (fun a4 S => pGd a0 false (fun c => pMul (.i .u64 4294967296) a4 (fun v => c v S)) S (fun a5 S => pGd a0 false (fun c => c v18 S) S (fun a6 S => pGd a0 false (fun c => pAdd a5 a6 (fun v => c v S)) S (fun a7 S => pGd a0 false (fun c => pGtr a3 a7 (fun v => c v S)) S (fun a8 S => pPick a0 (.b true) a8 (fun a9 => kn v0 v1 v2 v3 v4 v5 v6 v7 v8 v9 v10 v11 v12 v13 v14 v15 v16 v17 v18 a9 v20 v21 v22 S))))))))))) (cCond (fun x y v0 v1 v2 v3 v4 v5 v6 v7 v8 v9 v10 v11 v12 v13 v14 v15 v16 v17 v18 v19 v20 v21 v22 S => pIf v19 (x v0 v1 v2 v3 v4 v5 v6 v7 v8 v9 v10 v11 v12 v13 v14 v15 v16 v17 v18 v19 v20 v21 v22 S) (y v0 v1 v2 v3 v4 v5 v6 v7 v8 v9 v10 v11 v12 v13 v14 v15 v16 v17 v18 v19 v20 v21 v22 S)) cSkip (cExit 2))) (cBlock 3 (cSeq (cReg fun kn v0 v1 v2 v3 v4 v5 v6 v7 v8 v9 v10 v11 v12 v13 v14 v15 v16 v17 v18 v19 v20 v21 v22 S => pSub v17 (.i .u64 1) (fun a0 => kn v0 v1 v2 v3 v4 v5 v6 v7 v8 v9 v10 v11 v12 v13 v14 v15 v16 a0 v18 v19 v20 v21 v22 S)) (cSeq (cReg fun kn v0 v1 v2 v3 v4 v5 v6 v7 v8 v9 v10 v11 v12 v13 v14 v15 v16 v17 v18 v19 v20 v21 v22 S => pAdd v12 v9 (fun a0 => kn v0 v1 v2 v3 v4 v5 v6 v7 v8 v9 v10 v11 a0 v13 v14 v15 v16 v17 v18 v19 v20 v21 v22 S)) (cSeq (cReg fun kn v0 v1 v2 v3 v4 v5 v6 v7 v8 v9 v10 v11 v12 v13 v14 v15 v16 v17 v18 v19 v20 v21 v22 S => pGeq v12 (.i .u64 4294967296) (fun a0 => kn v0 v1 v2 v3 v4 v5 v6 v7 v8 v9 v10 v11 v12 v13 v14 v15 v16 v17 v18 v19 a0 v21 v22 S)) (cCond (fun x y v0 v1 v2 v3 v4 v5 v6 v7 v8 v9 v10 v11 v12 v13 v14 v15 v16 v17 v18 v19 v20 v21 v22 S => pIf v20 (x v0 v1 v2 v3 v4 v5 v6 v7 v8 v9 v10 v11 v12 v13 v14 v15 v16 v17 v18 v19 v20 v21 v22 S) (y v0 v1 v2 v3 v4 v5 v6 v7 v8 v9 v10 v11 v12 v13 v14 v15 v16 v17 v18 v19 v20 v21 v22 S)) (cExit 2) cSkip))))))
def HT171 (f172 : Gn 1) (I0 I1 : CS 23) : CS 23 := (cSeq (cReg fun kn v0 v1 v2 v3 v4 v5 v6 v7 v8 v9 v10 v11 v12 v13 v14 v15 v16 v17 v18 v19 v20 v21 v22 S => kn v0 v1 v2 v3 v4 v5 v6 v7 v8 v9 v10 v11 v12 v13 v14 v15 v16 v17 v18 v19 v20 (.i .u64 0) (.i .u64 0) S) (cSeq (cSeq (cReg fun kn v0 v1 v2 v3 v4 v5 v6 v7 v8 v9 v10 v11 v12 v13 v14 v15 v16 v17 v18 v19 v20 v21 v22 S => pEql v2 (.i .u64 0) (fun a0 => kn v0 v1 v2 a0 v4 v5 v6 v7 v8 v9 v10 v11 v12 v13 v14 v15 v16 v17 v18 v19 v20 v21 v22 S)) (cCond (fun x y v0 v1 v2 v3 v4 v5 v6 v7 v8 v9 v10 v11 v12 v13 v14 v15 v16 v17 v18 v19 v20 v21 v22 S => pIf v3 (x v0 v1 v2 v3 v4 v5 v6 v7 v8 v9 v10 v11 v12 v13 v14 v15 v16 v17 v18 v19 v20 v21 v22 S) (y v0 v1 v2 v3 v4 v5 v6 v7 v8 v9 v10 v11 v12 v13 v14 v15 v16 v17 v18 v19 v20 v21 v22 S)) (cReg fun kn v0 v1 v2 v3 v4 v5 v6 v7 v8 v9 v10 v11 v12 v13 v14 v15 v16 v17 v18 v19 v20 v21 v22 S => none) cSkip)) (cSeq (cSeq (cReg fun kn v0 v1 v2 v3 v4 v5 v6 v7 v8 v9 v10 v11 v12 v13 v14 v15 v16 v17 v18 v19 v20 v21 v22 S => pLeq v2 v0 (fun a0 => kn v0 v1 v2 v3 a0 v5 v6 v7 v8 v9 v10 v11 v12 v13 v14 v15 v16 v17 v18 v19 v20 v21 v22 S)) (cCond (fun x y v0 v1 v2 v3 v4 v5 v6 v7 v8 v9 v10 v11 v12 v13 v14 v15 v16 v17 v18 v19 v20 v21 v22 S => pIf v4 (x v0 v1 v2 v3 v4 v5 v6 v7 v8 v9 v10 v11 v12 v13 v14 v15 v16 v17 v18 v19 v20 v21 v22 S) (y v0 v1 v2 v3 v4 v5 v6 v7 v8 v9 v10 v11 v12 v13 v14 v15 v16 v17 v18 v19 v20 v21 v22 S)) (cReg fun kn v0 v1 v2 v3 v4 v5 v6 v7 v8 v9 v10 v11 v12 v13 v14 v15 v16 v17 v18 v19 v20 v21 v22 S => none) cSkip)) (cSeq (cSeq (cReg fun kn v0 v1 v2 v3 v4 v5 v6 v7 v8 v9 v10 v11 v12 v13 v14 v15 v16 v17 v18 v19 v20 v21 v22 S => pEql v0 (.i .u64 0) (fun a0 => kn v0 v1 v2 v3 v4 a0 v6 v7 v8 v9 v10 v11 v12 v13 v14 v15 v16 v17 v18 v19 v20 v21 v22 S)) (cCond (fun x y v0 v1 v2 v3 v4 v5 v6 v7 v8 v9 v10 v11 v12 v13 v14 v15 v16 v17 v18 v19 v20 v21 v22 S => pIf v5 (x v0 v1 v2 v3 v4 v5 v6 v7 v8 v9 v10 v11 v12 v13 v14 v15 v16 v17 v18 v19 v20 v21 v22 S) (y v0 v1 v2 v3 v4 v5 v6 v7 v8 v9 v10 v11 v12 v13 v14 v15 v16 v17 v18 v19 v20 v21 v22 S)) (cSeq (cReg fun kn v0 v1 v2 v3 v4 v5 v6 v7 v8 v9 v10 v11 v12 v13 v14 v15 v16 v17 v18 v19 v20 v21 v22 S => pQuo v1 v2 (fun a0 => pRem v1 v2 (fun a1 => kn v0 v1 v2 v3 v4 v5 v6 v7 v8 v9 v10 v11 v12 v13 v14 v15 v16 v17 v18 v19 v20 a0 a1 S))) cRet) cSkip)) (cSeq (cReg fun kn v0 v1 v2 v3 v4 v5 v6 v7 v8 v9 v10 v11 v12 v13 v14 v15 v16 v17 v18 v19 v20 v21 v22 S => f172 v2 S (fun a0 S => pConv .u64 a0 (fun a1 => kn v0 v1 v2 v3 v4 v5 a1 v7 v8 v9 v10 v11 v12 v13 v14 v15 v16 v17 v18 v19 v20 v21 v22 S))) (cSeq (cReg fun kn v0 v1 v2 v3 v4 v5 v6 v7 v8 v9 v10 v11 v12 v13 v14 v15 v16 v17 v18 v19 v20 v21 v22 S => pShl v2 v6 (fun a0 => kn v0 v1 a0 v3 v4 v5 v6 v7 v8 v9 v10 v11 v12 v13 v14 v15 v16 v17 v18 v19 v20 v21 v22 S)) (cSeq (cReg fun kn v0 v1 v2 v3 v4 v5 v6 v7 v8 v9 v10 v11 v12 v13 v14 v15 v16 v17 v18 v19 v20 v21 v22 S => pShr v2 (.i .u64 32) (fun a0 => kn v0 v1 v2 v3 v4 v5 v6 v7 v8 a0 v10 v11 v12 v13 v14 v15 v16 v17 v18 v19 v20 v21 v22 S)) (cSeq (cReg fun kn v0 v1 v2 v3 v4 v5 v6 v7 v8 v9 v10 v11 v12 v13 v14 v15 v16 v17 v18 v19 v20 v21 v22 S => pAnd v2 (.i .u64 4294967295) (fun a0 => kn v0 v1 v2 v3 v4 v5 v6 v7 v8 v9 v10 a0 v12 v13 v14 v15 v16 v17 v18 v19 v20 v21 v22 S)) (cSeq (cReg fun kn v0 v1 v2 v3 v4 v5 v6 v7 v8 v9 v10 v11 v12 v13 v14 v15 v16 v17 v18 v19 v20 v21 v22 S => pShl v0 v6 (fun a0 => pSub (.i .u64 64) v6 (fun a1 => pShr v1 a1 (fun a2 => pOr a0 a2 (fun a3 => kn v0 v1 v2 v3 v4 v5 v6 v7 a3 v9 v10 v11 v12 v13 v14 v15 v16 v17 v18 v19 v20 v21 v22 S))))) (cSeq (cReg fun kn v0 v1 v2 v3 v4 v5 v6 v7 v8 v9 v10 v11 v12 v13 v14 v15 v16 v17 v18 v19 v20 v21 v22 S => pShl v1 v6 (fun a0 => kn v0 v1 v2 v3 v4 v5 v6 a0 v8 v9 v10 v11 v12 v13 v14 v15 v16 v17 v18 v19 v20 v21 v22 S)) (cSeq (cReg fun kn v0 v1 v2 v3 v4 v5 v6 v7 v8 v9 v10 v11 v12 v13 v14 v15 v16 v17 v18 v19 v20 v21 v22 S => pShr v7 (.i .u64 32) (fun a0 => kn v0 v1 v2 v3 v4 v5 v6 v7 v8 v9 v10 v11 v12 a0 v14 v15 v16 v17 v18 v19 v20 v21 v22 S)) (cSeq (cReg fun kn v0 v1 v2 v3 v4 v5 v6 v7 v8 v9 v10 v11 v12 v13 v14 v15 v16 v17 v18 v19 v20 v21 v22 S => pAnd v7 (.i .u64 4294967295) (fun a0 => kn v0 v1 v2 v3 v4 v5 v6 v7 v8 v9 v10 v11 v12 v13 v14 v15 v16 v17 a0 v19 v20 v21 v22 S)) (cSeq (cReg fun kn v0 v1 v2 v3 v4 v5 v6 v7 v8 v9 v10 v11 v12 v13 v14 v15 v16 v17 v18 v19 v20 v21 v22 S => pQuo v8 v9 (fun a0 => kn v0 v1 v2 v3 v4 v5 v6 v7 v8 v9 a0 v11 v12 v13 v14 v15 v16 v17 v18 v19 v20 v21 v22 S)) (cSeq (cReg fun kn v0 v1 v2 v3 v4 v5 v6 v7 v8 v9 v10 v11 v12 v13 v14 v15 v16 v17 v18 v19 v20 v21 v22 S => pMul v10 v9 (fun a0 => pSub v8 a0 (fun a1 => kn v0 v1 v2 v3 v4 v5 v6 v7 v8 v9 v10 v11 a1 v13 v14 v15 v16 v17 v18 v19 v20 v21 v22 S))) (cSeq I0 (cSeq (cReg fun kn v0 v1 v2 v3 v4 v5 v6 v7 v8 v9 v10 v11 v12 v13 v14 v15 v16 v17 v18 v19 v20 v21 v22 S => pMul v8 (.i .u64 4294967296) (fun a0 => pAdd a0 v13 (fun a1 => pMul v10 v2 (fun a2 => pSub a1 a2 (fun a3 => kn v0 v1 v2 v3 v4 v5 v6 v7 v8 v9 v10 v11 v12 v13 v14 v15 a3 v17 v18 v19 v20 v21 v22 S))))) (cSeq (cReg fun kn v0 v1 v2 v3 v4 v5 v6 v7 v8 v9 v10 v11 v12 v13 v14 v15 v16 v17 v18 v19 v20 v21 v22 S => pQuo v16 v9 (fun a0 => kn v0 v1 v2 v3 v4 v5 v6 v7 v8 v9 v10 v11 v12 v13 v14 v15 v16 a0 v18 v19 v20 v21 v22 S)) (cSeq (cReg fun kn v0 v1 v2 v3 v4 v5 v6 v7 v8 v9 v10 v11 v12 v13 v14 v15 v16 v17 v18 v19 v20 v21 v22 S => pMul v17 v9 (fun a0 => pSub v16 a0 (fun a1 => kn v0 v1 v2 v3 v4 v5 v6 v7 v8 v9 v10 v11 a1 v13 v14 v15 v16 v17 v18 v19 v20 v21 v22 S))) (cSeq I1 (cSeq (cReg fun kn v0 v1 v2 v3 v4 v5 v6 v7 v8 v9 v10 v11 v12 v13 v14 v15 v16 v17 v18 v19 v20 v21 v22 S => pMul v10 (.i .u64 4294967296) (fun a0 => pAdd a0 v17 (fun a1 => pMul v16 (.i .u64 4294967296) (fun a2 => pAdd a2 v18 (fun a3 => pMul v17 v2 (fun a4 => pSub a3 a4 (fun a5 => pShr a5 v6 (fun a6 => kn v0 v1 v2 v3 v4 v5 v6 v7 v8 v9 v10 v11 v12 v13 v14 v15 v16 v17 v18 v19 v20 a1 a6 S)))))))) cRet))))))))))))))))))))
theorem C171_eq (f172 : Gn 1) : C171 f172 = HT171 f172 (cBlock 0 (cLoop BA171)) (cBlock 2 (cLoop BB171)) := by rfl
section
variable (f172 : Gn 1) (K : Fn 23) (kx : Nat → Fn 23) (kr : Fn 23) (v0 v1 v2 v3 v4 v5 v6 v7 v8 v9 v10 v11 v12 v13 v14 v15 v16 v17 v18 v19 v20 v21 v22 a b d e s s' y y1 y0 hs t lo' un32 un10 u1 u0 q1 m1 r1 p1 p2 p3 un21 q0 m0 r0 z1 z2 z3 z4 z5 z6 : V) (S : St)
theorem da_end (h1 : ∀ c, pGeq v10 (uu 4294967296) c = c (.b false)) (h2 : ∀ c, pMul v10 v11 c = c a) (h3 : ∀ c, pMul (uu 4294967296) v12 c = c b) (h4 : ∀ c, pAdd b v13 c = c d) (h5 : ∀ c, pGtr a d c = c (.b false)) : BA171 K kx kr v0 v1 v2 v3 v4 v5 v6 v7 v8 v9 v10 v11 v12 v13 v14 v15 v16 v17 v18 v19 v20 v21 v22 S = kx 0 v0 v1 v2 v3 v4 v5 v6 v7 v8 v9 v10 v11 v12 v13 (.b false) v15 v16 v17 v18 v19 v20 v21 v22 S := by
  simp only [BA171, cSeq, cReg, cCond, cBlock, cSkip, cExit, cRet, h1, h2, h3, h4, h5, pGd_ff, pPick_f, ifF]
theorem db_end (h1 : ∀ c, pGeq v17 (uu 4294967296) c = c (.b false)) (h2 : ∀ c, pMul v17 v11 c = c a) (h3 : ∀ c, pMul (uu 4294967296) v12 c = c b) (h4 : ∀ c, pAdd b v18 c = c d) (h5 : ∀ c, pGtr a d c = c (.b false)) : BB171 K kx kr v0 v1 v2 v3 v4 v5 v6 v7 v8 v9 v10 v11 v12 v13 v14 v15 v16 v17 v18 v19 v20 v21 v22 S = kx 2 v0 v1 v2 v3 v4 v5 v6 v7 v8 v9 v10 v11 v12 v13 v14 v15 v16 v17 v18 (.b false) v20 v21 v22 S := by
  simp only [BB171, cSeq, cReg, cCond, cBlock, cSkip, cExit, cRet, h1, h2, h3, h4, h5, pGd_ff, pPick_f, ifF]
theorem dv_zero (I0 I1 : CS 23) (h1 : ∀ c, pEql v2 (uu 0) c = c (.b false)) (h2 : ∀ c, pLeq v2 v0 c = c (.b false)) (h3 : ∀ c, pEql v0 (uu 0) c = c (.b true)) (h4 : ∀ c, pQuo v1 v2 c = c a) (h5 : ∀ c, pRem v1 v2 c = c b) : HT171 f172 I0 I1 K kx kr v0 v1 v2 v3 v4 v5 v6 v7 v8 v9 v10 v11 v12 v13 v14 v15 v16 v17 v18 v19 v20 v21 v22 S = kr v0 v1 v2 (.b false) (.b false) (.b true) v6 v7 v8 v9 v10 v11 v12 v13 v14 v15 v16 v17 v18 v19 v20 a b S := by
  simp only [HT171, cSeq, cReg, cCond, cBlock, cSkip, cExit, cRet, h1, h2, h3, h4, h5, ifT, ifF]
theorem dv_go (I0 I1 : CS 23) (h1 : ∀ c, pEql v2 (uu 0) c = c (.b false)) (h2 : ∀ c, pLeq v2 v0 c = c (.b false)) (h3 : ∀ c, pEql v0 (uu 0) c = c (.b false)) (h4 : ∀ k, f172 v2 S k = k s' S) (h5 : ∀ c, pConv .u64 s' c = c s) (h6 : ∀ c, pShl v2 s c = c y) (h7 : ∀ c, pShr y (uu 32) c = c y1) (h8 : ∀ c, pAnd y (uu 4294967295) c = c y0)
    (h9 : ∀ c, pShl v0 s c = c hs) (h10 : ∀ c, pSub (uu 64) s c = c t) (h11 : ∀ c, pShr v1 t c = c lo') (h12 : ∀ c, pOr hs lo' c = c un32) (h13 : ∀ c, pShl v1 s c = c un10) (h14 : ∀ c, pShr un10 (uu 32) c = c u1) (h15 : ∀ c, pAnd un10 (uu 4294967295) c = c u0) (h16 : ∀ c, pQuo un32 y1 c = c q1) (h17 : ∀ c, pMul q1 y1 c = c m1) (h18 : ∀ c, pSub un32 m1 c = c r1)
    (hA : ∀ (kn : Fn 23) (kx : Nat → Fn 23) (kr : Fn 23), I0 kn kx kr v0 v1 y (.b false) (.b false) (.b false) s un10 un32 y1 q1 y0 r1 u1 v14 v15 v16 v17 u0 v19 v20 (uu 0) (uu 0) S = kn v0 v1 y (.b false) (.b false) (.b false) s un10 un32 y1 q1 y0 r1 u1 (.b false) v15 v16 v17 u0 v19 v20 (uu 0) (uu 0) S)
    (h19 : ∀ c, pMul un32 (uu 4294967296) c = c p1) (h20 : ∀ c, pAdd p1 u1 c = c p2) (h21 : ∀ c, pMul q1 y c = c p3) (h22 : ∀ c, pSub p2 p3 c = c un21) (h23 : ∀ c, pQuo un21 y1 c = c q0) (h24 : ∀ c, pMul q0 y1 c = c m0) (h25 : ∀ c, pSub un21 m0 c = c r0)
    (hB : ∀ (kn : Fn 23) (kx : Nat → Fn 23) (kr : Fn 23), I1 kn kx kr v0 v1 y (.b false) (.b false) (.b false) s un10 un32 y1 q1 y0 r0 u1 (.b false) v15 un21 q0 u0 v19 v20 (uu 0) (uu 0) S = kn v0 v1 y (.b false) (.b false) (.b false) s un10 un32 y1 q1 y0 r0 u1 (.b false) v15 un21 q0 u0 (.b false) v20 (uu 0) (uu 0) S)
    (h26 : ∀ c, pMul q1 (uu 4294967296) c = c z1) (h27 : ∀ c, pAdd z1 q0 c = c z2) (h28 : ∀ c, pMul un21 (uu 4294967296) c = c z3) (h29 : ∀ c, pAdd z3 u0 c = c z4) (h30 : ∀ c, pMul q0 y c = c z5) (h31 : ∀ c, pSub z4 z5 c = c z6) (h32 : ∀ c, pShr z6 s c = c e) :
    HT171 f172 I0 I1 K kx kr v0 v1 v2 v3 v4 v5 v6 v7 v8 v9 v10 v11 v12 v13 v14 v15 v16 v17 v18 v19 v20 v21 v22 S = kr v0 v1 y (.b false) (.b false) (.b false) s un10 un32 y1 q1 y0 r0 u1 (.b false) v15 un21 q0 u0 (.b false) v20 z2 e S := by
  simp only [HT171, cSeq, cReg, cCond, cBlock, cSkip, cExit, cRet, h1, h2, h3, h4, h5, h6, h7, h8, h9, h10, h11, h12, h13, h14, h15, h16, h17, h18, hA, h19, h20, h21, h22, h23, h24, h25, hB, h26, h27, h28, h29, h30, h31, h32, ifF]
end
theorem ushl_u {x s : Nat} (hs : s ≤ 63) (c : V → R) : pShl (uu x) (uu s) c = c (uu (x * 2 ^ s % 18446744073709551616)) := by
  have e : pShl (uu x) (uu s) c = retI c .u64 (Nat.mod (Nat.mul x (Nat.pow 2 (minN s 64))) (M .u64)) := by rfl
  have hm : minN s 64 = s := by
    unfold minN
    rw [Nat.ble_eq_true_of_le (show s ≤ 64 by omega)]
  rw [e, retI_eq, hm]; rfl
theorem ushr_u {x s : Nat} (hs : s ≤ 63) (c : V → R) : pShr (uu x) (uu s) c = c (uu (x / 2 ^ s)) := by
  have e : pShr (uu x) (uu s) c = retI c .u64 (shrI .u64 x (minN s 64)) := by rfl
  have hm : minN s 64 = s := by
    unfold minN
    rw [Nat.ble_eq_true_of_le (show s ≤ 64 by omega)]
  rw [e, retI_eq, hm]; rfl
theorem urem {a b : Nat} (h0 : 0 < b) (c : V → R) : pRem (uu a) (uu b) c = c (uu (a % b)) := by
  obtain ⟨b, rfl⟩ : ∃ d, b = d + 1 := ⟨b - 1, by omega⟩
  rw [pRem_i]; rfl
theorem ugeq {a b : Nat} (ha : a < 18446744073709551616) (hb : b < 18446744073709551616) (c : V → R) : pGeq (uu a) (uu b) c = c (.b (decide (b ≤ a))) := by
  rw [pGeq_i, sh_u a ha, sh_u b hb, ble_eq]
theorem uleq {a b : Nat} (ha : a < 18446744073709551616) (hb : b < 18446744073709551616) (c : V → R) : pLeq (uu a) (uu b) c = c (.b (decide (a ≤ b))) := by
  rw [pLeq_i, sh_u a ha, sh_u b hb, ble_eq]
end
end Go.AM

/- bits.Div64 by a small divisor, exact.divide by one small word, NatDivMod. -/
namespace Go.AM
open Go.Proofs
open Go.AM.Q
open Go.AM.U
set_option linter.unusedVariables false
set_option linter.unusedSimpArgs false
noncomputable section
variable {S0 S : St} {out : V × St}
theorem lz_ok {y : Nat} (h0 : 0 < y) (hy : y ≤ 64) : 32 ≤ lz y ∧ lz y ≤ 63 ∧ 9223372036854775808 ≤ y * 2 ^ lz y ∧ y * 2 ^ lz y < 18446744073709551616 ∧ y * 2 ^ lz y = y * 2 ^ (lz y - 32) * 4294967296 := by
  have key : ∀ z : Fin 64, 32 ≤ lz (z.val + 1) ∧ lz (z.val + 1) ≤ 63 ∧ 9223372036854775808 ≤ (z.val + 1) * 2 ^ lz (z.val + 1) ∧ (z.val + 1) * 2 ^ lz (z.val + 1) < 18446744073709551616 ∧ (z.val + 1) * 2 ^ lz (z.val + 1) = (z.val + 1) * 2 ^ (lz (z.val + 1) - 32) * 4294967296 := by decide +kernel
  have := key ⟨y - 1, by omega⟩
  have e : y - 1 + 1 = y := by omega
  simp only [e] at this
  exact this
def F171x : Gn 3 := G171 (C171 F172t)
theorem K171x : FOK Tryz.prog 171 (un 3 F171x) := fokP (.cons K172t .nil) .nil hm Tryz.func171 (by kernel_rfl) (D171 F172t) (H171 _)
theorem or_add (a b s : Nat) (hb : b < 2 ^ s) : a * 2 ^ s ||| b = a * 2 ^ s + b := by
  rw [Nat.mul_comm]
  exact (Nat.two_pow_add_eq_or_of_lt hb _).symm
theorem mod_ar1 (P r u : Nat) (h : r * 4294967296 + u < 18446744073709551616) : ((P + r * 4294967296) % 18446744073709551616 + u) % 18446744073709551616 = (P + r * 4294967296 + u) % 18446744073709551616 := by omega
theorem mod_ar2 (P T : Nat) (h : T < 18446744073709551616) : ((P + T) % 18446744073709551616 + (18446744073709551616 - P % 18446744073709551616)) % 18446744073709551616 = T := by omega
theorem ar_fin0 (B a b U u v r1 r0 : Nat) (hU : B * u + v = U) (h : r1 * B + u = b + r0) : (a + r1) * (B * B) + U = a * B * B + b * B + (r0 * B + v) := by
  have h2 : (r1 * B + u) * B = (b + r0) * B := by rw [h]
  rw [Nat.add_mul, Nat.add_mul] at h2
  rw [← hU, Nat.add_mul, ← Nat.mul_assoc, ← Nat.mul_assoc, Nat.mul_comm B u]
  omega
theorem ar_fin (a b u10 r1 r0 : Nat) (h : r1 * 4294967296 + u10 / 4294967296 = b + r0) : (a + r1) * 18446744073709551616 + u10 = a * 4294967296 * 4294967296 + b * 4294967296 + (r0 * 4294967296 + u10 % 4294967296) :=
  ar_fin0 4294967296 a b u10 (u10 / 4294967296) (u10 % 4294967296) r1 r0 (Nat.div_add_mod _ _) h
theorem ar_q (q1 q0 : Nat) (h1 : q1 < 4294967296) (h0 : q0 < 4294967296) : q1 * 4294967296 < 18446744073709551616 ∧ q1 * 4294967296 + q0 < 18446744073709551616 := by omega
theorem conv_nu {n : Nat} (hn : n < 64) (c : V → R) : pConv .u64 (nn n) c = c (uu n) := by
  show retI c .u64 (cvI .i64 .u64 n) = _
  rw [retI_eq]
  have : cvI .i64 .u64 n = n := by
    unfold cvI
    rw [neg_n (by omega)]
    show n % 18446744073709551616 = n
    omega
  rw [this]
theorem d64_eq {h l y : Nat} (h0 : 0 < y) (hy : y ≤ 64) (hh : h < y) (hl : l < M64) (S : St) (k : Cont) : F171x (uu h) (uu l) (uu y) S k = k (.tu [uu ((h * M64 + l) / y), uu ((h * M64 + l) % y)]) S := by
  have eM : M64 = 18446744073709551616 := rfl
  have eB : B32 = 4294967296 := rfl
  have g1 : ∀ c, pEql (uu y) (uu 0) c = c (.b false) := fun c => by rw [ueql, decide_eq_false (by omega)]
  have g2 : ∀ c, pLeq (uu y) (uu h) c = c (.b false) := fun c => by rw [uleq (by omega) (by omega), decide_eq_false (by omega)]
  unfold F171x G171
  by_cases hz : h = 0
  · subst hz
    rw [Nat.zero_mul, Nat.zero_add, C171_eq, dv_zero (a := uu (l / y)) (b := uu (l % y)) (h1 := g1) (h2 := g2) (h3 := fun c => ueql 0 0 c) (h4 := fun c => uquo h0 c) (h5 := fun c => urem h0 c)]
  · obtain ⟨s1, s2, s3, s4, s5⟩ := lz_ok h0 hy
    generalize hs : lz y = s at *
    generalize hd : y * 2 ^ (s - 32) = d at *
    generalize hY : y * 2 ^ s = Y at *
    have hd0 : 0 < d := by omega
    have hdB : d < 4294967296 := by omega
    have p64 : (2 : Nat) ^ (64 - s) * 2 ^ s = 18446744073709551616 := by rw [← Nat.pow_add, show 64 - s + s = 64 by omega]
    have ps : 0 < 2 ^ s := Nat.pow_pos (by decide)
    have pt : 0 < 2 ^ (64 - s) := Nat.pow_pos (by decide)
    -- the high part
    have hhY : (h + 1) * 2 ^ s ≤ Y := by rw [← hY]; exact Nat.mul_le_mul_right _ hh
    have hls : l / 2 ^ (64 - s) < 2 ^ s := Nat.div_lt_of_lt_mul (by rw [p64]; omega)
    have e1 : (h + 1) * 2 ^ s = h * 2 ^ s + 2 ^ s := by rw [Nat.add_mul, Nat.one_mul]
    have hun : h * 2 ^ s % 18446744073709551616 = h * 2 ^ s := Nat.mod_eq_of_lt (by omega)
    have hls2 : l * 2 ^ s = l / 2 ^ (64 - s) * 18446744073709551616 + l * 2 ^ s % 18446744073709551616 := by
      have := Nat.div_add_mod (l * 2 ^ s) 18446744073709551616
      have e : l * 2 ^ s / 18446744073709551616 = l / 2 ^ (64 - s) := by rw [← p64, Nat.mul_div_mul_right _ _ ps]
      rw [e] at this
      omega
    obtain ⟨u32, hu32⟩ : ∃ u, h * 2 ^ s + l / 2 ^ (64 - s) = u := ⟨_, rfl⟩
    obtain ⟨u10, hu10⟩ : ∃ u, l * 2 ^ s % 18446744073709551616 = u := ⟨_, rfl⟩
    have hu10l : u10 < 18446744073709551616 := by rw [← hu10]; exact Nat.mod_lt _ (by decide)
    rw [hu10] at hls2
    have hN : (h * M64 + l) * 2 ^ s = u32 * 18446744073709551616 + u10 := by
      rw [Nat.add_mul, hls2, ← hu32, Nat.add_mul, eM, Nat.mul_right_comm]; omega
    have huY : u32 < Y := by omega
    have q1d := Nat.div_add_mod u32 d
    have r1d := Nat.mod_lt u32 hd0
    obtain ⟨q1, hq1⟩ : ∃ u, u32 / d = u := ⟨_, rfl⟩
    obtain ⟨r1, hr1⟩ : ∃ u, u32 % d = u := ⟨_, rfl⟩
    have hq1B : q1 < 4294967296 := by rw [← hq1]; exact Nat.div_lt_of_lt_mul (by omega)
    rw [hq1, hr1] at q1d
    rw [hr1] at r1d
    obtain ⟨n21, hn21⟩ : ∃ u, r1 * 4294967296 + u10 / 4294967296 = u := ⟨_, rfl⟩
    have hn21Y : n21 < Y := by omega
    have q0d := Nat.div_add_mod n21 d
    have r0d := Nat.mod_lt n21 hd0
    obtain ⟨q0, hq0⟩ : ∃ u, n21 / d = u := ⟨_, rfl⟩
    obtain ⟨r0, hr0⟩ : ∃ u, n21 % d = u := ⟨_, rfl⟩
    have hq0B : q0 < 4294967296 := by rw [← hq0]; exact Nat.div_lt_of_lt_mul (by omega)
    rw [hq0, hr0] at q0d
    rw [hr0] at r0d
    have c1 : q1 * d ≤ u32 := by rw [Nat.mul_comm]; omega
    have c0 : q0 * d ≤ n21 := by rw [Nat.mul_comm]; omega
    have m1 : q1 * Y = q1 * d * 4294967296 := by rw [s5, Nat.mul_assoc]
    have m0 : q0 * Y = q0 * d * 4294967296 := by rw [s5, Nat.mul_assoc]
    have t1 : u32 = q1 * d + r1 := by rw [Nat.mul_comm]; omega
    have t0 : n21 = q0 * d + r0 := by rw [Nat.mul_comm]; omega
    have hfin : (h * M64 + l) * 2 ^ s = Y * (q1 * 4294967296 + q0) + (r0 * 4294967296 + u10 % 4294967296) := by
      rw [hN, Nat.mul_add, ← Nat.mul_assoc, Nat.mul_comm Y q1, Nat.mul_comm Y q0, m1, m0]
      rw [t1]
      exact ar_fin _ _ _ _ _ (hn21.trans t0)
    have hRY : r0 * 4294967296 + u10 % 4294967296 < Y := by omega
    have hq : (h * M64 + l) / y = q1 * 4294967296 + q0 := by
      have := Nat.div_eq_of_lt_le (k := q1 * 4294967296 + q0) (m := (h * M64 + l) * 2 ^ s) (n := Y) (by rw [hfin, Nat.mul_comm]; omega) (by rw [hfin, Nat.add_mul, Nat.one_mul, Nat.mul_comm]; omega)
      rw [← hY, Nat.mul_div_mul_right _ _ ps] at this
      exact this
    have hr : (h * M64 + l) % y * 2 ^ s = r0 * 4294967296 + u10 % 4294967296 := by
      rw [← Nat.mul_mod_mul_right, hY, hfin, Nat.mul_add_mod, Nat.mod_eq_of_lt hRY]
    have k1 : ∀ c, pMul (uu u32) (uu 4294967296) c = c (uu ((q1 * Y + r1 * 4294967296) % 18446744073709551616)) := fun c => by
      rw [pMul_i]
      have : u32 * 4294967296 = q1 * Y + r1 * 4294967296 := by rw [m1, t1, Nat.add_mul]
      rw [this]; rfl
    have k2 : ∀ c, pAdd (uu ((q1 * Y + r1 * 4294967296) % 18446744073709551616)) (uu (u10 / B32)) c = c (uu ((q1 * Y + n21) % 18446744073709551616)) := fun c => by
      rw [pAdd_i]
      have := mod_ar1 (q1 * Y) r1 (u10 / 4294967296) (by rw [hn21]; exact Nat.lt_trans hn21Y s4)
      rw [Nat.add_assoc, hn21] at this
      show c (uu (((q1 * Y + r1 * 4294967296) % 18446744073709551616 + u10 / 4294967296) % 18446744073709551616)) = _
      rw [this]
    have k3 : ∀ c, pSub (uu ((q1 * Y + n21) % 18446744073709551616)) (uu (q1 * Y % 18446744073709551616)) c = c (uu n21) := fun c => by
      rw [pSub_i]
      show c (uu (((q1 * Y + n21) % 18446744073709551616 + (18446744073709551616 - q1 * Y % 18446744073709551616)) % 18446744073709551616)) = _
      rw [mod_ar2 _ _ (by omega)]
    have k4 : ∀ c, pMul (uu n21) (uu 4294967296) c = c (uu ((q0 * Y + r0 * 4294967296) % 18446744073709551616)) := fun c => by
      rw [pMul_i]
      have : n21 * 4294967296 = q0 * Y + r0 * 4294967296 := by rw [m0, t0, Nat.add_mul]
      rw [this]; rfl
    have k5 : ∀ c, pAdd (uu ((q0 * Y + r0 * 4294967296) % 18446744073709551616)) (uu (u10 % B32)) c = c (uu ((q0 * Y + (r0 * 4294967296 + u10 % 4294967296)) % 18446744073709551616)) := fun c => by
      rw [pAdd_i]
      have := mod_ar1 (q0 * Y) r0 (u10 % 4294967296) (by omega)
      rw [Nat.add_assoc] at this
      show c (uu (((q0 * Y + r0 * 4294967296) % 18446744073709551616 + u10 % 4294967296) % 18446744073709551616)) = _
      rw [this]
    have k6 : ∀ c, pSub (uu ((q0 * Y + (r0 * 4294967296 + u10 % 4294967296)) % 18446744073709551616)) (uu (q0 * Y % 18446744073709551616)) c = c (uu (r0 * 4294967296 + u10 % 4294967296)) := fun c => by
      rw [pSub_i]
      show c (uu (((q0 * Y + (r0 * 4294967296 + u10 % 4294967296)) % 18446744073709551616 + (18446744073709551616 - q0 * Y % 18446744073709551616)) % 18446744073709551616)) = _
      rw [mod_ar2 _ _ (by omega)]
    have hY0 : Y % 4294967296 = 0 := by omega
    have hYd : Y / 4294967296 = d := by omega
    have hq1m : q1 * d < 18446744073709551616 := by omega
    have hq0m : q0 * d < 18446744073709551616 := by omega
    rw [hq, C171_eq, dv_go (s' := nn s) (s := uu s) (y := uu Y) (y1 := uu d) (y0 := uu 0) (hs := uu (h * 2 ^ s)) (t := uu (64 - s)) (lo' := uu (l / 2 ^ (64 - s))) (un32 := uu u32) (un10 := uu u10) (u1 := uu (u10 / B32)) (u0 := uu (u10 % B32)) (q1 := uu q1) (m1 := uu (q1 * d)) (r1 := uu r1) (p1 := uu ((q1 * Y + r1 * 4294967296) % 18446744073709551616)) (p2 := uu ((q1 * Y + n21) % 18446744073709551616)) (p3 := uu (q1 * Y % 18446744073709551616)) (un21 := uu n21)
      (q0 := uu q0) (m0 := uu (q0 * d)) (r0 := uu r0) (z1 := uu (q1 * 4294967296)) (z2 := uu (q1 * 4294967296 + q0)) (z3 := uu ((q0 * Y + r0 * 4294967296) % 18446744073709551616)) (z4 := uu ((q0 * Y + (r0 * 4294967296 + u10 % 4294967296)) % 18446744073709551616)) (z5 := uu (q0 * Y % 18446744073709551616)) (z6 := uu (r0 * 4294967296 + u10 % 4294967296)) (e := uu ((h * M64 + l) % y))
      (h1 := g1) (h2 := g2) (h3 := fun c => by rw [ueql, decide_eq_false hz]) (h4 := fun k => by rw [lz_eq h0 hy, hs]) (h5 := fun c => conv_nu (by omega) c) (h6 := fun c => by rw [ushl_u s2, hY, Nat.mod_eq_of_lt s4]) (h7 := fun c => by rw [ushr32]; rw [show Y / B32 = d from hYd]) (h8 := fun c => by rw [ulow]; rw [show Y % B32 = 0 from hY0])
      (h9 := fun c => by rw [ushl_u s2, hun]) (h10 := fun c => usub (by omega) (by omega) c) (h11 := fun c => ushr_u (by omega) c) (h12 := fun c => by rw [uor, or_add _ _ _ hls, hu32]) (h13 := fun c => by rw [ushl_u s2, hu10]) (h14 := fun c => ushr32 _ c) (h15 := fun c => ulow _ c) (h16 := fun c => by rw [uquo hd0, hq1]) (h17 := fun c => umul hq1m c) (h18 := fun c => by rw [usub (by omega) (by omega), t1, Nat.add_sub_cancel_left])
      (hA := fun kn kx kr => ?_) (h19 := k1) (h20 := k2) (h21 := fun c => pMul_i .u64 q1 Y c) (h22 := k3) (h23 := fun c => by rw [uquo hd0, hq0]) (h24 := fun c => umul hq0m c) (h25 := fun c => by rw [usub (by omega) (by omega), t0, Nat.add_sub_cancel_left]) (hB := fun kn kx kr => ?_) (h26 := fun c => umul (ar_q q1 q0 hq1B hq0B).1 c) (h27 := fun c => uadd (ar_q q1 q0 hq1B hq0B).2 c) (h28 := k4) (h29 := k5) (h30 := fun c => pMul_i .u64 q0 Y c) (h31 := k6)
      (h32 := fun c => by rw [ushr_u s2, ← hr, Nat.mul_div_cancel _ ps])]
    · obtain ⟨kx', e1, e2⟩ := block_loop_at 0 BA171 kn kx kr
      rw [e2, loopN_succ, da_end (a := uu 0) (b := uu (4294967296 * r1)) (d := uu (4294967296 * r1 + u10 / B32)) (h1 := fun c => by rw [ugeq (by omega) (by omega), decide_eq_false (by omega)]) (h2 := fun c => by rw [umul (by omega), Nat.mul_zero]) (h3 := fun c => umul (by omega) c) (h4 := fun c => uadd (b := u10 / 4294967296) (by omega) c) (h5 := fun c => by rw [ugtr (by omega) (show 4294967296 * r1 + u10 / 4294967296 < _ by omega), decide_eq_false (by omega)]), e1]
    · obtain ⟨kx', e1, e2⟩ := block_loop_at 2 BB171 kn kx kr
      rw [e2, loopN_succ, db_end (a := uu 0) (b := uu (4294967296 * r0)) (d := uu (4294967296 * r0 + u10 % B32)) (h1 := fun c => by rw [ugeq (by omega) (by omega), decide_eq_false (by omega)]) (h2 := fun c => by rw [umul (by omega), Nat.mul_zero]) (h3 := fun c => umul (by omega) c) (h4 := fun c => uadd (b := u10 % 4294967296) (by omega) c) (h5 := fun c => by rw [ugtr (by omega) (show 4294967296 * r0 + u10 % 4294967296 < _ by omega), decide_eq_false (by omega)]), e1]
end
end Go.AM

/- exact.divide by one small word, NatDivMod. -/
namespace Go.AM
open Go.Proofs
open Go.AM.Q
open Go.AM.U
set_option linter.unusedVariables false
set_option linter.unusedSimpArgs false
noncomputable section
variable {S0 S : St} {out : V × St}
def B142 (f171 : Gn 3) : CS 22 := (cSeq (cSeq (cReg fun kn v0 v1 v2 v3 v4 v5 v6 v7 v8 v9 v10 v11 v12 v13 v14 v15 v16 v17 v18 v19 v20 v21 S => pGeq v4 (.i .i64 0) (fun a0 => kn v0 v1 v2 v3 v4 a0 v6 v7 v8 v9 v10 v11 v12 v13 v14 v15 v16 v17 v18 v19 v20 v21 S)) (cCond (fun x y v0 v1 v2 v3 v4 v5 v6 v7 v8 v9 v10 v11 v12 v13 v14 v15 v16 v17 v18 v19 v20 v21 S => pIf v5 (x v0 v1 v2 v3 v4 v5 v6 v7 v8 v9 v10 v11 v12 v13 v14 v15 v16 v17 v18 v19 v20 v21 S) (y v0 v1 v2 v3 v4 v5 v6 v7 v8 v9 v10 v11 v12 v13 v14 v15 v16 v17 v18 v19 v20 v21 S)) cSkip (cExit 0))) (cSeq (cBlock 1 (cReg fun kn v0 v1 v2 v3 v4 v5 v6 v7 v8 v9 v10 v11 v12 v13 v14 v15 v16 v17 v18 v19 v20 v21 S => pIdx 1 v0 v4 (fun a0 => pLd a0 S (fun a1 => pIdx 1 v1 (.i .i64 0) (fun a2 => pLd a2 S (fun a3 => pDraw (f171 v7 a1 a3) S (fun a4 S => pExt a4 0 (fun a5 => pExt a4 1 (fun a6 => pIdx 1 v6 v4 (fun a7 => pSt 1 a7 a5 S (fun S => kn v0 v1 v2 v3 v4 v5 v6 a6 v8 v9 v10 v11 v12 v13 v14 v15 v16 v17 v18 v19 v20 v21 S))))))))))) (cReg fun kn v0 v1 v2 v3 v4 v5 v6 v7 v8 v9 v10 v11 v12 v13 v14 v15 v16 v17 v18 v19 v20 v21 S => pSub v4 (.i .i64 1) (fun a0 => kn v0 v1 v2 v3 a0 v5 v6 v7 v8 v9 v10 v11 v12 v13 v14 v15 v16 v17 v18 v19 v20 v21 S))))
def HT142 (f168 : Gn 1) (f170 : Gn 2) (f171 : Gn 3) (f172 : Gn 1) (I0 I1 I2 : CS 22) : CS 22 := (cSeq (cReg fun kn v0 v1 v2 v3 v4 v5 v6 v7 v8 v9 v10 v11 v12 v13 v14 v15 v16 v17 v18 v19 v20 v21 S => kn v0 v1 v2 v3 v4 v5 v6 v7 v8 v9 v10 v11 v12 v13 v14 v15 v16 v17 v18 v19 .sn .sn S) (cSeq (cSeq (cReg fun kn v0 v1 v2 v3 v4 v5 v6 v7 v8 v9 v10 v11 v12 v13 v14 v15 v16 v17 v18 v19 v20 v21 S => f170 v0 v1 S (fun a0 S => pLss a0 (.i .i64 0) (fun a1 => kn v0 v1 a1 v3 v4 v5 v6 v7 v8 v9 v10 v11 v12 v13 v14 v15 v16 v17 v18 v19 v20 v21 S))) (cCond (fun x y v0 v1 v2 v3 v4 v5 v6 v7 v8 v9 v10 v11 v12 v13 v14 v15 v16 v17 v18 v19 v20 v21 S => pIf v2 (x v0 v1 v2 v3 v4 v5 v6 v7 v8 v9 v10 v11 v12 v13 v14 v15 v16 v17 v18 v19 v20 v21 S) (y v0 v1 v2 v3 v4 v5 v6 v7 v8 v9 v10 v11 v12 v13 v14 v15 v16 v17 v18 v19 v20 v21 S)) (cSeq (cReg fun kn v0 v1 v2 v3 v4 v5 v6 v7 v8 v9 v10 v11 v12 v13 v14 v15 v16 v17 v18 v19 v20 v21 S => kn v0 v1 v2 v3 v4 v5 v6 v7 v8 v9 v10 v11 v12 v13 v14 v15 v16 v17 v18 v19 .sn v0 S) cRet) cSkip)) (cSeq (cSeq (cReg fun kn v0 v1 v2 v3 v4 v5 v6 v7 v8 v9 v10 v11 v12 v13 v14 v15 v16 v17 v18 v19 v20 v21 S => pLen v1 (fun a0 => pEql a0 (.i .i64 1) (fun a1 => kn v0 v1 v2 a1 v4 v5 v6 v7 v8 v9 v10 v11 v12 v13 v14 v15 v16 v17 v18 v19 v20 v21 S))) (cCond (fun x y v0 v1 v2 v3 v4 v5 v6 v7 v8 v9 v10 v11 v12 v13 v14 v15 v16 v17 v18 v19 v20 v21 S => pIf v3 (x v0 v1 v2 v3 v4 v5 v6 v7 v8 v9 v10 v11 v12 v13 v14 v15 v16 v17 v18 v19 v20 v21 S) (y v0 v1 v2 v3 v4 v5 v6 v7 v8 v9 v10 v11 v12 v13 v14 v15 v16 v17 v18 v19 v20 v21 S)) (cSeq (cReg fun kn v0 v1 v2 v3 v4 v5 v6 v7 v8 v9 v10 v11 v12 v13 v14 v15 v16 v17 v18 v19 v20 v21 S => pLen v0 (fun a0 => pMks [(.i .u64 0)] a0 a0 S (fun a1 S => kn v0 v1 v2 v3 v4 v5 a1 v7 v8 v9 v10 v11 v12 v13 v14 v15 v16 v17 v18 v19 v20 v21 S))) (cSeq (cReg fun kn v0 v1 v2 v3 v4 v5 v6 v7 v8 v9 v10 v11 v12 v13 v14 v15 v16 v17 v18 v19 v20 v21 S => kn v0 v1 v2 v3 v4 v5 v6 (.i .u64 0) v8 v9 v10 v11 v12 v13 v14 v15 v16 v17 v18 v19 v20 v21 S) (cSeq (cSeq (cReg fun kn v0 v1 v2 v3 v4 v5 v6 v7 v8 v9 v10 v11 v12 v13 v14 v15 v16 v17 v18 v19 v20 v21 S => pLen v0 (fun a0 => pSub a0 (.i .i64 1) (fun a1 => kn v0 v1 v2 v3 a1 v5 v6 v7 v8 v9 v10 v11 v12 v13 v14 v15 v16 v17 v18 v19 v20 v21 S))) I0) (cSeq (cReg fun kn v0 v1 v2 v3 v4 v5 v6 v7 v8 v9 v10 v11 v12 v13 v14 v15 v16 v17 v18 v19 v20 v21 S => f168 v6 S (fun a0 S => pBsl [(.i .u64 0)] 1 [(0, 1, v7)] S (fun a1 S => f168 a1 S (fun a2 S => kn v0 v1 v2 v3 v4 v5 v6 v7 v8 v9 v10 v11 v12 v13 v14 v15 v16 v17 v18 v19 a0 a2 S)))) cRet)))) cSkip)) (cSeq (cReg fun kn v0 v1 v2 v3 v4 v5 v6 v7 v8 v9 v10 v11 v12 v13 v14 v15 v16 v17 v18 v19 v20 v21 S => pLen v1 (fun a0 => pSub a0 (.i .i64 1) (fun a1 => pIdx 1 v1 a1 (fun a2 => pLd a2 S (fun a3 => f172 a3 S (fun a4 S => kn v0 v1 v2 v3 v4 v5 v6 v7 a4 v9 v10 v11 v12 v13 v14 v15 v16 v17 v18 v19 v20 v21 S)))))) (cSeq (cReg fun kn v0 v1 v2 v3 v4 v5 v6 v7 v8 v9 v10 v11 v12 v13 v14 v15 v16 v17 v18 v19 v20 v21 S => none) (cSeq (cReg fun kn v0 v1 v2 v3 v4 v5 v6 v7 v8 v9 v10 v11 v12 v13 v14 v15 v16 v17 v18 v19 v20 v21 S => none) (cSeq (cReg fun kn v0 v1 v2 v3 v4 v5 v6 v7 v8 v9 v10 v11 v12 v13 v14 v15 v16 v17 v18 v19 v20 v21 S => pLen v9 (fun a0 => kn v0 v1 v2 v3 v4 v5 v6 v7 v8 v9 a0 v11 v12 v13 v14 v15 v16 v17 v18 v19 v20 v21 S)) (cSeq (cReg fun kn v0 v1 v2 v3 v4 v5 v6 v7 v8 v9 v10 v11 v12 v13 v14 v15 v16 v17 v18 v19 v20 v21 S => pLen v0 (fun a0 => pSub a0 v10 (fun a1 => pAdd a1 (.i .i64 1) (fun a2 => pMks [(.i .u64 0)] a2 a2 S (fun a3 S => kn v0 v1 v2 v3 v4 v5 v6 v7 v8 v9 v10 v11 v12 a3 v14 v15 v16 v17 v18 v19 v20 v21 S))))) (cSeq (cSeq (cReg fun kn v0 v1 v2 v3 v4 v5 v6 v7 v8 v9 v10 v11 v12 v13 v14 v15 v16 v17 v18 v19 v20 v21 S => pLen v0 (fun a0 => pSub a0 v10 (fun a1 => kn v0 v1 v2 v3 v4 v5 v6 v7 v8 v9 v10 a1 v12 v13 v14 v15 v16 v17 v18 v19 v20 v21 S))) I1) (cSeq (cSeq (cReg fun kn v0 v1 v2 v3 v4 v5 v6 v7 v8 v9 v10 v11 v12 v13 v14 v15 v16 v17 v18 v19 v20 v21 S => kn v0 v1 v2 v3 v4 v5 v6 v7 v8 v9 v10 v11 v12 v13 v14 (.i .i64 0) v10 v17 v18 v19 v20 v21 S) I2) (cSeq (cReg fun kn v0 v1 v2 v3 v4 v5 v6 v7 v8 v9 v10 v11 v12 v13 v14 v15 v16 v17 v18 v19 v20 v21 S => pDraw (f168 v13) S (fun a0 S => pSlc 1 v14 none (some v10) none (fun a1 => pDraw (f168 a1) S (fun a2 S => kn v0 v1 v2 v3 v4 v5 v6 v7 v8 v9 v10 v11 v12 v13 v14 v15 v16 v17 v18 v19 a0 a2 S)))) cRet)))))))))))
def BX142 : CS 22 := (cSeq (cSeq (cReg fun kn v0 v1 v2 v3 v4 v5 v6 v7 v8 v9 v10 v11 v12 v13 v14 v15 v16 v17 v18 v19 v20 v21 S => pGeq v11 (.i .i64 0) (fun a0 => kn v0 v1 v2 v3 v4 v5 v6 v7 v8 v9 v10 v11 a0 v13 v14 v15 v16 v17 v18 v19 v20 v21 S)) (cCond (fun x y v0 v1 v2 v3 v4 v5 v6 v7 v8 v9 v10 v11 v12 v13 v14 v15 v16 v17 v18 v19 v20 v21 S => pIf v12 (x v0 v1 v2 v3 v4 v5 v6 v7 v8 v9 v10 v11 v12 v13 v14 v15 v16 v17 v18 v19 v20 v21 S) (y v0 v1 v2 v3 v4 v5 v6 v7 v8 v9 v10 v11 v12 v13 v14 v15 v16 v17 v18 v19 v20 v21 S)) cSkip (cExit 2))) (cSeq (cBlock 3 (cReg fun kn v0 v1 v2 v3 v4 v5 v6 v7 v8 v9 v10 v11 v12 v13 v14 v15 v16 v17 v18 v19 v20 v21 S => pAdd v11 v10 (fun a0 => pAdd a0 (.i .i64 1) (fun a1 => pSlc 1 v14 (some v11) (some a1) none (fun a2 => none))))) (cReg fun kn v0 v1 v2 v3 v4 v5 v6 v7 v8 v9 v10 v11 v12 v13 v14 v15 v16 v17 v18 v19 v20 v21 S => pSub v11 (.i .i64 1) (fun a0 => kn v0 v1 v2 v3 v4 v5 v6 v7 v8 v9 v10 a0 v12 v13 v14 v15 v16 v17 v18 v19 v20 v21 S))))
def BY142 : CS 22 := (cSeq (cReg fun kn v0 v1 v2 v3 v4 v5 v6 v7 v8 v9 v10 v11 v12 v13 v14 v15 v16 v17 v18 v19 v20 v21 S => pLss v15 v16 (fun a0 => kn v0 v1 v2 v3 v4 v5 v6 v7 v8 v9 v10 v11 v12 v13 v14 v15 v16 a0 v18 v19 v20 v21 S)) (cSeq (cCond (fun x y v0 v1 v2 v3 v4 v5 v6 v7 v8 v9 v10 v11 v12 v13 v14 v15 v16 v17 v18 v19 v20 v21 S => pIf v17 (x v0 v1 v2 v3 v4 v5 v6 v7 v8 v9 v10 v11 v12 v13 v14 v15 v16 v17 v18 v19 v20 v21 S) (y v0 v1 v2 v3 v4 v5 v6 v7 v8 v9 v10 v11 v12 v13 v14 v15 v16 v17 v18 v19 v20 v21 S)) cSkip (cExit 4)) (cSeq (cBlock 5 (cSeq (cReg fun kn v0 v1 v2 v3 v4 v5 v6 v7 v8 v9 v10 v11 v12 v13 v14 v15 v16 v17 v18 v19 v20 v21 S => kn v0 v1 v2 v3 v4 v5 v6 v7 v8 v9 v10 v11 v12 v13 v14 v15 v16 v17 v15 v19 v20 v21 S) (cSeq (cReg fun kn v0 v1 v2 v3 v4 v5 v6 v7 v8 v9 v10 v11 v12 v13 v14 v15 v16 v17 v18 v19 v20 v21 S => pIdx 1 v14 v18 (fun a0 => pLd a0 S (fun a1 => pShr a1 v8 (fun a2 => pIdx 1 v14 v18 (fun a3 => pSt 1 a3 a2 S (fun S => kn v0 v1 v2 v3 v4 v5 v6 v7 v8 v9 v10 v11 v12 v13 v14 v15 v16 v17 v18 v19 v20 v21 S)))))) (cSeq (cReg fun kn v0 v1 v2 v3 v4 v5 v6 v7 v8 v9 v10 v11 v12 v13 v14 v15 v16 v17 v18 v19 v20 v21 S => pGtr v8 (.i .i64 0) (fun a0 => pGd a0 true (fun c => c v18 S) S (fun a1 S => pGd a0 true (fun c => pAdd a1 (.i .i64 1) (fun v => c v S)) S (fun a2 S => pGd a0 true (fun c => c v14 S) S (fun a3 S => pGd a0 true (fun c => pLen a3 (fun v => c v S)) S (fun a4 S => pGd a0 true (fun c => pLss a2 a4 (fun v => c v S)) S (fun a5 S => pPick a0 a5 (.b false) (fun a6 => kn v0 v1 v2 v3 v4 v5 v6 v7 v8 v9 v10 v11 v12 v13 v14 v15 v16 v17 v18 a6 v20 v21 S)))))))) (cCond (fun x y v0 v1 v2 v3 v4 v5 v6 v7 v8 v9 v10 v11 v12 v13 v14 v15 v16 v17 v18 v19 v20 v21 S => pIf v19 (x v0 v1 v2 v3 v4 v5 v6 v7 v8 v9 v10 v11 v12 v13 v14 v15 v16 v17 v18 v19 v20 v21 S) (y v0 v1 v2 v3 v4 v5 v6 v7 v8 v9 v10 v11 v12 v13 v14 v15 v16 v17 v18 v19 v20 v21 S)) (cReg fun kn v0 v1 v2 v3 v4 v5 v6 v7 v8 v9 v10 v11 v12 v13 v14 v15 v16 v17 v18 v19 v20 v21 S => pIdx 1 v14 v18 (fun a0 => pLd a0 S (fun a1 => pAdd v18 (.i .i64 1) (fun a2 => pIdx 1 v14 a2 (fun a3 => pLd a3 S (fun a4 => pSub (.i .i64 64) v8 (fun a5 => pShl a4 a5 (fun a6 => pOr a1 a6 (fun a7 => pIdx 1 v14 v18 (fun a8 => pSt 1 a8 a7 S (fun S => kn v0 v1 v2 v3 v4 v5 v6 v7 v8 v9 v10 v11 v12 v13 v14 v15 v16 v17 v18 v19 v20 v21 S))))))))))) cSkip))))) (cReg fun kn v0 v1 v2 v3 v4 v5 v6 v7 v8 v9 v10 v11 v12 v13 v14 v15 v16 v17 v18 v19 v20 v21 S => pAdd v15 (.i .i64 1) (fun a0 => kn v0 v1 v2 v3 v4 v5 v6 v7 v8 v9 v10 v11 v12 v13 v14 a0 v16 v17 v18 v19 v20 v21 S)))))
theorem C142_eq (f168 : Gn 1) (f170 : Gn 2) (f171 : Gn 3) (f172 : Gn 1) : C142 f168 f170 f171 f172 = HT142 f168 f170 f171 f172 (cBlock 0 (cLoop (B142 f171))) (cBlock 2 (cLoop BX142)) (cBlock 4 (cLoop BY142)) := by rfl
theorem pDraw_pure {f : Sem3} {v : V} (h : ∀ S k, f S k = k v S) (S : St) (k : Cont) : pDraw f S k = k v S := by
  cases S
  show f _ _ = _
  rw [h]
section
variable (f168 : Gn 1) (f170 : Gn 2) (f171 : Gn 3) (f172 : Gn 1) (K : Fn 22) (kx : Nat → Fn 22) (kr : Fn 22) (v0 v1 v2 v3 v4 v5 v6 v7 v8 v9 v10 v11 v12 v13 v14 v15 v16 v17 v18 v19 v20 v21 a b d g q q1 q2 x y uq w o n' r s t w4 w5 w6 w7 : V) (S S1 S2 S3 S4 S5 : St)
theorem dd_end (h1 : ∀ c, pGeq v4 (nn 0) c = c (.b false)) : B142 f171 K kx kr v0 v1 v2 v3 v4 v5 v6 v7 v8 v9 v10 v11 v12 v13 v14 v15 v16 v17 v18 v19 v20 v21 S = kx 0 v0 v1 v2 v3 v4 (.b false) v6 v7 v8 v9 v10 v11 v12 v13 v14 v15 v16 v17 v18 v19 v20 v21 S := by
  simp only [B142, cSeq, cReg, cCond, cBlock, cSkip, cExit, cRet, h1, ifF]
theorem dd_go (h1 : ∀ c, pGeq v4 (nn 0) c = c (.b true)) (h2 : ∀ c, pIdx 1 v0 v4 c = c q) (h3 : ∀ c, pLd q S c = c x) (h4 : ∀ c, pIdx 1 v1 (nn 0) c = c q1) (h5 : ∀ c, pLd q1 S c = c y) (h6 : ∀ k, pDraw (f171 v7 x y) S k = k (.tu [uq, w]) S) (h7 : ∀ c, pIdx 1 v6 v4 c = c q2) (h8 : ∀ c, pSt 1 q2 uq S c = c S1) (h9 : ∀ c, pSub v4 (nn 1) c = c n') :
    B142 f171 K kx kr v0 v1 v2 v3 v4 v5 v6 v7 v8 v9 v10 v11 v12 v13 v14 v15 v16 v17 v18 v19 v20 v21 S = K v0 v1 v2 v3 n' (.b true) v6 w v8 v9 v10 v11 v12 v13 v14 v15 v16 v17 v18 v19 v20 v21 S1 := by
  simp only [B142, cSeq, cReg, cCond, cBlock, cSkip, cExit, cRet, h1, h2, h3, h4, h5, h6, h7, h8, h9, ext0, ext1, ifT]
theorem dd_less (I0 I1 I2 : CS 22) (h1 : ∀ c, f170 v0 v1 S c = c a S) (h2 : ∀ c, pLss a (nn 0) c = c (.b true)) : HT142 f168 f170 f171 f172 I0 I1 I2 K kx kr v0 v1 v2 v3 v4 v5 v6 v7 v8 v9 v10 v11 v12 v13 v14 v15 v16 v17 v18 v19 v20 v21 S = kr v0 v1 (.b true) v3 v4 v5 v6 v7 v8 v9 v10 v11 v12 v13 v14 v15 v16 v17 v18 v19 .sn v0 S := by
  simp only [HT142, cSeq, cReg, cCond, cBlock, cSkip, cExit, cRet, h1, h2, ifT]
theorem dd_head (I0 I1 I2 : CS 22) (h1 : ∀ c, f170 v0 v1 S c = c a S) (h2 : ∀ c, pLss a (nn 0) c = c (.b false)) (h3 : ∀ c, pLen v1 c = c b) (h4 : ∀ c, pEql b (nn 1) c = c (.b true)) (h5 : ∀ c, pLen v0 c = c d) (h6 : ∀ c : Cont, pMks [uu 0] d d S c = c o S1) (h7 : ∀ c, pSub d (nn 1) c = c g)
    (hL : ∀ (kn : Fn 22) (kx : Nat → Fn 22) (kr : Fn 22), I0 kn kx kr v0 v1 (.b false) (.b true) g v5 o (uu 0) v8 v9 v10 v11 v12 v13 v14 v15 v16 v17 v18 v19 .sn .sn S1 = kn v0 v1 (.b false) (.b true) w4 w5 o w7 v8 v9 v10 v11 v12 v13 v14 v15 v16 v17 v18 v19 .sn .sn S2)
    (h8 : ∀ c, f168 o S2 c = c r S2) (h9 : ∀ c : Cont, pBsl [uu 0] 1 [(0, 1, w7)] S2 c = c s S3) (h10 : ∀ c, f168 s S3 c = c t S3) :
    HT142 f168 f170 f171 f172 I0 I1 I2 K kx kr v0 v1 v2 v3 v4 v5 v6 v7 v8 v9 v10 v11 v12 v13 v14 v15 v16 v17 v18 v19 v20 v21 S = kr v0 v1 (.b false) (.b true) w4 w5 o w7 v8 v9 v10 v11 v12 v13 v14 v15 v16 v17 v18 v19 r t S3 := by
  simp only [HT142, cSeq, cReg, cCond, cBlock, cSkip, cExit, cRet, h1, h2, h3, h4, h5, h6, h7, hL, h8, h9, h10, ifT, ifF]
end
theorem dstep (H x y : Nat) (hy : 0 < y) : (x + M64 * H) / y = M64 * (H / y) + (H % y * M64 + x) / y ∧ (x + M64 * H) % y = (H % y * M64 + x) % y := by
  have h := Nat.div_add_mod H y
  have e : x + M64 * H = (H % y * M64 + x) + y * (M64 * (H / y)) := by
    conv => lhs; rw [← h]
    rw [Nat.mul_add, Nat.mul_left_comm M64 y, Nat.mul_comm M64 (H % y)]; omega
  rw [e, Nat.add_mul_div_left _ _ hy, Nat.add_mul_mod_self_left]
  exact ⟨Nat.add_comm _ _, rfl⟩
theorem dd_loop {vx vy : V} {x : List Nat} {y : Nat} {io : Pos} {m : Nat} (h0 : 0 < y) (hy : y ≤ 64) (bx : ∀ z ∈ x, z < M64) (hm : m = x.length) (lx : x.length ≤ 90000) :
    ∀ (N j : Nat) (S : St) (W : List Nat) (v5 : V), j ≤ x.length → j < N → Run S0 S → Own S0 S io (W.map uu) → TRow S0 vx x S io → TRow S0 vy [y] S io → W.length = m → (∀ z ∈ W, z < M64) → (∀ i, i < j → W.getD i 0 = 0) → ofL M64 W = M64 ^ j * (ofL M64 (x.drop j) / y) →
    ∃ S' W', Run S0 S' ∧ Own S0 S' io (W'.map uu) ∧ W'.length = m ∧ (∀ z ∈ W', z < M64) ∧ ofL M64 W' = ofL M64 x / y ∧ (∀ q ds, q ≠ io → Own S0 S q ds → Own S0 S' q ds) ∧
      ∀ (kx : Nat → Fn 22) (kr : Fn 22) (v2 v3 v8 v9 v10 v11 v12 v13 v14 v15 v16 v17 v18 v19 v20 v21 : V), loopN (B142 F171x) kx kr N vx vy v2 v3 (vk j) v5 (.sl io 0 m m) (uu (ofL M64 (x.drop j) % y)) v8 v9 v10 v11 v12 v13 v14 v15 v16 v17 v18 v19 v20 v21 S = kx 0 vx vy v2 v3 (nn (M64 - 1)) (.b false) (.sl io 0 m m) (uu (ofL M64 x % y)) v8 v9 v10 v11 v12 v13 v14 v15 v16 v17 v18 v19 v20 v21 S'
  | 0, j, S, W, v5, h1, h2, r, ho, t1, t2, hW, hb, hz, he => by omega
  | N + 1, 0, S, W, v5, h1, h2, r, ho, t1, t2, hW, hb, hz, he => by
    rw [List.drop_zero, Nat.pow_zero, Nat.one_mul] at he
    refine ⟨S, W, r, ho, hW, hb, he, fun q ds _ h => h, fun kx kr v2 v3 v8 v9 v10 v11 v12 v13 v14 v15 v16 v17 v18 v19 v20 v21 => ?_⟩
    have e0 : vk 0 = nn (M64 - 1) := rfl
    rw [loopN_succ, e0, dd_end (v4 := nn (M64 - 1)) (h1 := fun c => geq_neg (d := 1) (by omega) (by omega) c), List.drop_zero]
  | N + 1, j + 1, S, W, v5, h1, h2, r, ho, t1, t2, hW, hb, hz, he => by
    have ev : vk (j + 1) = nn j := rfl
    have hj : j < x.length := by omega
    have bj := getD_lt bx (by decide) j
    obtain ⟨q, s1, s2⟩ := t1.row.get hj
    obtain ⟨q1, s3, s4⟩ := t2.row.get (i := 0) (by simp)
    obtain ⟨d1, d2⟩ := dstep (ofL M64 (x.drop (j + 1))) (x.getD j 0) y h0
    rw [← dropG M64 x j] at d1 d2
    have hmod := Nat.mod_lt (ofL M64 (x.drop (j + 1))) h0
    have hq : (ofL M64 (x.drop (j + 1)) % y * M64 + x.getD j 0) / y < M64 := by
      refine Nat.div_lt_of_lt_mul ?_
      have := Nat.mul_le_mul_right M64 (show ofL M64 (x.drop (j + 1)) % y + 1 ≤ y by omega)
      rw [Nat.add_mul, Nat.one_mul] at this
      omega
    obtain ⟨S1, r1, o1, k1, a1⟩ := U.Own_put (x := uu ((ofL M64 (x.drop (j + 1)) % y * M64 + x.getD j 0) / y)) ho r (i := j) (by rw [List.length_map]; omega) (fun k => cellsK_i _ _ k)
    rw [map_set_uu] at o1
    have hval : ofL M64 (W.set j ((ofL M64 (x.drop (j + 1)) % y * M64 + x.getD j 0) / y)) = M64 ^ j * (ofL M64 (x.drop j) / y) := by
      have e1 := ofL_set (B := M64) W j ((ofL M64 (x.drop (j + 1)) % y * M64 + x.getD j 0) / y) (by omega)
      rw [hz j (by omega), Nat.mul_zero, Nat.add_zero, he] at e1
      rw [e1, d1, Nat.mul_add, Nat.pow_succ, Nat.mul_assoc]
    obtain ⟨S', W', z1, z2, z3, z4, z5, z6, z7⟩ := dd_loop h0 hy bx hm lx N j S1 _ (.b true) (by omega) (by omega) r1 o1 (t1.step k1) (t2.step k1) (by rw [List.length_set]; exact hW) (fun z h => by
      rcases List.mem_or_eq_of_mem_set h with h | h
      · exact hb z h
      · rw [h]; exact hq) (fun i hi => by rw [gset, if_neg (by omega)]; exact hz i (by omega)) hval
    refine ⟨S', W', z1, z2, z3, z4, z5, fun q ds hq h => z6 q ds hq (k1 q ds hq h), fun kx kr v2 v3 v8 v9 v10 v11 v12 v13 v14 v15 v16 v17 v18 v19 v20 v21 => ?_⟩
    rw [loopN_succ, ev, dd_go (v4 := nn j) (q := q) (x := uu (x.getD j 0)) (q1 := q1) (y := uu y) (uq := uu ((ofL M64 (x.drop (j + 1)) % y * M64 + x.getD j 0) / y)) (w := uu (ofL M64 (x.drop j) % y)) (q2 := .p io j) (n' := vk j) (S1 := S1) (h1 := fun c => by rw [geq_n (by omega) (by omega), decide_eq_true (by omega)]) (h2 := s1) (h3 := s2) (h4 := s3) (h5 := s4)
      (h6 := fun k => by rw [d2]; exact pDraw_pure (fun S k => d64_eq h0 hy hmod bj S k) S k) (h7 := fun c => idx_sl io (by omega) (by omega) c) (h8 := a1) (h9 := fun c => vk_sub j (by omega) c)]
    exact z7 kx kr v2 v3 v8 v9 v10 v11 v12 v13 v14 v15 v16 v17 v18 v19 v20 v21
def F142x : Gn 2 := G142 (C142 F168 F170 F171x F172t)
theorem K142x : FOK Tryz.prog 142 (un 2 F142x) := fokP (.cons K168 (.cons K170 (.cons K171x (.cons K172t .nil)))) .nil hm Tryz.func142 (by kernel_rfl) (D142 F168 F170 F171x F172t) (H142 _)
theorem nd_go (f137 f139 : Gn 1) (f142 : Gn 2) (v0 v1 a b d g r t : V) (S S1 S2 S3 S4 S5 : St) (k : Cont) (h1 : ∀ c, f137 v0 S c = c a S1) (h2 : ∀ c, f137 v1 S1 c = c b S2) (h3 : ∀ c, f142 a b S2 c = c (.tu [d, g]) S3) (h4 : ∀ c, f139 d S3 c = c r S4) (h5 : ∀ c, f139 g S4 c = c t S5) : G102 (C102 f137 f139 f142) v0 v1 S k = k (.tu [r, t]) S5 := by
  simp only [G102, C102, cSeq, cReg, cRet, h1, h2, h3, h4, h5, ext0, ext1]
def F102x : Gn 2 := G102 (C102 F137 F139 F142x)
theorem K102x : FOK Tryz.prog 102 (un 2 F102x) := fokP (.cons K137 (.cons K139 (.cons K142x .nil))) .nil hm Tryz.func102 (by kernel_rfl) (D102 F137 F139 F142x) (H102 _)
theorem dg_small {y : Nat} (h0 : 0 < y) (hy : y < M64) : dg M64 y = [y] := by
  rw [dg_pos (by decide) (by omega), Nat.mod_eq_of_lt hy, Nat.div_eq_of_lt hy]; rfl
theorem ndiv_run {p q : Nat} (lp : (strN p).length ≤ 50000) (h0 : 0 < q) (hq : q ≤ 64) (r : Run S0 S) : ∃ S', Run S0 S' ∧ ∀ k, F102x (.s (strN p)) (.s (strN q)) S k = k (.tu [.s (strN (p / q)), .s (strN (p % q))]) S' := by
  have hqM : q < M64 := by have : M64 = 18446744073709551616 := rfl; omega
  have lq : (strN q).length ≤ 8 := strN_len (Nat.lt_of_le_of_lt hq (by decide))
  obtain ⟨S1, ix, mx, r1, x1, x2, x3⟩ := words_run (strN_by p) (by omega) r
  obtain ⟨S2, iy, my, r2, y1, y2, y3⟩ := words_run (strN_by q) (by omega) r1
  have lx := len_w (strN_by p)
  rw [val_strN] at x1 x3 y1 y3 lx
  have x1' := x1.keep fun q ds h => (y2 q ds h).1
  have dX : ∀ z ∈ dg M64 p, z < M64 := dg_lt (by decide) _
  have ly : (dg M64 q).length ≤ 1 := by rw [dg_small h0 hqM]; simp
  have hcmp : ∀ k, F170 (.sl ix 0 (dg M64 p).length mx) (.sl iy 0 (dg M64 q).length my) S2 k = k (cmpV p q) S2 := fun k => cmpw_run x1'.row y1.row (by omega) (by omega) k
  by_cases hlt : p < q
  · obtain ⟨S4, p1, p2, p3⟩ := epack_run x1' r2 (by omega) dX
    rw [ofL_dg (by decide)] at p3
    refine ⟨S4, p1, fun k => ?_⟩
    rw [Nat.div_eq_of_lt hlt, Nat.mod_eq_of_lt hlt]
    refine nd_go (a := .sl ix 0 (dg M64 p).length mx) (b := .sl iy 0 (dg M64 q).length my) (d := .sn) (g := .sl ix 0 (dg M64 p).length mx) (S1 := S1) (S2 := S2) (S3 := S2) (S4 := S2) (h1 := x3) (h2 := y3) (h3 := fun c => ?_) (h4 := fun c => epack_nil c) (h5 := p3) ..
    unfold F142x G142
    rw [C142_eq, dd_less (h1 := hcmp) (h2 := fun c => by unfold cmpV; rw [if_pos hlt]; exact lss_neg1 c)]
  · have y1' : Wd S0 S2 iy my [q] := by rw [dg_small h0 hqM] at y1; exact y1
    have r3 := r2.new ((List.replicate (dg M64 p).length 0).map uu)
    have tx : TRow S0 (.sl ix 0 (dg M64 p).length mx) (dg M64 p) (S2.new ((List.replicate (dg M64 p).length 0).map uu)) S2.nx := by
      obtain ⟨t, g1, g2, g3⟩ := x1'
      obtain ⟨k1, k2⟩ := g3.keep r2 ((List.replicate (dg M64 p).length 0).map uu)
      exact Wd.trow (S := S2.new ((List.replicate (dg M64 p).length 0).map uu)) ⟨t, g1, g2, k1⟩ k2
    have ty : TRow S0 (.sl iy 0 1 my) [q] (S2.new ((List.replicate (dg M64 p).length 0).map uu)) S2.nx := by
      obtain ⟨t, g1, g2, g3⟩ := y1'
      obtain ⟨k1, k2⟩ := g3.keep r2 ((List.replicate (dg M64 p).length 0).map uu)
      exact Wd.trow (S := S2.new ((List.replicate (dg M64 p).length 0).map uu)) ⟨t, g1, g2, k1⟩ k2
    have g0 : ∀ j, (List.replicate (dg M64 p).length 0).getD j 0 = 0 := fun j => by
      rw [List.getD_eq_getElem?_getD, List.getElem?_replicate]; split <;> rfl
    obtain ⟨S3, W, z1, z2, z3, z4, z5, z6, z7⟩ := dd_loop (io := S2.nx) h0 hq dX rfl (by omega) 1000000 (dg M64 p).length _ (List.replicate (dg M64 p).length 0) .other (Nat.le_refl _) (by omega) r3 (Own.new r2 _) tx ty (by simp) (fun z hz => by rw [(List.mem_replicate.1 hz).2]; decide) (fun i _ => g0 i) (by rw [ofL_rep, List.drop_length]; simp [ofL])
    have hw : Wd S0 S3 S2.nx (dg M64 p).length W := ⟨[], by simpa using z3, by omega, by simpa using z2⟩
    obtain ⟨t1, t2⟩ := hw.trim z4
    rw [ofL_dg (by decide)] at z5
    rw [z5] at t1 t2
    rw [z3] at t2
    have r4 := z1.new [uu (p % q)]
    have hpq : p % q < M64 := Nat.lt_trans (Nat.mod_lt _ h0) hqM
    have hv : Wd S0 (S3.new [uu (p % q)]) S3.nx 1 [p % q] := ⟨[], rfl, by decide, Own.new z1 [uu (p % q)]⟩
    obtain ⟨u1, u2⟩ := hv.trim (fun z hz => by rw [List.mem_singleton.1 hz]; exact hpq)
    rw [show ofL M64 [p % q] = p % q by simp [ofL]] at u1 u2
    have t1' := t1.keep fun q' ds h => (h.keep z1 [uu (p % q)]).1
    have dZ : ∀ z ∈ dg M64 (p / q), z < M64 := dg_lt (by decide) _
    have dU : ∀ z ∈ dg M64 (p % q), z < M64 := dg_lt (by decide) _
    have lz' : (dg M64 (p / q)).length ≤ 100000 := by have := t1.len; omega
    have lu : (dg M64 (p % q)).length ≤ 100000 := by have := u1.len; omega
    obtain ⟨S5, p1, p2, p3⟩ := epack_run t1' r4 lz' dZ
    obtain ⟨S6, s1, s2, s3⟩ := epack_run (u1.keep p2) p1 lu dU
    rw [ofL_dg (by decide)] at p3 s3
    have ey : (dg M64 q).length = 1 := by rw [dg_small h0 hqM]; rfl
    refine ⟨S6, s1, fun k => ?_⟩
    refine nd_go (a := .sl ix 0 (dg M64 p).length mx) (b := .sl iy 0 (dg M64 q).length my) (d := .sl S2.nx 0 (dg M64 (p / q)).length (dg M64 p).length) (g := .sl S3.nx 0 (dg M64 (p % q)).length 1) (S1 := S1) (S2 := S2) (S3 := S3.new [uu (p % q)]) (S4 := S5) (h1 := x3) (h2 := y3) (h3 := fun c => ?_) (h4 := p3) (h5 := s3) ..
    unfold F142x G142
    rw [C142_eq, dd_head (a := cmpV p q) (b := nn 1) (d := nn (dg M64 p).length) (g := vk (dg M64 p).length) (o := .sl S2.nx 0 (dg M64 p).length (dg M64 p).length) (w4 := nn (M64 - 1)) (w5 := .b false) (w7 := uu (p % q)) (r := .sl S2.nx 0 (dg M64 (p / q)).length (dg M64 p).length) (s := .sl S3.nx 0 1 1) (t := .sl S3.nx 0 (dg M64 (p % q)).length 1) (S1 := S2.new ((List.replicate (dg M64 p).length 0).map uu)) (S2 := S3) (S3 := S3.new [uu (p % q)])
      (h1 := hcmp) (h2 := fun c => by
        unfold cmpV
        rw [if_neg hlt]
        split
        · rw [lss_n (by omega) (by omega)]; rfl
        · rw [lss_n (by omega) (by omega)]; rfl) (h3 := fun c => (y1.row.len.1 c).trans (by rw [ey])) (h4 := fun c => by rw [eql_n]; rfl) (h5 := x1'.row.len.1) (h6 := fun c => mks_u (by omega) S2 c) (h7 := fun c => vk_sub _ (by omega) c) (hL := fun kn kx kr => ?_) (h8 := t2) (h9 := fun c => kbsl_eq (kd := .u64) 0 (p % q) S3 c) (h10 := u2)]
    obtain ⟨kx', e1, e2⟩ := block_loop_at 0 (B142 F171x) kn kx kr
    rw [List.drop_length, ofL_dg (by decide)] at z7
    rw [e2, ey, ← e1]
    exact z7 kx' kr ..
open Classical in
def E102 : List V → Option V
  | [.s a, .s b] => if (∃ p, a = strN p) ∧ (∃ q, b = strN q) ∧ 0 < U.val b ∧ U.val b ≤ 64 ∧ a.length ≤ 50000 then some (.tu [.s (strN (U.val a / U.val b)), .s (strN (U.val a % U.val b))]) else none
  | _ => none
def F102t : Gn 2 := cur 2 (pureF E102)
theorem K102t : FOK Tryz.prog 102 (un 2 F102t) := cur_ok 2 (pure_ok K102x E102 fun vs v hv => by
  unfold E102 at hv
  split at hv
  · split at hv
    · rename_i a b hc
      obtain ⟨⟨p, rfl⟩, ⟨q, rfl⟩, hq, hq2, l1⟩ := hc
      cases hv
      rw [val_strN] at hq hq2
      obtain ⟨S', _, z⟩ := ndiv_run l1 hq hq2 mkS_run
      rw [val_strN, val_strN]
      exact ⟨by rfl, by rfl, S', by rw [un2p]; exact z _⟩
    · cases hv
  · cases hv)
theorem ndiv_eq {p q : Nat} (hq : 0 < q) (hq2 : q ≤ 64) (l1 : (strN p).length ≤ 50000) (S : St) (k : Cont) : F102t (.s (strN p)) (.s (strN q)) S k = k (.tu [.s (strN (p / q)), .s (strN (p % q))]) S := by
  have e : E102 [.s (strN p), .s (strN q)] = some (.tu [.s (strN (p / q)), .s (strN (p % q))]) := by
    unfold E102
    simp only []
    rw [if_pos ⟨⟨p, rfl⟩, ⟨q, rfl⟩, by rw [val_strN]; exact hq, by rw [val_strN]; exact hq2, l1⟩, val_strN, val_strN]
  show pureF E102 [.s (strN p), .s (strN q)] S k = _
  simp only [pureF, e]
end
end Go.AM

/- exact.IntMake, IntAdd, IntMul, IntOf, IntPow, IntDivMod: pure texts on integers. -/
namespace Go.AM
open Go.Proofs
open Go.AM.Q
open Go.AM.U
set_option linter.unusedVariables false
set_option linter.unusedSimpArgs false
set_option maxRecDepth 100000
noncomputable section
variable {out : V × St}
theorem mk95 (s : Bool) (n : Nat) : ∃ S2, F95 (.b s) (.s (strN n)) (mkS []) (fun v S => some (v, S)) = some (mkI s n, S2) := by
  cases s with
  | false => exact ⟨_, rfl⟩
  | true =>
    by_cases h : n = 0
    · subst h; exact ⟨_, rfl⟩
    · have e : ∃ x l, strN n = x :: l := by
        cases hs : strN n with
        | nil => exact absurd ((strN_len0 n).1 (by rw [hs]; rfl)) h
        | cons x l => exact ⟨x, l, rfl⟩
      obtain ⟨x, l, e⟩ := e
      unfold mkI
      rw [e, decide_eq_true h]
      exact ⟨_, rfl⟩
def F95t : Gn 2 := cur 2 (pureF E62)
theorem K95t : FOK Tryz.prog 95 (un 2 F95t) := cur_ok 2 (pureS_ok K95 E62 fun vs v hv => by
  unfold E62 at hv
  split at hv
  · split at hv
    · rename_i s a hc
      obtain ⟨n, rfl⟩ := hc
      cases hv
      rw [val_strN]
      obtain ⟨S2, z⟩ := mk95 s n
      exact ⟨by rfl, by rfl, S2, by rw [un2p]; exact z⟩
    · cases hv
  · cases hv)
theorem imake_eq (s : Bool) (n : Nat) (S : St) (k : Cont) : F95t (.b s) (.s (strN n)) S k = k (iv (if s then -(n : Int) else n)) S := make_eq s n S k
/- IntAdd -/
section
variable (f95 f96 f97 f98 : Gn 2) (la lb lc : List Nat) (r g : V) (u w : Bool)
theorem run46e (s : Bool) (hr : r = .ag [.b u, .s lc]) (h96 : ∀ S k, f96 (.s la) (.s lb) S k = k (.s lc) S) (h95 : ∀ S k, f95 (.b s) (.s lc) S k = k r S) :
    ∃ S2, G46 (C46 f95 f96 f97 f98) (.ag [.b s, .s la]) (.ag [.b s, .s lb]) (mkS []) (fun v S => some (v, S)) = some (r, S2) := by
  subst hr
  cases s <;> (refine ⟨?_, ?_⟩; rotate_left; (show f96 (.s la) (.s lb) _ _ = _); rw [h96]; (show f95 _ (.s lc) _ _ = _); rw [h95]; rfl)
theorem run46l (s : Bool) (hr : r = .ag [.b u, .s lc]) (h97 : ∀ S k, f97 (.s la) (.s lb) S k = k g S) (hg : ∀ c, pLss g (nn 0) c = c (.b true)) (h98 : ∀ S k, f98 (.s lb) (.s la) S k = k (.s lc) S) (h95 : ∀ S k, f95 (.b (Bool.not s)) (.s lc) S k = k r S) :
    ∃ S2, G46 (C46 f95 f96 f97 f98) (.ag [.b s, .s la]) (.ag [.b (Bool.not s), .s lb]) (mkS []) (fun v S => some (v, S)) = some (r, S2) := by
  subst hr
  cases s <;> (refine ⟨?_, ?_⟩; rotate_left; (show f97 (.s la) (.s lb) _ _ = _); rw [h97]; (show pLss g (nn 0) _ = _); rw [hg]; (show f98 (.s lb) (.s la) _ _ = _); rw [h98]; (show f95 _ (.s lc) _ _ = _); rw [h95]; rfl)
theorem run46g (s : Bool) (hr : r = .ag [.b u, .s lc]) (h97 : ∀ S k, f97 (.s la) (.s lb) S k = k g S) (hg : ∀ c, pLss g (nn 0) c = c (.b false)) (h98 : ∀ S k, f98 (.s la) (.s lb) S k = k (.s lc) S) (h95 : ∀ S k, f95 (.b s) (.s lc) S k = k r S) :
    ∃ S2, G46 (C46 f95 f96 f97 f98) (.ag [.b s, .s la]) (.ag [.b (Bool.not s), .s lb]) (mkS []) (fun v S => some (v, S)) = some (r, S2) := by
  subst hr
  cases s <;> (refine ⟨?_, ?_⟩; rotate_left; (show f97 (.s la) (.s lb) _ _ = _); rw [h97]; (show pLss g (nn 0) _ = _); rw [hg]; (show f98 (.s la) (.s lb) _ _ = _); rw [h98]; (show f95 _ (.s lc) _ _ = _); rw [h95]; rfl)
end
def F46x : Gn 2 := G46 (C46 F95t F96t F97 F98t)
theorem K46x : FOK Tryz.prog 46 (un 2 F46x) := fokP (.cons K95t (.cons K96t (.cons K97 (.cons K98t .nil)))) .nil hm Tryz.func46 (by kernel_rfl) (D46 F95t F96t F97 F98t) (H46 _)
def F46t : Gn 2 := cur 2 (pureF (DI2 (· + ·) (Short 50000)))
theorem K46t : FOK Tryz.prog 46 (un 2 F46t) := DI2_ok K46x fun a b h => by
  show ∃ S2, F46x (iv a) (iv b) (mkS []) (fun v S => some (v, S)) = some (iv (a + b), S2)
  have hl1 := h.1
  have hl2 := h.2
  by_cases hs : (a < 0) ↔ (b < 0)
  · have e : decide (b < 0) = decide (a < 0) := decide_eq_decide.2 hs.symm
    have hn : (a + b).natAbs = a.natAbs + b.natAbs := by omega
    rw [iv_ag a, iv_ag b, e]
    exact run46e F95t F96t F97 F98t _ _ (strN (a.natAbs + b.natAbs)) (iv (a + b)) (decide (a + b < 0)) _ (by rw [iv_ag, hn]) (fun S k => E2_eq (by omega) (by omega) S k) (fun S k => by
      rw [imake_eq]
      congr 2
      by_cases ha : a < 0
      · rw [decide_eq_true ha, if_pos rfl]; omega
      · rw [decide_eq_false ha, if_neg (by simp)]; omega)
  · have e : decide (b < 0) = Bool.not (decide (a < 0)) := by
      by_cases ha : a < 0 <;> by_cases hb : b < 0
      · exact absurd ⟨fun _ => hb, fun _ => ha⟩ hs
      · rw [decide_eq_true ha, decide_eq_false hb]; rfl
      · rw [decide_eq_false ha, decide_eq_true hb]; rfl
      · exact absurd ⟨fun h => absurd h ha, fun h => absurd h hb⟩ hs
    have hcmp : ∀ S k, F97 (.s (strN a.natAbs)) (.s (strN b.natAbs)) S k = k (cmpV a.natAbs b.natAbs) S := fun S k => ncmp_run (by omega) (by omega) S k
    rw [iv_ag a, iv_ag b, e]
    by_cases hlt : a.natAbs < b.natAbs
    · have hn : (a + b).natAbs = b.natAbs - a.natAbs := by omega
      refine run46l F95t F96t F97 F98t _ _ (strN (b.natAbs - a.natAbs)) (iv (a + b)) (cmpV a.natAbs b.natAbs) (decide (a + b < 0)) _ (by rw [iv_ag, hn]) hcmp (fun c => by unfold cmpV; rw [if_pos hlt]; exact lss_neg1 c) (fun S k => E2p_eq (by omega) (by omega) (by omega) S k) (fun S k => ?_)
      rw [imake_eq, ← e]
      congr 2
      by_cases hb : b < 0
      · rw [decide_eq_true hb, if_pos rfl]; omega
      · rw [decide_eq_false hb, if_neg (by simp)]; omega
    · have hn : (a + b).natAbs = a.natAbs - b.natAbs := by omega
      refine run46g F95t F96t F97 F98t _ _ (strN (a.natAbs - b.natAbs)) (iv (a + b)) (cmpV a.natAbs b.natAbs) (decide (a + b < 0)) _ (by rw [iv_ag, hn]) hcmp (fun c => ?_) (fun S k => E2p_eq (by omega) (by omega) (by omega) S k) (fun S k => ?_)
      · unfold cmpV
        rw [if_neg hlt]
        split
        · rw [lss_n (by omega) (by omega)]; rfl
        · rw [lss_n (by omega) (by omega)]; rfl
      · rw [imake_eq]
        congr 2
        by_cases ha : a < 0
        · rw [decide_eq_true ha, if_pos rfl]; omega
        · rw [decide_eq_false ha, if_neg (by simp)]; omega
theorem eadd_eq {a b : Int} (h : Short 50000 a b) (S : St) (k : Cont) : F46t (iv a) (iv b) S k = k (iv (a + b)) S := DI2_eq h S k
/- IntMul -/
theorem run47 (f95 f99 : Gn 2) (s t : Bool) (la lb lc : List Nat) (r : V) (u : Bool) (hr : r = .ag [.b u, .s lc]) (h99 : ∀ S k, f99 (.s la) (.s lb) S k = k (.s lc) S) (h95 : ∀ S k, f95 (.b (Bool.xor s t)) (.s lc) S k = k r S) :
    ∃ S2, G47 (C47 f95 f99) (.ag [.b s, .s la]) (.ag [.b t, .s lb]) (mkS []) (fun v S => some (v, S)) = some (r, S2) := by
  subst hr
  cases s <;> cases t <;> (first | (change ∀ S k, f95 (.b false) (.s lc) S k = k _ S at h95) | (change ∀ S k, f95 (.b true) (.s lc) S k = k _ S at h95)) <;> (refine ⟨?_, ?_⟩; rotate_left; (show f99 (.s la) (.s lb) _ _ = _); rw [h99]; (show f95 _ (.s lc) _ _ = _); rw [h95]; rfl)
def F47x : Gn 2 := G47 (C47 F95t F99t)
theorem K47x : FOK Tryz.prog 47 (un 2 F47x) := fokP (.cons K95t (.cons K99t .nil)) .nil hm Tryz.func47 (by kernel_rfl) (D47 F95t F99t) (H47 _)
def F47t : Gn 2 := cur 2 (pureF (DI2 (· * ·) (Short 50000)))
theorem nmul_eq {a b : Nat} (ha : (strN a).length ≤ 50000) (hb : (strN b).length ≤ 50000) (S : St) (k : Cont) : F99t (.s (strN a)) (.s (strN b)) S k = k (.s (strN (a * b))) S := E2_eq ha hb S k
theorem K47t : FOK Tryz.prog 47 (un 2 F47t) := DI2_ok K47x fun a b h =>
  run47 F95t F99t _ _ _ _ (strN (a.natAbs * b.natAbs)) (iv (a * b)) _ (natAbs_mk a b) (fun S k => nmul_eq h.1 h.2 S k) (fun S k => by rw [imake_eq, sgn_mul])
theorem emul_eq {a b : Int} (h : Short 50000 a b) (S : St) (k : Cont) : F47t (iv a) (iv b) S k = k (iv (a * b)) S := DI2_eq h S k
/- IntOf -/
theorem run48 (f100 : Gn 1) (v x : V) (l : List Nat) (h1 : ∀ c, pLss v (nn 0) c = c (.b false)) (h2 : ∀ c, pConv .u64 v c = c x) (h100 : ∀ S k, f100 x S k = k (.s l) S) :
    ∃ S2, G48 (C48 f100) v (mkS []) (fun v S => some (v, S)) = some (.ag [.b false, .s l], S2) := by
  refine ⟨?_, ?_⟩
  rotate_left
  · show pLss v (nn 0) _ = _
    rw [h1]
    show pConv .u64 v _ = _
    rw [h2]
    show f100 x _ _ = _
    rw [h100]; rfl
theorem run48n (f100 : Gn 1) (v a x : V) (l : List Nat) (h1 : ∀ c, pLss v (nn 0) c = c (.b true)) (h2 : ∀ c, pConv .u64 v c = c a) (h3 : ∀ c, pNeg a c = c x) (h100 : ∀ S k, f100 x S k = k (.s l) S) :
    ∃ S2, G48 (C48 f100) v (mkS []) (fun v S => some (v, S)) = some (.ag [.b true, .s l], S2) := by
  refine ⟨?_, ?_⟩
  rotate_left
  · show pLss v (nn 0) _ = _
    rw [h1]
    show pConv .u64 v _ = _
    rw [h2]
    show pNeg a _ = _
    rw [h3]
    show f100 x _ _ = _
    rw [h100]; rfl
def F48x : Gn 1 := G48 (C48 F100t)
theorem K48x : FOK Tryz.prog 48 (un 1 F48x) := fokP (.cons K100t .nil) .nil hm Tryz.func48 (by kernel_rfl) (D48 F100t) (H48 _)
theorem conv64n {k : Nat} (h1 : 9223372036854775808 ≤ k) (hk : k < 18446744073709551616) (c : V → R) : pConv .u64 (nn k) c = c (uu k) := by
  show retI c .u64 (cvI .i64 .u64 k) = _
  rw [retI_eq]
  have hn : neg .i64 k = true := by
    show Nat.ble 9223372036854775808 k = true
    exact Nat.ble_eq_true_of_le h1
  have : cvI .i64 .u64 k = k := by
    unfold cvI
    rw [hn]
    show (k + 18446744073709551616 * 18446744073709551616 - 18446744073709551616) % 18446744073709551616 = k
    omega
  rw [this]
theorem neg_u (a : Nat) (c : V → R) : pNeg (uu a) c = c (uu ((18446744073709551616 - a) % 18446744073709551616)) := by
  have e : pNeg (uu a) c = retI c .u64 (Nat.mod (Nat.sub (M .u64) a) (M .u64)) := by rfl
  rw [e, retI_eq]; rfl
theorem of48_run {k : Nat} (hk : k < 18446744073709551616) : ∃ S2, F48x (nn k) (mkS []) (fun v S => some (v, S)) = some (iv (mi k), S2) := by
  unfold F48x mi
  by_cases h : k < 9223372036854775808
  · rw [if_pos h, iv_ag, decide_eq_false (by omega), Int.natAbs_natCast]
    exact run48 F100t _ (uu k) _ (fun c => by rw [lss_n h (by omega)]; rfl) (fun c => conv64 h c) (fun S k => nof_eq (by omega) S k)
  · have hn : ((k : Int) - 18446744073709551616).natAbs = (18446744073709551616 - k) % 18446744073709551616 := by
      obtain ⟨d, rfl⟩ : ∃ d, k = 18446744073709551616 - d := ⟨18446744073709551616 - k, by omega⟩
      rw [Nat.mod_eq_of_lt (by omega)]
      omega
    rw [if_neg h, iv_ag, decide_eq_true (by omega), hn]
    exact run48n F100t _ (uu k) _ _ (fun c => by
      rw [pLss_i, blt_eq]
      have : sh .i64 k < 9223372036854775808 := by
        show (k + 9223372036854775808) % 18446744073709551616 < _
        omega
      rw [decide_eq_true (show sh .i64 k < sh .i64 0 from this)]) (fun c => conv64n (by omega) hk c) (fun c => neg_u k c) (fun S k => nof_eq (Nat.mod_lt _ (by decide)) S k)
def F48t : Gn 1 := cur 1 (pureF E20)
theorem K48t : FOK Tryz.prog 48 (un 1 F48t) := cur_ok 1 (pureS_ok K48x E20 fun vs v hv => by
  unfold E20 at hv
  split at hv
  · split at hv
    · rename_i k hk
      cases hv
      obtain ⟨S2, z⟩ := of48_run hk
      exact ⟨by rfl, by rfl, S2, by rw [un1p]; exact z⟩
    · cases hv
  · cases hv)
theorem eof_eq {k : Nat} (hk : k < 18446744073709551616) (S : St) (c : Cont) : F48t (nn k) S c = c (iv (mi k)) S := from_eq hk S c
/- IntPow of a number that is not negative -/
theorem run50 (f95 f101 : Gn 2) (la lc : List Nat) (v r : V) (u : Bool) (hr : r = .ag [.b u, .s lc]) (h101 : ∀ S k, f101 (.s la) v S k = k (.s lc) S) (h95 : ∀ S k, f95 (.b false) (.s lc) S k = k r S) :
    ∃ S2, G50 (C50 f95 f101) (.ag [.b false, .s la]) v (mkS []) (fun v S => some (v, S)) = some (r, S2) := by
  subst hr
  refine ⟨?_, ?_⟩
  rotate_left
  · show f101 (.s la) v _ _ = _
    rw [h101]
    show f95 _ (.s lc) _ _ = _
    rw [h95]; rfl
def F50x : Gn 2 := G50 (C50 F95t F101t)
theorem K50x : FOK Tryz.prog 50 (un 2 F50x) := fokP (.cons K95t (.cons K101t .nil)) .nil hm Tryz.func50 (by kernel_rfl) (D50 F95t F101t) (H50 _)
def F50t : Gn 2 := cur 2 (pureF E19)
theorem K50t : FOK Tryz.prog 50 (un 2 F50t) := cur_ok 2 (pureS_ok K50x E19 fun vs v hv => by
  unfold E19 at hv
  split at hv
  · rename_i hx
    cases hv
    obtain ⟨e, h1, h2⟩ := hx.choose_spec
    obtain ⟨S2, z⟩ := run50 F95t F101t (strN hx.choose.1) (strN (hx.choose.1 ^ hx.choose.2)) (nn hx.choose.2) (iv ((hx.choose.1 ^ hx.choose.2 : Nat) : Int)) false (iv_nat _) (fun S k => npow_eq h2 h1 S k) (fun S k => by rw [imake_eq, if_neg (by simp)])
    refine ⟨(congrArg plL e).trans rfl, rfl, S2, (congrArg (fun l => un 2 F50x l (mkS []) (fun v S => some (v, S))) e).trans ?_⟩
    rw [un2p, iv_nat]; exact z
  · cases hv)
theorem epow_eq {a k : Nat} (hk : k < 1000) (ha : (strN a).length ≤ 16) (S : St) (c : Cont) : F50t (iv (a : Int)) (nn k) S c = c (iv ((a ^ k : Nat) : Int)) S := ipow_eq hk ha S c
/- IntDivMod by 1 .. 64 -/
section
variable (f95 f96 f98 : Gn 2) (f100 : Gn 1) (f102 : Gn 2) (la lb lq lr lo lq' lr' : List Nat) (rq : V) (u : Bool)
theorem run51p (hr : rq = .ag [.b u, .s lq]) (h102 : ∀ S k, f102 (.s la) (.s lb) S k = k (.tu [.s lq, .s lr]) S) (h95 : ∀ S k, f95 (.b false) (.s lq) S k = k rq S) :
    ∃ S2, G51 (C51 f95 f96 f98 f100 f102) (.ag [.b false, .s la]) (.ag [.b false, .s lb]) (mkS []) (fun v S => some (v, S)) = some (.tu [rq, .ag [.b false, .s lr]], S2) := by
  subst hr
  refine ⟨?_, ?_⟩
  rotate_left
  · show f102 (.s la) (.s lb) _ _ = _
    rw [h102]
    show f95 _ (.s lq) _ _ = _
    rw [h95]; rfl
theorem run51z (hr : rq = .ag [.b u, .s lq]) (h102 : ∀ S k, f102 (.s la) (.s lb) S k = k (.tu [.s lq, .s []]) S) (h95 : ∀ S k, f95 (.b true) (.s lq) S k = k rq S) :
    ∃ S2, G51 (C51 f95 f96 f98 f100 f102) (.ag [.b true, .s la]) (.ag [.b false, .s lb]) (mkS []) (fun v S => some (v, S)) = some (.tu [rq, .ag [.b false, .s []]], S2) := by
  subst hr
  refine ⟨?_, ?_⟩
  rotate_left
  · show f102 (.s la) (.s lb) _ _ = _
    rw [h102]
    show f95 _ (.s lq) _ _ = _
    rw [h95]; rfl
theorem run51n (hr : rq = .ag [.b u, .s lq']) (h102 : ∀ S k, f102 (.s la) (.s lb) S k = k (.tu [.s lq, .s lr]) S) (hne : ∀ c, pEqS false (.s lr) (.s []) c = c (.b true)) (h100 : ∀ S k, f100 (uu 1) S k = k (.s lo) S) (h96 : ∀ S k, f96 (.s lq) (.s lo) S k = k (.s lq') S)
    (h98 : ∀ S k, f98 (.s lb) (.s lr) S k = k (.s lr') S) (h95 : ∀ S k, f95 (.b true) (.s lq') S k = k rq S) :
    ∃ S2, G51 (C51 f95 f96 f98 f100 f102) (.ag [.b true, .s la]) (.ag [.b false, .s lb]) (mkS []) (fun v S => some (v, S)) = some (.tu [rq, .ag [.b false, .s lr']], S2) := by
  subst hr
  refine ⟨?_, ?_⟩
  rotate_left
  · show f102 (.s la) (.s lb) _ _ = _
    rw [h102]
    show pEqS false (.s lr) (.s []) _ = _
    rw [hne]
    show f100 (uu 1) _ _ = _
    rw [h100]
    show f96 (.s lq) (.s lo) _ _ = _
    rw [h96]
    show f98 (.s lb) (.s lr) _ _ = _
    rw [h98]
    show f95 _ (.s lq') _ _ = _
    rw [h95]; rfl
end
def F51x : Gn 2 := G51 (C51 F95t F96t F98t F100t F102t)
theorem K51x : FOK Tryz.prog 51 (un 2 F51x) := fokP (.cons K95t (.cons K96t (.cons K98t (.cons K100t (.cons K102t .nil))))) .nil hm Tryz.func51 (by kernel_rfl) (D51 F95t F96t F98t F100t F102t) (H51 _)
theorem ediv_run {a b : Int} (hb : 0 < b) (hb2 : b ≤ 64) (h1 : (strN a.natAbs).length ≤ 40000) : ∃ S2, F51x (iv a) (iv b) (mkS []) (fun v S => some (v, S)) = some (.tu [iv (a / b), iv (a % b)], S2) := by
  obtain ⟨d, rfl⟩ : ∃ d : Nat, b = (d : Int) := ⟨b.natAbs, by omega⟩
  have hd : 0 < d := by omega
  have hd2 : d ≤ 64 := by omega
  have h2 : (strN d).length ≤ 8 := strN_len (Nat.lt_of_le_of_lt hd2 (by decide))
  by_cases ha : a < 0
  · obtain ⟨n, hn, rfl⟩ : ∃ n : Nat, 0 < n ∧ a = -(n : Int) := ⟨a.natAbs, by omega, by omega⟩
    rw [Int.natAbs_neg, Int.natAbs_natCast] at h1
    obtain ⟨e1, e2⟩ := neg_ediv n d hd
    have hq := strN_mono (Nat.div_le_self n d)
    have hr := strN_mono (Nat.le_of_lt (Nat.mod_lt n hd))
    rw [e1, e2, iv_neg hn, iv_nat]
    by_cases h0 : n % d = 0
    · rw [if_pos h0, if_pos h0, Nat.add_zero]
      exact run51z F95t F96t F98t F100t F102t (strN n) (strN d) (strN (n / d)) _ (decide (-((n / d : Nat) : Int) < 0)) (by rw [iv_ag, Int.natAbs_neg, Int.natAbs_natCast]) (fun S k => by rw [ndiv_eq hd hd2 (by omega), h0]; rfl) (fun S k => by rw [imake_eq, if_pos rfl])
    · rw [if_neg h0, if_neg h0, iv_nat]
      have hs0 : strN (n % d) ≠ [] := fun e => by
        have := (strN_len0 (n % d)).1 (by rw [e]; rfl)
        exact h0 this
      have h1' : (strN 1).length ≤ 50000 := by decide
      have hrd : n % d ≤ d := Nat.le_of_lt (Nat.mod_lt n hd)
      exact run51n F95t F96t F98t F100t F102t (strN n) (strN d) (strN (n / d)) (strN (n % d)) (strN 1) (strN (n / d + 1)) (strN (d - n % d)) _ (decide (-((n / d + 1 : Nat) : Int) < 0)) (by rw [iv_ag, Int.natAbs_neg, Int.natAbs_natCast]) (fun S k => by rw [ndiv_eq hd hd2 (by omega)])
        (fun c => by rw [eqSf_eq, decide_eq_true hs0]) (fun S k => nof_eq (by decide) S k) (fun S k => E2_eq (op := (· + ·)) (by omega) (by omega) S k) (fun S k => E2p_eq (op := (· - ·)) (C := fun a b => b ≤ a) (by omega) (by omega) hrd S k) (fun S k => by rw [imake_eq, if_pos rfl])
  · obtain ⟨n, rfl⟩ : ∃ n : Nat, a = (n : Int) := ⟨a.natAbs, by omega⟩
    rw [Int.natAbs_natCast] at h1
    rw [← Int.natCast_ediv, ← Int.natCast_emod, iv_nat, iv_nat, iv_nat (n % d)]
    exact run51p F95t F96t F98t F100t F102t (strN n) (strN d) (strN (n / d)) (strN (n % d)) _ false (iv_nat _) (fun S k => by rw [ndiv_eq hd hd2 (by omega)]) (fun S k => by rw [imake_eq, if_neg (by simp)])
open Classical in
def E51 : List V → Option V := fun vs => if h : ∃ ab : Int × Int, vs = [iv ab.1, iv ab.2] ∧ 0 < ab.2 ∧ ab.2 ≤ 64 ∧ (strN ab.1.natAbs).length ≤ 40000 then some (.tu [iv (h.choose.1 / h.choose.2), iv (h.choose.1 % h.choose.2)]) else none
def F51t : Gn 2 := cur 2 (pureF E51)
theorem K51t : FOK Tryz.prog 51 (un 2 F51t) := cur_ok 2 (pureS_ok K51x E51 fun vs v hv => by
  unfold E51 at hv
  split at hv
  · rename_i hx
    cases hv
    obtain ⟨e, h1, h2, h3⟩ := hx.choose_spec
    obtain ⟨S2, z⟩ := ediv_run h1 h2 h3
    exact ⟨(congrArg plL e).trans rfl, rfl, S2, (congrArg (fun l => un 2 F51x l (mkS []) (fun v S => some (v, S))) e).trans z⟩
  · cases hv)
theorem ediv_eq {a b : Int} (hb : 0 < b) (hb2 : b ≤ 64) (h1 : (strN a.natAbs).length ≤ 40000) (S : St) (k : Cont) : F51t (iv a) (iv b) S k = k (.tu [iv (a / b), iv (a % b)]) S := by
  have e : E51 [iv a, iv b] = some (.tu [iv (a / b), iv (a % b)]) := by
    have hx : ∃ ab : Int × Int, [iv a, iv b] = [iv ab.1, iv ab.2] ∧ 0 < ab.2 ∧ ab.2 ≤ 64 ∧ (strN ab.1.natAbs).length ≤ 40000 := ⟨(a, b), rfl, hb, hb2, h1⟩
    unfold E51
    rw [dif_pos hx]
    have h1 := hx.choose_spec.1
    injection h1 with h2 h3
    injection h3 with h4 _
    rw [← iv_inj h2, ← iv_inj h4]
  show pureF E51 [iv a, iv b] S k = _
  simp only [pureF, e]
end
end Go.AM
