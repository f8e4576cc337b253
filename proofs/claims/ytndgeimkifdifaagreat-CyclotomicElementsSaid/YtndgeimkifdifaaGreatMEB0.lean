/- Cyclotomic polynomials and units, by their runs. -/
import Derived.Test.YtndgeimkifdifaaGreatMEA
set_option maxRecDepth 1000000
set_option linter.unusedVariables false
namespace Go.AM
open Go.Proofs
noncomputable section
def Qp (l : List Nat) (r : List V) : List V := .b false :: .s l :: .s [1] :: r
def Qm (l : List Nat) (r : List V) : List V := .b true :: .s l :: .s [1] :: r
def Qz (r : List V) : List V := .b false :: .s [] :: .s [1] :: r
def Q1 (r : List V) : List V := .b false :: .s [1] :: .s [1] :: r
def ey0 : List V := (Qm [1] (Q1 []))
def ey1 : List V := (Q1 (Q1 []))
def ey2 : List V := (Q1 (Q1 (Q1 [])))
def ey3 : List V := (Q1 (Qz (Q1 [])))
def ey4 : List V := [(.i .i64 1), (.i .i64 1), (.i .i64 1), (.i .i64 1), (.i .i64 1)]
def ey5 : List V := (Q1 (Q1 (Q1 (Q1 (Q1 [])))))
def ey6 : List V := (Q1 (Qm [1] (Q1 [])))
def ey7 : List V := [(.i .i64 1), (.i .i64 1), (.i .i64 1), (.i .i64 1), (.i .i64 1), (.i .i64 1), (.i .i64 1)]
def ey8 : List V := [(.i .i64 1), (.i .i64 2), (.i .i64 3), (.i .i64 4), (.i .i64 5), (.i .i64 6)]
def ey9 : List V := (Q1 (Q1 (Q1 (Q1 (Q1 (Q1 (Q1 [])))))))
def ey10 : List V := [(.i .i64 1), (.i .i64 0), (.i .i64 0), (.i .i64 0), (.i .i64 1)]
def ey11 : List V := (Q1 (Qz (Qz (Qz (Q1 [])))))
def ey12 : List V := [(.i .i64 1), (.i .i64 0), (.i .i64 0), (.i .i64 1), (.i .i64 0), (.i .i64 0), (.i .i64 1)]
def ey13 : List V := [(.i .i64 1), (.i .i64 2), (.i .i64 4), (.i .i64 5), (.i .i64 7), (.i .i64 8)]
def ey14 : List V := (Q1 (Qz (Qz (Q1 (Qz (Qz (Q1 [])))))))
def ey15 : List V := [(.i .i64 1), (.i .i64 18446744073709551615), (.i .i64 1), (.i .i64 18446744073709551615), (.i .i64 1)]
def ey16 : List V := (Q1 (Qm [1] (Q1 (Qm [1] (Q1 [])))))
def ey17 : List V := [(.i .i64 1), (.i .i64 1), (.i .i64 1), (.i .i64 1), (.i .i64 1), (.i .i64 1), (.i .i64 1), (.i .i64 1), (.i .i64 1), (.i .i64 1), (.i .i64 1)]
def ey18 : List V := [(.i .i64 1), (.i .i64 2), (.i .i64 3), (.i .i64 4), (.i .i64 5), (.i .i64 6), (.i .i64 7), (.i .i64 8), (.i .i64 9), (.i .i64 10)]
def ey19 : List V := (Q1 (Q1 (Q1 (Q1 (Q1 (Q1 (Q1 (Q1 (Q1 (Q1 (Q1 [])))))))))))
def ey20 : List V := [(.i .i64 1), (.i .i64 0), (.i .i64 18446744073709551615), (.i .i64 0), (.i .i64 1)]
def ey21 : List V := (Q1 (Qz (Qm [1] (Qz (Q1 [])))))
def ey22 : List V := [(.i .i64 1), (.i .i64 1), (.i .i64 1), (.i .i64 1), (.i .i64 1), (.i .i64 1), (.i .i64 1), (.i .i64 1), (.i .i64 1), (.i .i64 1), (.i .i64 1), (.i .i64 1), (.i .i64 1)]
def ey23 : List V := [(.i .i64 1), (.i .i64 2), (.i .i64 3), (.i .i64 4), (.i .i64 5), (.i .i64 6), (.i .i64 7), (.i .i64 8), (.i .i64 9), (.i .i64 10), (.i .i64 11), (.i .i64 12)]
def ey24 : List V := (Q1 (Q1 (Q1 (Q1 (Q1 (Q1 (Q1 (Q1 (Q1 (Q1 (Q1 (Q1 (Q1 [])))))))))))))
def ey25 : List V := [(.i .i64 1), (.i .i64 18446744073709551615), (.i .i64 1), (.i .i64 18446744073709551615), (.i .i64 1), (.i .i64 18446744073709551615), (.i .i64 1)]
def ey26 : List V := [(.i .i64 1), (.i .i64 3), (.i .i64 5), (.i .i64 9), (.i .i64 11), (.i .i64 13)]
def ey27 : List V := (Q1 (Qm [1] (Q1 (Qm [1] (Q1 (Qm [1] (Q1 [])))))))
def ey28 : List V := [(.i .i64 1), (.i .i64 18446744073709551615), (.i .i64 0), (.i .i64 1), (.i .i64 18446744073709551615), (.i .i64 1), (.i .i64 0), (.i .i64 18446744073709551615), (.i .i64 1)]
def ey29 : List V := [(.i .i64 1), (.i .i64 2), (.i .i64 4), (.i .i64 7), (.i .i64 8), (.i .i64 11), (.i .i64 13), (.i .i64 14)]
def ey30 : List V := (Q1 (Qm [1] (Qz (Q1 (Qm [1] (Q1 (Qz (Qm [1] (Q1 [])))))))))
def ey31 : List V := [(.i .i64 1), (.i .i64 0), (.i .i64 0), (.i .i64 0), (.i .i64 0), (.i .i64 0), (.i .i64 0), (.i .i64 0), (.i .i64 1)]
def ey32 : List V := [(.i .i64 1), (.i .i64 3), (.i .i64 5), (.i .i64 7), (.i .i64 9), (.i .i64 11), (.i .i64 13), (.i .i64 15)]
def ey33 : List V := (Q1 (Qz (Qz (Qz (Qz (Qz (Qz (Qz (Q1 [])))))))))
def ey34 : List V := [(.i .i64 1), (.i .i64 1), (.i .i64 1), (.i .i64 1), (.i .i64 1), (.i .i64 1), (.i .i64 1), (.i .i64 1), (.i .i64 1), (.i .i64 1), (.i .i64 1), (.i .i64 1), (.i .i64 1), (.i .i64 1), (.i .i64 1), (.i .i64 1), (.i .i64 1)]
def ey35 : List V := [(.i .i64 1), (.i .i64 2), (.i .i64 3), (.i .i64 4), (.i .i64 5), (.i .i64 6), (.i .i64 7), (.i .i64 8), (.i .i64 9), (.i .i64 10), (.i .i64 11), (.i .i64 12), (.i .i64 13), (.i .i64 14), (.i .i64 15), (.i .i64 16)]
def ey36 : List V := (Q1 (Q1 (Q1 (Q1 (Q1 (Q1 (Q1 (Q1 (Q1 (Q1 (Q1 (Q1 (Q1 (Q1 (Q1 (Q1 (Q1 [])))))))))))))))))
def ey37 : List V := [(.i .i64 1), (.i .i64 0), (.i .i64 0), (.i .i64 18446744073709551615), (.i .i64 0), (.i .i64 0), (.i .i64 1)]
def ey38 : List V := [(.i .i64 1), (.i .i64 5), (.i .i64 7), (.i .i64 11), (.i .i64 13), (.i .i64 17)]
def ey39 : List V := (Q1 (Qz (Qz (Qm [1] (Qz (Qz (Q1 [])))))))
def ey40 : List V := [(.i .i64 1), (.i .i64 1), (.i .i64 1), (.i .i64 1), (.i .i64 1), (.i .i64 1), (.i .i64 1), (.i .i64 1), (.i .i64 1), (.i .i64 1), (.i .i64 1), (.i .i64 1), (.i .i64 1), (.i .i64 1), (.i .i64 1), (.i .i64 1), (.i .i64 1), (.i .i64 1), (.i .i64 1)]
def ey41 : List V := [(.i .i64 1), (.i .i64 2), (.i .i64 3), (.i .i64 4), (.i .i64 5), (.i .i64 6), (.i .i64 7), (.i .i64 8), (.i .i64 9), (.i .i64 10), (.i .i64 11), (.i .i64 12), (.i .i64 13), (.i .i64 14), (.i .i64 15), (.i .i64 16), (.i .i64 17), (.i .i64 18)]
def ey42 : List V := (Q1 (Q1 (Q1 (Q1 (Q1 (Q1 (Q1 (Q1 (Q1 (Q1 (Q1 (Q1 (Q1 (Q1 (Q1 (Q1 (Q1 (Q1 (Q1 [])))))))))))))))))))
def ey43 : List V := [(.i .i64 1), (.i .i64 0), (.i .i64 18446744073709551615), (.i .i64 0), (.i .i64 1), (.i .i64 0), (.i .i64 18446744073709551615), (.i .i64 0), (.i .i64 1)]
def ey44 : List V := [(.i .i64 1), (.i .i64 3), (.i .i64 7), (.i .i64 9), (.i .i64 11), (.i .i64 13), (.i .i64 17), (.i .i64 19)]
def ey45 : List V := (Q1 (Qz (Qm [1] (Qz (Q1 (Qz (Qm [1] (Qz (Q1 [])))))))))
def ey46 : List V := [(.i .i64 1), (.i .i64 18446744073709551615), (.i .i64 0), (.i .i64 1), (.i .i64 18446744073709551615), (.i .i64 0), (.i .i64 1), (.i .i64 0), (.i .i64 18446744073709551615), (.i .i64 1), (.i .i64 0), (.i .i64 18446744073709551615), (.i .i64 1)]
def ey47 : List V := [(.i .i64 1), (.i .i64 2), (.i .i64 4), (.i .i64 5), (.i .i64 8), (.i .i64 10), (.i .i64 11), (.i .i64 13), (.i .i64 16), (.i .i64 17), (.i .i64 19), (.i .i64 20)]
def ey48 : List V := (Q1 (Qm [1] (Qz (Q1 (Qm [1] (Qz (Q1 (Qz (Qm [1] (Q1 (Qz (Qm [1] (Q1 [])))))))))))))
def ey49 : List V := [(.i .i64 1), (.i .i64 18446744073709551615), (.i .i64 1), (.i .i64 18446744073709551615), (.i .i64 1), (.i .i64 18446744073709551615), (.i .i64 1), (.i .i64 18446744073709551615), (.i .i64 1), (.i .i64 18446744073709551615), (.i .i64 1)]
def ey50 : List V := [(.i .i64 1), (.i .i64 3), (.i .i64 5), (.i .i64 7), (.i .i64 9), (.i .i64 13), (.i .i64 15), (.i .i64 17), (.i .i64 19), (.i .i64 21)]
def ey51 : List V := (Q1 (Qm [1] (Q1 (Qm [1] (Q1 (Qm [1] (Q1 (Qm [1] (Q1 (Qm [1] (Q1 [])))))))))))
def ey52 : List V := [(.i .i64 1), (.i .i64 1), (.i .i64 1), (.i .i64 1), (.i .i64 1), (.i .i64 1), (.i .i64 1), (.i .i64 1), (.i .i64 1), (.i .i64 1), (.i .i64 1), (.i .i64 1), (.i .i64 1), (.i .i64 1), (.i .i64 1), (.i .i64 1), (.i .i64 1), (.i .i64 1), (.i .i64 1), (.i .i64 1), (.i .i64 1), (.i .i64 1), (.i .i64 1)]
def ey53 : List V := [(.i .i64 1), (.i .i64 2), (.i .i64 3), (.i .i64 4), (.i .i64 5), (.i .i64 6), (.i .i64 7), (.i .i64 8), (.i .i64 9), (.i .i64 10), (.i .i64 11), (.i .i64 12), (.i .i64 13), (.i .i64 14), (.i .i64 15), (.i .i64 16), (.i .i64 17), (.i .i64 18), (.i .i64 19), (.i .i64 20), (.i .i64 21), (.i .i64 22)]
def ey54 : List V := (Q1 (Q1 (Q1 (Q1 (Q1 (Q1 (Q1 (Q1 (Q1 (Q1 (Q1 (Q1 (Q1 (Q1 (Q1 (Q1 (Q1 (Q1 (Q1 (Q1 (Q1 (Q1 (Q1 [])))))))))))))))))))))))
def ey55 : List V := [(.i .i64 1), (.i .i64 0), (.i .i64 0), (.i .i64 0), (.i .i64 18446744073709551615), (.i .i64 0), (.i .i64 0), (.i .i64 0), (.i .i64 1)]
def ey56 : List V := [(.i .i64 1), (.i .i64 5), (.i .i64 7), (.i .i64 11), (.i .i64 13), (.i .i64 17), (.i .i64 19), (.i .i64 23)]
def ey57 : List V := (Q1 (Qz (Qz (Qz (Qm [1] (Qz (Qz (Qz (Q1 [])))))))))
def ey58 : List V := [(.i .i64 1), (.i .i64 0), (.i .i64 0), (.i .i64 0), (.i .i64 0), (.i .i64 1), (.i .i64 0), (.i .i64 0), (.i .i64 0), (.i .i64 0), (.i .i64 1), (.i .i64 0), (.i .i64 0), (.i .i64 0), (.i .i64 0), (.i .i64 1), (.i .i64 0), (.i .i64 0), (.i .i64 0), (.i .i64 0), (.i .i64 1)]
def ey59 : List V := [(.i .i64 1), (.i .i64 2), (.i .i64 3), (.i .i64 4), (.i .i64 6), (.i .i64 7), (.i .i64 8), (.i .i64 9), (.i .i64 11), (.i .i64 12), (.i .i64 13), (.i .i64 14), (.i .i64 16), (.i .i64 17), (.i .i64 18), (.i .i64 19), (.i .i64 21), (.i .i64 22), (.i .i64 23), (.i .i64 24)]
def ey60 : List V := (Q1 (Qz (Qz (Qz (Qz (Q1 (Qz (Qz (Qz (Qz (Q1 (Qz (Qz (Qz (Qz (Q1 (Qz (Qz (Qz (Qz (Q1 [])))))))))))))))))))))
def ey61 : List V := [(.i .i64 1), (.i .i64 18446744073709551615), (.i .i64 1), (.i .i64 18446744073709551615), (.i .i64 1), (.i .i64 18446744073709551615), (.i .i64 1), (.i .i64 18446744073709551615), (.i .i64 1), (.i .i64 18446744073709551615), (.i .i64 1), (.i .i64 18446744073709551615), (.i .i64 1)]
def ey62 : List V := [(.i .i64 1), (.i .i64 3), (.i .i64 5), (.i .i64 7), (.i .i64 9), (.i .i64 11), (.i .i64 15), (.i .i64 17), (.i .i64 19), (.i .i64 21), (.i .i64 23), (.i .i64 25)]
def ey63 : List V := (Q1 (Qm [1] (Q1 (Qm [1] (Q1 (Qm [1] (Q1 (Qm [1] (Q1 (Qm [1] (Q1 (Qm [1] (Q1 [])))))))))))))
def ey64 : List V := [(.i .i64 1), (.i .i64 0), (.i .i64 0), (.i .i64 0), (.i .i64 0), (.i .i64 0), (.i .i64 0), (.i .i64 0), (.i .i64 0), (.i .i64 1), (.i .i64 0), (.i .i64 0), (.i .i64 0), (.i .i64 0), (.i .i64 0), (.i .i64 0), (.i .i64 0), (.i .i64 0), (.i .i64 1)]
def ey65 : List V := [(.i .i64 1), (.i .i64 2), (.i .i64 4), (.i .i64 5), (.i .i64 7), (.i .i64 8), (.i .i64 10), (.i .i64 11), (.i .i64 13), (.i .i64 14), (.i .i64 16), (.i .i64 17), (.i .i64 19), (.i .i64 20), (.i .i64 22), (.i .i64 23), (.i .i64 25), (.i .i64 26)]
def ey66 : List V := (Q1 (Qz (Qz (Qz (Qz (Qz (Qz (Qz (Qz (Q1 (Qz (Qz (Qz (Qz (Qz (Qz (Qz (Qz (Q1 [])))))))))))))))))))
def ey67 : List V := [(.i .i64 1), (.i .i64 0), (.i .i64 18446744073709551615), (.i .i64 0), (.i .i64 1), (.i .i64 0), (.i .i64 18446744073709551615), (.i .i64 0), (.i .i64 1), (.i .i64 0), (.i .i64 18446744073709551615), (.i .i64 0), (.i .i64 1)]
def ey68 : List V := [(.i .i64 1), (.i .i64 3), (.i .i64 5), (.i .i64 9), (.i .i64 11), (.i .i64 13), (.i .i64 15), (.i .i64 17), (.i .i64 19), (.i .i64 23), (.i .i64 25), (.i .i64 27)]
def ey69 : List V := (Q1 (Qz (Qm [1] (Qz (Q1 (Qz (Qm [1] (Qz (Q1 (Qz (Qm [1] (Qz (Q1 [])))))))))))))
def ey70 : List V := [(.i .i64 1), (.i .i64 1), (.i .i64 0), (.i .i64 18446744073709551615), (.i .i64 18446744073709551615), (.i .i64 18446744073709551615), (.i .i64 0), (.i .i64 1), (.i .i64 1)]
def ey71 : List V := [(.i .i64 1), (.i .i64 7), (.i .i64 11), (.i .i64 13), (.i .i64 17), (.i .i64 19), (.i .i64 23), (.i .i64 29)]
def ey72 : List V := (Q1 (Q1 (Qz (Qm [1] (Qm [1] (Qm [1] (Qz (Q1 (Q1 [])))))))))
def ey73 : List V := [(.i .i64 1), (.i .i64 0), (.i .i64 0), (.i .i64 0), (.i .i64 0), (.i .i64 0), (.i .i64 0), (.i .i64 0), (.i .i64 0), (.i .i64 0), (.i .i64 0), (.i .i64 0), (.i .i64 0), (.i .i64 0), (.i .i64 0), (.i .i64 0), (.i .i64 1)]
def ey74 : List V := [(.i .i64 1), (.i .i64 3), (.i .i64 5), (.i .i64 7), (.i .i64 9), (.i .i64 11), (.i .i64 13), (.i .i64 15), (.i .i64 17), (.i .i64 19), (.i .i64 21), (.i .i64 23), (.i .i64 25), (.i .i64 27), (.i .i64 29), (.i .i64 31)]
def ey75 : List V := (Q1 (Qz (Qz (Qz (Qz (Qz (Qz (Qz (Qz (Qz (Qz (Qz (Qz (Qz (Qz (Qz (Q1 [])))))))))))))))))
def ey76 : List V := [(.i .i64 1), (.i .i64 18446744073709551615), (.i .i64 0), (.i .i64 1), (.i .i64 18446744073709551615), (.i .i64 0), (.i .i64 1), (.i .i64 18446744073709551615), (.i .i64 0), (.i .i64 1), (.i .i64 18446744073709551615), (.i .i64 1), (.i .i64 0), (.i .i64 18446744073709551615), (.i .i64 1), (.i .i64 0), (.i .i64 18446744073709551615), (.i .i64 1), (.i .i64 0), (.i .i64 18446744073709551615), (.i .i64 1)]
def ey77 : List V := [(.i .i64 1), (.i .i64 2), (.i .i64 4), (.i .i64 5), (.i .i64 7), (.i .i64 8), (.i .i64 10), (.i .i64 13), (.i .i64 14), (.i .i64 16), (.i .i64 17), (.i .i64 19), (.i .i64 20), (.i .i64 23), (.i .i64 25), (.i .i64 26), (.i .i64 28), (.i .i64 29), (.i .i64 31), (.i .i64 32)]
def ey78 : List V := (Q1 (Qm [1] (Qz (Q1 (Qm [1] (Qz (Q1 (Qm [1] (Qz (Q1 (Qm [1] (Q1 (Qz (Qm [1] (Q1 (Qz (Qm [1] (Q1 (Qz (Qm [1] (Q1 [])))))))))))))))))))))
def ey79 : List V := [(.i .i64 1), (.i .i64 18446744073709551615), (.i .i64 1), (.i .i64 18446744073709551615), (.i .i64 1), (.i .i64 18446744073709551615), (.i .i64 1), (.i .i64 18446744073709551615), (.i .i64 1), (.i .i64 18446744073709551615), (.i .i64 1), (.i .i64 18446744073709551615), (.i .i64 1), (.i .i64 18446744073709551615), (.i .i64 1), (.i .i64 18446744073709551615), (.i .i64 1)]
def ey80 : List V := [(.i .i64 1), (.i .i64 3), (.i .i64 5), (.i .i64 7), (.i .i64 9), (.i .i64 11), (.i .i64 13), (.i .i64 15), (.i .i64 19), (.i .i64 21), (.i .i64 23), (.i .i64 25), (.i .i64 27), (.i .i64 29), (.i .i64 31), (.i .i64 33)]
def ey81 : List V := (Q1 (Qm [1] (Q1 (Qm [1] (Q1 (Qm [1] (Q1 (Qm [1] (Q1 (Qm [1] (Q1 (Qm [1] (Q1 (Qm [1] (Q1 (Qm [1] (Q1 [])))))))))))))))))
def ey82 : List V := [(.i .i64 1), (.i .i64 18446744073709551615), (.i .i64 0), (.i .i64 0), (.i .i64 0), (.i .i64 1), (.i .i64 18446744073709551615), (.i .i64 1), (.i .i64 18446744073709551615), (.i .i64 0), (.i .i64 1), (.i .i64 18446744073709551615), (.i .i64 1), (.i .i64 18446744073709551615), (.i .i64 1), (.i .i64 0), (.i .i64 18446744073709551615), (.i .i64 1), (.i .i64 18446744073709551615), (.i .i64 1), (.i .i64 0), (.i .i64 0), (.i .i64 0), (.i .i64 18446744073709551615), (.i .i64 1)]
def ey83 : List V := [(.i .i64 1), (.i .i64 2), (.i .i64 3), (.i .i64 4), (.i .i64 6), (.i .i64 8), (.i .i64 9), (.i .i64 11), (.i .i64 12), (.i .i64 13), (.i .i64 16), (.i .i64 17), (.i .i64 18), (.i .i64 19), (.i .i64 22), (.i .i64 23), (.i .i64 24), (.i .i64 26), (.i .i64 27), (.i .i64 29), (.i .i64 31), (.i .i64 32), (.i .i64 33), (.i .i64 34)]
def ey84 : List V := (Q1 (Qm [1] (Qz (Qz (Qz (Q1 (Qm [1] (Q1 (Qm [1] (Qz (Q1 (Qm [1] (Q1 (Qm [1] (Q1 (Qz (Qm [1] (Q1 (Qm [1] (Q1 (Qz (Qz (Qz (Qm [1] (Q1 [])))))))))))))))))))))))))
def ey85 : List V := [(.i .i64 1), (.i .i64 0), (.i .i64 0), (.i .i64 0), (.i .i64 0), (.i .i64 0), (.i .i64 18446744073709551615), (.i .i64 0), (.i .i64 0), (.i .i64 0), (.i .i64 0), (.i .i64 0), (.i .i64 1)]
def ey86 : List V := [(.i .i64 1), (.i .i64 5), (.i .i64 7), (.i .i64 11), (.i .i64 13), (.i .i64 17), (.i .i64 19), (.i .i64 23), (.i .i64 25), (.i .i64 29), (.i .i64 31), (.i .i64 35)]
def ey87 : List V := (Q1 (Qz (Qz (Qz (Qz (Qz (Qm [1] (Qz (Qz (Qz (Qz (Qz (Q1 [])))))))))))))
def ey88 : List V := [(.i .i64 1), (.i .i64 18446744073709551615), (.i .i64 1), (.i .i64 18446744073709551615), (.i .i64 1), (.i .i64 18446744073709551615), (.i .i64 1), (.i .i64 18446744073709551615), (.i .i64 1), (.i .i64 18446744073709551615), (.i .i64 1), (.i .i64 18446744073709551615), (.i .i64 1), (.i .i64 18446744073709551615), (.i .i64 1), (.i .i64 18446744073709551615), (.i .i64 1), (.i .i64 18446744073709551615), (.i .i64 1)]
def ey89 : List V := [(.i .i64 1), (.i .i64 3), (.i .i64 5), (.i .i64 7), (.i .i64 9), (.i .i64 11), (.i .i64 13), (.i .i64 15), (.i .i64 17), (.i .i64 21), (.i .i64 23), (.i .i64 25), (.i .i64 27), (.i .i64 29), (.i .i64 31), (.i .i64 33), (.i .i64 35), (.i .i64 37)]
def ey90 : List V := (Q1 (Qm [1] (Q1 (Qm [1] (Q1 (Qm [1] (Q1 (Qm [1] (Q1 (Qm [1] (Q1 (Qm [1] (Q1 (Qm [1] (Q1 (Qm [1] (Q1 (Qm [1] (Q1 [])))))))))))))))))))
def ey91 : List V := [(.i .i64 1), (.i .i64 18446744073709551615), (.i .i64 0), (.i .i64 1), (.i .i64 18446744073709551615), (.i .i64 0), (.i .i64 1), (.i .i64 18446744073709551615), (.i .i64 0), (.i .i64 1), (.i .i64 18446744073709551615), (.i .i64 0), (.i .i64 1), (.i .i64 0), (.i .i64 18446744073709551615), (.i .i64 1), (.i .i64 0), (.i .i64 18446744073709551615), (.i .i64 1), (.i .i64 0), (.i .i64 18446744073709551615), (.i .i64 1), (.i .i64 0), (.i .i64 18446744073709551615), (.i .i64 1)]
def ey92 : List V := [(.i .i64 1), (.i .i64 2), (.i .i64 4), (.i .i64 5), (.i .i64 7), (.i .i64 8), (.i .i64 10), (.i .i64 11), (.i .i64 14), (.i .i64 16), (.i .i64 17), (.i .i64 19), (.i .i64 20), (.i .i64 22), (.i .i64 23), (.i .i64 25), (.i .i64 28), (.i .i64 29), (.i .i64 31), (.i .i64 32), (.i .i64 34), (.i .i64 35), (.i .i64 37), (.i .i64 38)]
def ey93 : List V := (Q1 (Qm [1] (Qz (Q1 (Qm [1] (Qz (Q1 (Qm [1] (Qz (Q1 (Qm [1] (Qz (Q1 (Qz (Qm [1] (Q1 (Qz (Qm [1] (Q1 (Qz (Qm [1] (Q1 (Qz (Qm [1] (Q1 [])))))))))))))))))))))))))
def ey94 : List V := [(.i .i64 1), (.i .i64 0), (.i .i64 0), (.i .i64 0), (.i .i64 18446744073709551615), (.i .i64 0), (.i .i64 0), (.i .i64 0), (.i .i64 1), (.i .i64 0), (.i .i64 0), (.i .i64 0), (.i .i64 18446744073709551615), (.i .i64 0), (.i .i64 0), (.i .i64 0), (.i .i64 1)]
def ey95 : List V := [(.i .i64 1), (.i .i64 3), (.i .i64 7), (.i .i64 9), (.i .i64 11), (.i .i64 13), (.i .i64 17), (.i .i64 19), (.i .i64 21), (.i .i64 23), (.i .i64 27), (.i .i64 29), (.i .i64 31), (.i .i64 33), (.i .i64 37), (.i .i64 39)]
def ey96 : List V := (Q1 (Qz (Qz (Qz (Qm [1] (Qz (Qz (Qz (Q1 (Qz (Qz (Qz (Qm [1] (Qz (Qz (Qz (Q1 [])))))))))))))))))
def ey97 : List V := [(.i .i64 1), (.i .i64 1), (.i .i64 0), (.i .i64 18446744073709551615), (.i .i64 18446744073709551615), (.i .i64 0), (.i .i64 1), (.i .i64 0), (.i .i64 18446744073709551615), (.i .i64 18446744073709551615), (.i .i64 0), (.i .i64 1), (.i .i64 1)]
def ey98 : List V := [(.i .i64 1), (.i .i64 5), (.i .i64 11), (.i .i64 13), (.i .i64 17), (.i .i64 19), (.i .i64 23), (.i .i64 25), (.i .i64 29), (.i .i64 31), (.i .i64 37), (.i .i64 41)]
def ey99 : List V := (Q1 (Q1 (Qz (Qm [1] (Qm [1] (Qz (Q1 (Qz (Qm [1] (Qm [1] (Qz (Q1 (Q1 [])))))))))))))
def ey100 : List V := [(.i .i64 1), (.i .i64 0), (.i .i64 18446744073709551615), (.i .i64 0), (.i .i64 1), (.i .i64 0), (.i .i64 18446744073709551615), (.i .i64 0), (.i .i64 1), (.i .i64 0), (.i .i64 18446744073709551615), (.i .i64 0), (.i .i64 1), (.i .i64 0), (.i .i64 18446744073709551615), (.i .i64 0), (.i .i64 1), (.i .i64 0), (.i .i64 18446744073709551615), (.i .i64 0), (.i .i64 1)]
def ey101 : List V := [(.i .i64 1), (.i .i64 3), (.i .i64 5), (.i .i64 7), (.i .i64 9), (.i .i64 13), (.i .i64 15), (.i .i64 17), (.i .i64 19), (.i .i64 21), (.i .i64 23), (.i .i64 25), (.i .i64 27), (.i .i64 29), (.i .i64 31), (.i .i64 35), (.i .i64 37), (.i .i64 39), (.i .i64 41), (.i .i64 43)]
def ey102 : List V := (Q1 (Qz (Qm [1] (Qz (Q1 (Qz (Qm [1] (Qz (Q1 (Qz (Qm [1] (Qz (Q1 (Qz (Qm [1] (Qz (Q1 (Qz (Qm [1] (Qz (Q1 [])))))))))))))))))))))
def ey103 : List V := [(.i .i64 1), (.i .i64 0), (.i .i64 0), (.i .i64 18446744073709551615), (.i .i64 0), (.i .i64 0), (.i .i64 0), (.i .i64 0), (.i .i64 0), (.i .i64 1), (.i .i64 0), (.i .i64 0), (.i .i64 18446744073709551615), (.i .i64 0), (.i .i64 0), (.i .i64 1), (.i .i64 0), (.i .i64 0), (.i .i64 0), (.i .i64 0), (.i .i64 0), (.i .i64 18446744073709551615), (.i .i64 0), (.i .i64 0), (.i .i64 1)]
def ey104 : List V := [(.i .i64 1), (.i .i64 2), (.i .i64 4), (.i .i64 7), (.i .i64 8), (.i .i64 11), (.i .i64 13), (.i .i64 14), (.i .i64 16), (.i .i64 17), (.i .i64 19), (.i .i64 22), (.i .i64 23), (.i .i64 26), (.i .i64 28), (.i .i64 29), (.i .i64 31), (.i .i64 32), (.i .i64 34), (.i .i64 37), (.i .i64 38), (.i .i64 41), (.i .i64 43), (.i .i64 44)]
def ey105 : List V := (Q1 (Qz (Qz (Qm [1] (Qz (Qz (Qz (Qz (Qz (Q1 (Qz (Qz (Qm [1] (Qz (Qz (Q1 (Qz (Qz (Qz (Qz (Qz (Qm [1] (Qz (Qz (Q1 [])))))))))))))))))))))))))
def ey106 : List V := [(.i .i64 1), (.i .i64 18446744073709551615), (.i .i64 1), (.i .i64 18446744073709551615), (.i .i64 1), (.i .i64 18446744073709551615), (.i .i64 1), (.i .i64 18446744073709551615), (.i .i64 1), (.i .i64 18446744073709551615), (.i .i64 1), (.i .i64 18446744073709551615), (.i .i64 1), (.i .i64 18446744073709551615), (.i .i64 1), (.i .i64 18446744073709551615), (.i .i64 1), (.i .i64 18446744073709551615), (.i .i64 1), (.i .i64 18446744073709551615), (.i .i64 1), (.i .i64 18446744073709551615), (.i .i64 1)]
def ey107 : List V := [(.i .i64 1), (.i .i64 3), (.i .i64 5), (.i .i64 7), (.i .i64 9), (.i .i64 11), (.i .i64 13), (.i .i64 15), (.i .i64 17), (.i .i64 19), (.i .i64 21), (.i .i64 25), (.i .i64 27), (.i .i64 29), (.i .i64 31), (.i .i64 33), (.i .i64 35), (.i .i64 37), (.i .i64 39), (.i .i64 41), (.i .i64 43), (.i .i64 45)]
def ey108 : List V := (Q1 (Qm [1] (Q1 (Qm [1] (Q1 (Qm [1] (Q1 (Qm [1] (Q1 (Qm [1] (Q1 (Qm [1] (Q1 (Qm [1] (Q1 (Qm [1] (Q1 (Qm [1] (Q1 (Qm [1] (Q1 (Qm [1] (Q1 [])))))))))))))))))))))))
def ey109 : List V := [(.i .i64 1), (.i .i64 0), (.i .i64 0), (.i .i64 0), (.i .i64 0), (.i .i64 0), (.i .i64 0), (.i .i64 0), (.i .i64 18446744073709551615), (.i .i64 0), (.i .i64 0), (.i .i64 0), (.i .i64 0), (.i .i64 0), (.i .i64 0), (.i .i64 0), (.i .i64 1)]
def ey110 : List V := [(.i .i64 1), (.i .i64 5), (.i .i64 7), (.i .i64 11), (.i .i64 13), (.i .i64 17), (.i .i64 19), (.i .i64 23), (.i .i64 25), (.i .i64 29), (.i .i64 31), (.i .i64 35), (.i .i64 37), (.i .i64 41), (.i .i64 43), (.i .i64 47)]
def ey111 : List V := (Q1 (Qz (Qz (Qz (Qz (Qz (Qz (Qz (Qm [1] (Qz (Qz (Qz (Qz (Qz (Qz (Qz (Q1 [])))))))))))))))))
def ey112 : List V := [(.i .i64 1), (.i .i64 0), (.i .i64 0), (.i .i64 0), (.i .i64 0), (.i .i64 18446744073709551615), (.i .i64 0), (.i .i64 0), (.i .i64 0), (.i .i64 0), (.i .i64 1), (.i .i64 0), (.i .i64 0), (.i .i64 0), (.i .i64 0), (.i .i64 18446744073709551615), (.i .i64 0), (.i .i64 0), (.i .i64 0), (.i .i64 0), (.i .i64 1)]
def ey113 : List V := [(.i .i64 1), (.i .i64 3), (.i .i64 7), (.i .i64 9), (.i .i64 11), (.i .i64 13), (.i .i64 17), (.i .i64 19), (.i .i64 21), (.i .i64 23), (.i .i64 27), (.i .i64 29), (.i .i64 31), (.i .i64 33), (.i .i64 37), (.i .i64 39), (.i .i64 41), (.i .i64 43), (.i .i64 47), (.i .i64 49)]
def ey114 : List V := (Q1 (Qz (Qz (Qz (Qz (Qm [1] (Qz (Qz (Qz (Qz (Q1 (Qz (Qz (Qz (Qz (Qm [1] (Qz (Qz (Qz (Qz (Q1 [])))))))))))))))))))))
def ey115 : List V := [(.i .i64 1), (.i .i64 0), (.i .i64 18446744073709551615), (.i .i64 0), (.i .i64 1), (.i .i64 0), (.i .i64 18446744073709551615), (.i .i64 0), (.i .i64 1), (.i .i64 0), (.i .i64 18446744073709551615), (.i .i64 0), (.i .i64 1), (.i .i64 0), (.i .i64 18446744073709551615), (.i .i64 0), (.i .i64 1), (.i .i64 0), (.i .i64 18446744073709551615), (.i .i64 0), (.i .i64 1), (.i .i64 0), (.i .i64 18446744073709551615), (.i .i64 0), (.i .i64 1)]
def ey116 : List V := [(.i .i64 1), (.i .i64 3), (.i .i64 5), (.i .i64 7), (.i .i64 9), (.i .i64 11), (.i .i64 15), (.i .i64 17), (.i .i64 19), (.i .i64 21), (.i .i64 23), (.i .i64 25), (.i .i64 27), (.i .i64 29), (.i .i64 31), (.i .i64 33), (.i .i64 35), (.i .i64 37), (.i .i64 41), (.i .i64 43), (.i .i64 45), (.i .i64 47), (.i .i64 49), (.i .i64 51)]
def ey117 : List V := (Q1 (Qz (Qm [1] (Qz (Q1 (Qz (Qm [1] (Qz (Q1 (Qz (Qm [1] (Qz (Q1 (Qz (Qm [1] (Qz (Q1 (Qz (Qm [1] (Qz (Q1 (Qz (Qm [1] (Qz (Q1 [])))))))))))))))))))))))))
def ey118 : List V := [(.i .i64 1), (.i .i64 0), (.i .i64 0), (.i .i64 0), (.i .i64 0), (.i .i64 0), (.i .i64 0), (.i .i64 0), (.i .i64 0), (.i .i64 18446744073709551615), (.i .i64 0), (.i .i64 0), (.i .i64 0), (.i .i64 0), (.i .i64 0), (.i .i64 0), (.i .i64 0), (.i .i64 0), (.i .i64 1)]
def ey119 : List V := [(.i .i64 1), (.i .i64 5), (.i .i64 7), (.i .i64 11), (.i .i64 13), (.i .i64 17), (.i .i64 19), (.i .i64 23), (.i .i64 25), (.i .i64 29), (.i .i64 31), (.i .i64 35), (.i .i64 37), (.i .i64 41), (.i .i64 43), (.i .i64 47), (.i .i64 49), (.i .i64 53)]
def ey120 : List V := (Q1 (Qz (Qz (Qz (Qz (Qz (Qz (Qz (Qz (Qm [1] (Qz (Qz (Qz (Qz (Qz (Qz (Qz (Qz (Q1 [])))))))))))))))))))
def ey121 : List V := [(.i .i64 1), (.i .i64 0), (.i .i64 0), (.i .i64 0), (.i .i64 18446744073709551615), (.i .i64 0), (.i .i64 0), (.i .i64 0), (.i .i64 1), (.i .i64 0), (.i .i64 0), (.i .i64 0), (.i .i64 18446744073709551615), (.i .i64 0), (.i .i64 0), (.i .i64 0), (.i .i64 1), (.i .i64 0), (.i .i64 0), (.i .i64 0), (.i .i64 18446744073709551615), (.i .i64 0), (.i .i64 0), (.i .i64 0), (.i .i64 1)]
def ey122 : List V := [(.i .i64 1), (.i .i64 3), (.i .i64 5), (.i .i64 9), (.i .i64 11), (.i .i64 13), (.i .i64 15), (.i .i64 17), (.i .i64 19), (.i .i64 23), (.i .i64 25), (.i .i64 27), (.i .i64 29), (.i .i64 31), (.i .i64 33), (.i .i64 37), (.i .i64 39), (.i .i64 41), (.i .i64 43), (.i .i64 45), (.i .i64 47), (.i .i64 51), (.i .i64 53), (.i .i64 55)]
def ey123 : List V := (Q1 (Qz (Qz (Qz (Qm [1] (Qz (Qz (Qz (Q1 (Qz (Qz (Qz (Qm [1] (Qz (Qz (Qz (Q1 (Qz (Qz (Qz (Qm [1] (Qz (Qz (Qz (Q1 [])))))))))))))))))))))))))
def ey124 : List V := [(.i .i64 1), (.i .i64 0), (.i .i64 1), (.i .i64 0), (.i .i64 0), (.i .i64 0), (.i .i64 18446744073709551615), (.i .i64 0), (.i .i64 18446744073709551615), (.i .i64 0), (.i .i64 18446744073709551615), (.i .i64 0), (.i .i64 0), (.i .i64 0), (.i .i64 1), (.i .i64 0), (.i .i64 1)]
def ey125 : List V := [(.i .i64 1), (.i .i64 7), (.i .i64 11), (.i .i64 13), (.i .i64 17), (.i .i64 19), (.i .i64 23), (.i .i64 29), (.i .i64 31), (.i .i64 37), (.i .i64 41), (.i .i64 43), (.i .i64 47), (.i .i64 49), (.i .i64 53), (.i .i64 59)]
def ey126 : List V := (Q1 (Qz (Q1 (Qz (Qz (Qz (Qm [1] (Qz (Qm [1] (Qz (Qm [1] (Qz (Qz (Qz (Q1 (Qz (Q1 [])))))))))))))))))
def ey127 : List V := [(.i .i64 1), (.i .i64 1), (.i .i64 0), (.i .i64 18446744073709551615), (.i .i64 18446744073709551615), (.i .i64 0), (.i .i64 1), (.i .i64 1), (.i .i64 0), (.i .i64 18446744073709551615), (.i .i64 18446744073709551615), (.i .i64 18446744073709551615), (.i .i64 0), (.i .i64 1), (.i .i64 1), (.i .i64 0), (.i .i64 18446744073709551615), (.i .i64 18446744073709551615), (.i .i64 0), (.i .i64 1), (.i .i64 1)]
def ey128 : List V := [(.i .i64 1), (.i .i64 5), (.i .i64 7), (.i .i64 13), (.i .i64 17), (.i .i64 19), (.i .i64 23), (.i .i64 25), (.i .i64 29), (.i .i64 31), (.i .i64 35), (.i .i64 37), (.i .i64 41), (.i .i64 43), (.i .i64 47), (.i .i64 49), (.i .i64 53), (.i .i64 59), (.i .i64 61), (.i .i64 65)]
def ey129 : List V := (Q1 (Q1 (Qz (Qm [1] (Qm [1] (Qz (Q1 (Q1 (Qz (Qm [1] (Qm [1] (Qm [1] (Qz (Q1 (Q1 (Qz (Qm [1] (Qm [1] (Qz (Q1 (Q1 [])))))))))))))))))))))
def ey130 : List V := [(.i .i64 1), (.i .i64 1), (.i .i64 0), (.i .i64 0), (.i .i64 0), (.i .i64 18446744073709551615), (.i .i64 18446744073709551615), (.i .i64 18446744073709551615), (.i .i64 18446744073709551615), (.i .i64 0), (.i .i64 1), (.i .i64 1), (.i .i64 1), (.i .i64 1), (.i .i64 1), (.i .i64 0), (.i .i64 18446744073709551615), (.i .i64 18446744073709551615), (.i .i64 18446744073709551615), (.i .i64 18446744073709551615), (.i .i64 0), (.i .i64 0), (.i .i64 0), (.i .i64 1), (.i .i64 1)]
def ey131 : List V := [(.i .i64 1), (.i .i64 3), (.i .i64 9), (.i .i64 11), (.i .i64 13), (.i .i64 17), (.i .i64 19), (.i .i64 23), (.i .i64 27), (.i .i64 29), (.i .i64 31), (.i .i64 33), (.i .i64 37), (.i .i64 39), (.i .i64 41), (.i .i64 43), (.i .i64 47), (.i .i64 51), (.i .i64 53), (.i .i64 57), (.i .i64 59), (.i .i64 61), (.i .i64 67), (.i .i64 69)]
def ey132 : List V := (Q1 (Q1 (Qz (Qz (Qz (Qm [1] (Qm [1] (Qm [1] (Qm [1] (Qz (Q1 (Q1 (Q1 (Q1 (Q1 (Qz (Qm [1] (Qm [1] (Qm [1] (Qm [1] (Qz (Qz (Qz (Q1 (Q1 [])))))))))))))))))))))))))
def ey133 : List V := [(.i .i64 1), (.i .i64 0), (.i .i64 0), (.i .i64 0), (.i .i64 0), (.i .i64 0), (.i .i64 0), (.i .i64 0), (.i .i64 0), (.i .i64 0), (.i .i64 0), (.i .i64 0), (.i .i64 18446744073709551615), (.i .i64 0), (.i .i64 0), (.i .i64 0), (.i .i64 0), (.i .i64 0), (.i .i64 0), (.i .i64 0), (.i .i64 0), (.i .i64 0), (.i .i64 0), (.i .i64 0), (.i .i64 1)]
def ey134 : List V := [(.i .i64 1), (.i .i64 5), (.i .i64 7), (.i .i64 11), (.i .i64 13), (.i .i64 17), (.i .i64 19), (.i .i64 23), (.i .i64 25), (.i .i64 29), (.i .i64 31), (.i .i64 35), (.i .i64 37), (.i .i64 41), (.i .i64 43), (.i .i64 47), (.i .i64 49), (.i .i64 53), (.i .i64 55), (.i .i64 59), (.i .i64 61), (.i .i64 65), (.i .i64 67), (.i .i64 71)]
def ey135 : List V := (Q1 (Qz (Qz (Qz (Qz (Qz (Qz (Qz (Qz (Qz (Qz (Qz (Qm [1] (Qz (Qz (Qz (Qz (Qz (Qz (Qz (Qz (Qz (Qz (Qz (Q1 [])))))))))))))))))))))))))
def ey136 : List V := [(.i .i64 1), (.i .i64 1), (.i .i64 0), (.i .i64 18446744073709551615), (.i .i64 18446744073709551615), (.i .i64 0), (.i .i64 1), (.i .i64 1), (.i .i64 0), (.i .i64 18446744073709551615), (.i .i64 18446744073709551615), (.i .i64 0), (.i .i64 1), (.i .i64 0), (.i .i64 18446744073709551615), (.i .i64 18446744073709551615), (.i .i64 0), (.i .i64 1), (.i .i64 1), (.i .i64 0), (.i .i64 18446744073709551615), (.i .i64 18446744073709551615), (.i .i64 0), (.i .i64 1), (.i .i64 1)]
def ey137 : List V := [(.i .i64 1), (.i .i64 5), (.i .i64 7), (.i .i64 11), (.i .i64 17), (.i .i64 19), (.i .i64 23), (.i .i64 25), (.i .i64 29), (.i .i64 31), (.i .i64 35), (.i .i64 37), (.i .i64 41), (.i .i64 43), (.i .i64 47), (.i .i64 49), (.i .i64 53), (.i .i64 55), (.i .i64 59), (.i .i64 61), (.i .i64 67), (.i .i64 71), (.i .i64 73), (.i .i64 77)]
def ey138 : List V := (Q1 (Q1 (Qz (Qm [1] (Qm [1] (Qz (Q1 (Q1 (Qz (Qm [1] (Qm [1] (Qz (Q1 (Qz (Qm [1] (Qm [1] (Qz (Q1 (Q1 (Qz (Qm [1] (Qm [1] (Qz (Q1 (Q1 [])))))))))))))))))))))))))
def ey139 : List V := [(.i .i64 1), (.i .i64 0), (.i .i64 1), (.i .i64 0), (.i .i64 0), (.i .i64 0), (.i .i64 18446744073709551615), (.i .i64 0), (.i .i64 18446744073709551615), (.i .i64 0), (.i .i64 0), (.i .i64 0), (.i .i64 1), (.i .i64 0), (.i .i64 0), (.i .i64 0), (.i .i64 18446744073709551615), (.i .i64 0), (.i .i64 18446744073709551615), (.i .i64 0), (.i .i64 0), (.i .i64 0), (.i .i64 1), (.i .i64 0), (.i .i64 1)]
def ey140 : List V := [(.i .i64 1), (.i .i64 5), (.i .i64 11), (.i .i64 13), (.i .i64 17), (.i .i64 19), (.i .i64 23), (.i .i64 25), (.i .i64 29), (.i .i64 31), (.i .i64 37), (.i .i64 41), (.i .i64 43), (.i .i64 47), (.i .i64 53), (.i .i64 55), (.i .i64 59), (.i .i64 61), (.i .i64 65), (.i .i64 67), (.i .i64 71), (.i .i64 73), (.i .i64 79), (.i .i64 83)]
def ey141 : List V := (Q1 (Qz (Q1 (Qz (Qz (Qz (Qm [1] (Qz (Qm [1] (Qz (Qz (Qz (Q1 (Qz (Qz (Qz (Qm [1] (Qz (Qm [1] (Qz (Qz (Qz (Q1 (Qz (Q1 [])))))))))))))))))))))))))
def ey142 : List V := [(.i .i64 1), (.i .i64 0), (.i .i64 0), (.i .i64 1), (.i .i64 0), (.i .i64 0), (.i .i64 0), (.i .i64 0), (.i .i64 0), (.i .i64 18446744073709551615), (.i .i64 0), (.i .i64 0), (.i .i64 18446744073709551615), (.i .i64 0), (.i .i64 0), (.i .i64 18446744073709551615), (.i .i64 0), (.i .i64 0), (.i .i64 0), (.i .i64 0), (.i .i64 0), (.i .i64 1), (.i .i64 0), (.i .i64 0), (.i .i64 1)]
def ey143 : List V := [(.i .i64 1), (.i .i64 7), (.i .i64 11), (.i .i64 13), (.i .i64 17), (.i .i64 19), (.i .i64 23), (.i .i64 29), (.i .i64 31), (.i .i64 37), (.i .i64 41), (.i .i64 43), (.i .i64 47), (.i .i64 49), (.i .i64 53), (.i .i64 59), (.i .i64 61), (.i .i64 67), (.i .i64 71), (.i .i64 73), (.i .i64 77), (.i .i64 79), (.i .i64 83), (.i .i64 89)]
def ey144 : List V := (Q1 (Qz (Qz (Q1 (Qz (Qz (Qz (Qz (Qz (Qm [1] (Qz (Qz (Qm [1] (Qz (Qz (Qm [1] (Qz (Qz (Qz (Qz (Qz (Q1 (Qz (Qz (Q1 [])))))))))))))))))))))))))
def ehb0 : List (List V) := []
def eha0 : List V := [(.i .i64 1)]
def ehv0 : V := (.sl .h 0 2 2)
def eho0 : List (Pos × List V) := [(.h, [(.i .i64 18446744073709551615), (.i .i64 1)])]
theorem ehs0 : stat ehb0 eha0 ehv0 eho0 = true := by kernel_rfl
theorem ehr0 : runOk (un 1 F66 eha0 (mkS ehb0) fun v S => some (v, S)) ehv0 eho0 = true := by kernel_rfl
theorem ehm0 : FOK Tryz.prog 66 (memoF ehb0 eha0 ehv0 eho0) := memo_ok K66 ehs0 ehr0
def ehb1 : List (List V) := []
def eha1 : List V := [(.i .i64 1)]
def ehv1 : V := (.so (.o .h) 0 1 1 1)
def eho1 : List (Pos × List V) := [((.o .h), [(.i .i64 0)])]
theorem ehs1 : stat ehb1 eha1 ehv1 eho1 = true := by kernel_rfl
theorem ehr1 : runOk (un 1 F67b eha1 (mkS ehb1) fun v S => some (v, S)) ehv1 eho1 = true := by kernel_rfl
theorem ehm1 : FOK Tryz.prog 67 (memoF ehb1 eha1 ehv1 eho1) := memo_ok K67b ehs1 ehr1
def ehb2 : List (List V) := []
def eha2 : List V := [(.i .i64 1)]
def ehv2 : V := (.so (.o (.i (.i (.o (.o .h))))) 0 2 2 3)
def eho2 : List (Pos × List V) := [((.o (.i (.i (.o (.o .h))))), ey0)]
theorem ehs2 : stat ehb2 eha2 ehv2 eho2 = true := by kernel_rfl
theorem ehr2 : runOk (un 1 F17b eha2 (mkS ehb2) fun v S => some (v, S)) ehv2 eho2 = true := by kernel_rfl
theorem ehm2 : FOK Tryz.prog 17 (memoF ehb2 eha2 ehv2 eho2) := memo_ok K17b ehs2 ehr2
def ehb3 : List (List V) := []
def eha3 : List V := [(.i .i64 2)]
def ehv3 : V := (.sl (.i (.i .h)) 0 2 2)
def eho3 : List (Pos × List V) := [((.i (.i .h)), [(.i .i64 1), (.i .i64 1)])]
theorem ehs3 : stat ehb3 eha3 ehv3 eho3 = true := by kernel_rfl
theorem ehr3 : runOk (un 1 F66 eha3 (mkS ehb3) fun v S => some (v, S)) ehv3 eho3 = true := by kernel_rfl
theorem ehm3 : FOK Tryz.prog 66 (memoF ehb3 eha3 ehv3 eho3) := memo_ok K66 ehs3 ehr3
def ehb4 : List (List V) := []
def eha4 : List V := [(.i .i64 2)]
def ehv4 : V := (.so (.o .h) 0 1 1 1)
def eho4 : List (Pos × List V) := [((.o .h), [(.i .i64 1)])]
theorem ehs4 : stat ehb4 eha4 ehv4 eho4 = true := by kernel_rfl
theorem ehr4 : runOk (un 1 F67b eha4 (mkS ehb4) fun v S => some (v, S)) ehv4 eho4 = true := by kernel_rfl
theorem ehm4 : FOK Tryz.prog 67 (memoF ehb4 eha4 ehv4 eho4) := memo_ok K67b ehs4 ehr4
def ehb5 : List (List V) := []
def eha5 : List V := [(.i .i64 2)]
def ehv5 : V := (.so (.o (.o (.o (.o (.i .h))))) 0 2 2 3)
def eho5 : List (Pos × List V) := [((.o (.o (.o (.o (.i .h))))), ey1)]
theorem ehs5 : stat ehb5 eha5 ehv5 eho5 = true := by kernel_rfl
theorem ehr5 : runOk (un 1 F17b eha5 (mkS ehb5) fun v S => some (v, S)) ehv5 eho5 = true := by kernel_rfl
theorem ehm5 : FOK Tryz.prog 17 (memoF ehb5 eha5 ehv5 eho5) := memo_ok K17b ehs5 ehr5
def ehb6 : List (List V) := []
def eha6 : List V := [(.i .i64 3)]
def ehv6 : V := (.sl (.i (.i .h)) 0 3 3)
def eho6 : List (Pos × List V) := [((.i (.i .h)), [(.i .i64 1), (.i .i64 1), (.i .i64 1)])]
theorem ehs6 : stat ehb6 eha6 ehv6 eho6 = true := by kernel_rfl
theorem ehr6 : runOk (un 1 F66 eha6 (mkS ehb6) fun v S => some (v, S)) ehv6 eho6 = true := by kernel_rfl
theorem ehm6 : FOK Tryz.prog 66 (memoF ehb6 eha6 ehv6 eho6) := memo_ok K66 ehs6 ehr6
def ehb7 : List (List V) := []
def eha7 : List V := [(.i .i64 3)]
def ehv7 : V := (.so (.o (.o .h)) 0 2 2 1)
def eho7 : List (Pos × List V) := [((.o (.o .h)), [(.i .i64 1), (.i .i64 2)])]
theorem ehs7 : stat ehb7 eha7 ehv7 eho7 = true := by kernel_rfl
theorem ehr7 : runOk (un 1 F67b eha7 (mkS ehb7) fun v S => some (v, S)) ehv7 eho7 = true := by kernel_rfl
theorem ehm7 : FOK Tryz.prog 67 (memoF ehb7 eha7 ehv7 eho7) := memo_ok K67b ehs7 ehr7
def ehb8 : List (List V) := []
def eha8 : List V := [(.i .i64 3)]
def ehv8 : V := (.so (.o (.o (.i (.i (.i .h))))) 0 3 3 3)
def eho8 : List (Pos × List V) := [((.o (.o (.i (.i (.i .h))))), ey2)]
theorem ehs8 : stat ehb8 eha8 ehv8 eho8 = true := by kernel_rfl
theorem ehr8 : runOk (un 1 F17b eha8 (mkS ehb8) fun v S => some (v, S)) ehv8 eho8 = true := by kernel_rfl
theorem ehm8 : FOK Tryz.prog 17 (memoF ehb8 eha8 ehv8 eho8) := memo_ok K17b ehs8 ehr8
def ehb9 : List (List V) := []
def eha9 : List V := [(.i .i64 4)]
def ehv9 : V := (.sl (.i (.i (.o (.o .h)))) 0 3 3)
def eho9 : List (Pos × List V) := [((.i (.i (.o (.o .h)))), [(.i .i64 1), (.i .i64 0), (.i .i64 1)])]
theorem ehs9 : stat ehb9 eha9 ehv9 eho9 = true := by kernel_rfl
theorem ehr9 : runOk (un 1 F66 eha9 (mkS ehb9) fun v S => some (v, S)) ehv9 eho9 = true := by kernel_rfl
theorem ehm9 : FOK Tryz.prog 66 (memoF ehb9 eha9 ehv9 eho9) := memo_ok K66 ehs9 ehr9
def ehb10 : List (List V) := []
def eha10 : List V := [(.i .i64 4)]
def ehv10 : V := (.so (.o (.o .h)) 0 2 2 1)
def eho10 : List (Pos × List V) := [((.o (.o .h)), [(.i .i64 1), (.i .i64 3)])]
theorem ehs10 : stat ehb10 eha10 ehv10 eho10 = true := by kernel_rfl
theorem ehr10 : runOk (un 1 F67b eha10 (mkS ehb10) fun v S => some (v, S)) ehv10 eho10 = true := by kernel_rfl
theorem ehm10 : FOK Tryz.prog 67 (memoF ehb10 eha10 ehv10 eho10) := memo_ok K67b ehs10 ehr10
def ehb11 : List (List V) := []
def eha11 : List V := [(.i .i64 4)]
def ehv11 : V := (.so (.o (.i (.o (.o (.i .h))))) 0 3 3 3)
def eho11 : List (Pos × List V) := [((.o (.i (.o (.o (.i .h))))), ey3)]
theorem ehs11 : stat ehb11 eha11 ehv11 eho11 = true := by kernel_rfl
theorem ehr11 : runOk (un 1 F17b eha11 (mkS ehb11) fun v S => some (v, S)) ehv11 eho11 = true := by kernel_rfl
theorem ehm11 : FOK Tryz.prog 17 (memoF ehb11 eha11 ehv11 eho11) := memo_ok K17b ehs11 ehr11
def ehb12 : List (List V) := []
def eha12 : List V := [(.i .i64 5)]
def ehv12 : V := (.sl (.i (.i .h)) 0 5 5)
def eho12 : List (Pos × List V) := [((.i (.i .h)), ey4)]
theorem ehs12 : stat ehb12 eha12 ehv12 eho12 = true := by kernel_rfl
theorem ehr12 : runOk (un 1 F66 eha12 (mkS ehb12) fun v S => some (v, S)) ehv12 eho12 = true := by kernel_rfl
theorem ehm12 : FOK Tryz.prog 66 (memoF ehb12 eha12 ehv12 eho12) := memo_ok K66 ehs12 ehr12
def ehb13 : List (List V) := []
def eha13 : List V := [(.i .i64 5)]
def ehv13 : V := (.so (.o (.o (.o .h))) 0 4 4 1)
def eho13 : List (Pos × List V) := [((.o (.o (.o .h))), [(.i .i64 1), (.i .i64 2), (.i .i64 3), (.i .i64 4)])]
theorem ehs13 : stat ehb13 eha13 ehv13 eho13 = true := by kernel_rfl
theorem ehr13 : runOk (un 1 F67b eha13 (mkS ehb13) fun v S => some (v, S)) ehv13 eho13 = true := by kernel_rfl
theorem ehm13 : FOK Tryz.prog 67 (memoF ehb13 eha13 ehv13 eho13) := memo_ok K67b ehs13 ehr13
def ehb14 : List (List V) := []
def eha14 : List V := [(.i .i64 5)]
def ehv14 : V := (.so (.o (.o (.i (.o (.i (.o .h)))))) 0 5 5 3)
def eho14 : List (Pos × List V) := [((.o (.o (.i (.o (.i (.o .h)))))), ey5)]
theorem ehs14 : stat ehb14 eha14 ehv14 eho14 = true := by kernel_rfl
theorem ehr14 : runOk (un 1 F17b eha14 (mkS ehb14) fun v S => some (v, S)) ehv14 eho14 = true := by kernel_rfl
theorem ehm14 : FOK Tryz.prog 17 (memoF ehb14 eha14 ehv14 eho14) := memo_ok K17b ehs14 ehr14
def ehb15 : List (List V) := []
def eha15 : List V := [(.i .i64 6)]
def ehv15 : V := (.sl (.i (.i (.i (.i .h)))) 0 3 3)
def eho15 : List (Pos × List V) := [((.i (.i (.i (.i .h)))), [(.i .i64 1), (.i .i64 18446744073709551615), (.i .i64 1)])]
theorem ehs15 : stat ehb15 eha15 ehv15 eho15 = true := by kernel_rfl
theorem ehr15 : runOk (un 1 F66 eha15 (mkS ehb15) fun v S => some (v, S)) ehv15 eho15 = true := by kernel_rfl
theorem ehm15 : FOK Tryz.prog 66 (memoF ehb15 eha15 ehv15 eho15) := memo_ok K66 ehs15 ehr15
def ehb16 : List (List V) := []
def eha16 : List V := [(.i .i64 6)]
def ehv16 : V := (.so (.o (.o .h)) 0 2 2 1)
def eho16 : List (Pos × List V) := [((.o (.o .h)), [(.i .i64 1), (.i .i64 5)])]
theorem ehs16 : stat ehb16 eha16 ehv16 eho16 = true := by kernel_rfl
theorem ehr16 : runOk (un 1 F67b eha16 (mkS ehb16) fun v S => some (v, S)) ehv16 eho16 = true := by kernel_rfl
theorem ehm16 : FOK Tryz.prog 67 (memoF ehb16 eha16 ehv16 eho16) := memo_ok K67b ehs16 ehr16
def ehb17 : List (List V) := []
def eha17 : List V := [(.i .i64 6)]
def ehv17 : V := (.so (.o (.i (.o (.o (.i (.o .h)))))) 0 3 3 3)
def eho17 : List (Pos × List V) := [((.o (.i (.o (.o (.i (.o .h)))))), ey6)]
theorem ehs17 : stat ehb17 eha17 ehv17 eho17 = true := by kernel_rfl
theorem ehr17 : runOk (un 1 F17b eha17 (mkS ehb17) fun v S => some (v, S)) ehv17 eho17 = true := by kernel_rfl
theorem ehm17 : FOK Tryz.prog 17 (memoF ehb17 eha17 ehv17 eho17) := memo_ok K17b ehs17 ehr17
def ehb18 : List (List V) := []
def eha18 : List V := [(.i .i64 7)]
def ehv18 : V := (.sl (.i (.i .h)) 0 7 7)
def eho18 : List (Pos × List V) := [((.i (.i .h)), ey7)]
theorem ehs18 : stat ehb18 eha18 ehv18 eho18 = true := by kernel_rfl
theorem ehr18 : runOk (un 1 F66 eha18 (mkS ehb18) fun v S => some (v, S)) ehv18 eho18 = true := by kernel_rfl
theorem ehm18 : FOK Tryz.prog 66 (memoF ehb18 eha18 ehv18 eho18) := memo_ok K66 ehs18 ehr18
def ehb19 : List (List V) := []
def eha19 : List V := [(.i .i64 7)]
def ehv19 : V := (.so (.o (.o (.i .h))) 0 6 6 1)
def eho19 : List (Pos × List V) := [((.o (.o (.i .h))), ey8)]
theorem ehs19 : stat ehb19 eha19 ehv19 eho19 = true := by kernel_rfl
theorem ehr19 : runOk (un 1 F67b eha19 (mkS ehb19) fun v S => some (v, S)) ehv19 eho19 = true := by kernel_rfl
theorem ehm19 : FOK Tryz.prog 67 (memoF ehb19 eha19 ehv19 eho19) := memo_ok K67b ehs19 ehr19
def ehb20 : List (List V) := []
def eha20 : List V := [(.i .i64 7)]
def ehv20 : V := (.so (.o (.o (.i (.i (.o (.i .h)))))) 0 7 7 3)
def eho20 : List (Pos × List V) := [((.o (.o (.i (.i (.o (.i .h)))))), ey9)]
theorem ehs20 : stat ehb20 eha20 ehv20 eho20 = true := by kernel_rfl
theorem ehr20 : runOk (un 1 F17b eha20 (mkS ehb20) fun v S => some (v, S)) ehv20 eho20 = true := by kernel_rfl
theorem ehm20 : FOK Tryz.prog 17 (memoF ehb20 eha20 ehv20 eho20) := memo_ok K17b ehs20 ehr20
def ehb21 : List (List V) := []
def eha21 : List V := [(.i .i64 8)]
def ehv21 : V := (.sl (.i (.i (.o (.i (.o .h))))) 0 5 5)
def eho21 : List (Pos × List V) := [((.i (.i (.o (.i (.o .h))))), ey10)]
theorem ehs21 : stat ehb21 eha21 ehv21 eho21 = true := by kernel_rfl
theorem ehr21 : runOk (un 1 F66 eha21 (mkS ehb21) fun v S => some (v, S)) ehv21 eho21 = true := by kernel_rfl
theorem ehm21 : FOK Tryz.prog 66 (memoF ehb21 eha21 ehv21 eho21) := memo_ok K66 ehs21 ehr21
def ehb22 : List (List V) := []
def eha22 : List V := [(.i .i64 8)]
def ehv22 : V := (.so (.o (.o (.o .h))) 0 4 4 1)
def eho22 : List (Pos × List V) := [((.o (.o (.o .h))), [(.i .i64 1), (.i .i64 3), (.i .i64 5), (.i .i64 7)])]
theorem ehs22 : stat ehb22 eha22 ehv22 eho22 = true := by kernel_rfl
theorem ehr22 : runOk (un 1 F67b eha22 (mkS ehb22) fun v S => some (v, S)) ehv22 eho22 = true := by kernel_rfl
theorem ehm22 : FOK Tryz.prog 67 (memoF ehb22 eha22 ehv22 eho22) := memo_ok K67b ehs22 ehr22
def ehb23 : List (List V) := []
def eha23 : List V := [(.i .i64 8)]
def ehv23 : V := (.so (.o (.o (.i (.o (.i .h))))) 0 5 5 3)
def eho23 : List (Pos × List V) := [((.o (.o (.i (.o (.i .h))))), ey11)]
theorem ehs23 : stat ehb23 eha23 ehv23 eho23 = true := by kernel_rfl
theorem ehr23 : runOk (un 1 F17b eha23 (mkS ehb23) fun v S => some (v, S)) ehv23 eho23 = true := by kernel_rfl
theorem ehm23 : FOK Tryz.prog 17 (memoF ehb23 eha23 ehv23 eho23) := memo_ok K17b ehs23 ehr23
def ehb24 : List (List V) := []
def eha24 : List V := [(.i .i64 9)]
def ehv24 : V := (.sl (.i (.i (.o (.o .h)))) 0 7 7)
def eho24 : List (Pos × List V) := [((.i (.i (.o (.o .h)))), ey12)]
theorem ehs24 : stat ehb24 eha24 ehv24 eho24 = true := by kernel_rfl
theorem ehr24 : runOk (un 1 F66 eha24 (mkS ehb24) fun v S => some (v, S)) ehv24 eho24 = true := by kernel_rfl
theorem ehm24 : FOK Tryz.prog 66 (memoF ehb24 eha24 ehv24 eho24) := memo_ok K66 ehs24 ehr24
def ehb25 : List (List V) := []
def eha25 : List V := [(.i .i64 9)]
def ehv25 : V := (.so (.o (.o (.i .h))) 0 6 6 1)
def eho25 : List (Pos × List V) := [((.o (.o (.i .h))), ey13)]
theorem ehs25 : stat ehb25 eha25 ehv25 eho25 = true := by kernel_rfl
theorem ehr25 : runOk (un 1 F67b eha25 (mkS ehb25) fun v S => some (v, S)) ehv25 eho25 = true := by kernel_rfl
theorem ehm25 : FOK Tryz.prog 67 (memoF ehb25 eha25 ehv25 eho25) := memo_ok K67b ehs25 ehr25
def ehb26 : List (List V) := []
def eha26 : List V := [(.i .i64 9)]
def ehv26 : V := (.so (.o (.i (.i (.i (.i .h))))) 0 7 7 3)
def eho26 : List (Pos × List V) := [((.o (.i (.i (.i (.i .h))))), ey14)]
theorem ehs26 : stat ehb26 eha26 ehv26 eho26 = true := by kernel_rfl
theorem ehr26 : runOk (un 1 F17b eha26 (mkS ehb26) fun v S => some (v, S)) ehv26 eho26 = true := by kernel_rfl
theorem ehm26 : FOK Tryz.prog 17 (memoF ehb26 eha26 ehv26 eho26) := memo_ok K17b ehs26 ehr26
def ehb27 : List (List V) := []
def eha27 : List V := [(.i .i64 10)]
def ehv27 : V := (.sl (.i (.i (.i (.i .h)))) 0 5 5)
def eho27 : List (Pos × List V) := [((.i (.i (.i (.i .h)))), ey15)]
theorem ehs27 : stat ehb27 eha27 ehv27 eho27 = true := by kernel_rfl
theorem ehr27 : runOk (un 1 F66 eha27 (mkS ehb27) fun v S => some (v, S)) ehv27 eho27 = true := by kernel_rfl
theorem ehm27 : FOK Tryz.prog 66 (memoF ehb27 eha27 ehv27 eho27) := memo_ok K66 ehs27 ehr27
def ehb28 : List (List V) := []
def eha28 : List V := [(.i .i64 10)]
def ehv28 : V := (.so (.o (.o (.o .h))) 0 4 4 1)
def eho28 : List (Pos × List V) := [((.o (.o (.o .h))), [(.i .i64 1), (.i .i64 3), (.i .i64 7), (.i .i64 9)])]
theorem ehs28 : stat ehb28 eha28 ehv28 eho28 = true := by kernel_rfl
theorem ehr28 : runOk (un 1 F67b eha28 (mkS ehb28) fun v S => some (v, S)) ehv28 eho28 = true := by kernel_rfl
theorem ehm28 : FOK Tryz.prog 67 (memoF ehb28 eha28 ehv28 eho28) := memo_ok K67b ehs28 ehr28
def ehb29 : List (List V) := []
def eha29 : List V := [(.i .i64 10)]
def ehv29 : V := (.so (.o (.i (.o (.i (.o (.i .h)))))) 0 5 5 3)
def eho29 : List (Pos × List V) := [((.o (.i (.o (.i (.o (.i .h)))))), ey16)]
theorem ehs29 : stat ehb29 eha29 ehv29 eho29 = true := by kernel_rfl
theorem ehr29 : runOk (un 1 F17b eha29 (mkS ehb29) fun v S => some (v, S)) ehv29 eho29 = true := by kernel_rfl
theorem ehm29 : FOK Tryz.prog 17 (memoF ehb29 eha29 ehv29 eho29) := memo_ok K17b ehs29 ehr29
def ehb30 : List (List V) := []
def eha30 : List V := [(.i .i64 11)]
def ehv30 : V := (.sl (.i (.i .h)) 0 11 11)
def eho30 : List (Pos × List V) := [((.i (.i .h)), ey17)]
theorem ehs30 : stat ehb30 eha30 ehv30 eho30 = true := by kernel_rfl
theorem ehr30 : runOk (un 1 F66 eha30 (mkS ehb30) fun v S => some (v, S)) ehv30 eho30 = true := by kernel_rfl
theorem ehm30 : FOK Tryz.prog 66 (memoF ehb30 eha30 ehv30 eho30) := memo_ok K66 ehs30 ehr30
def ehb31 : List (List V) := []
def eha31 : List V := [(.i .i64 11)]
def ehv31 : V := (.so (.o (.o (.i (.o .h)))) 0 10 10 1)
def eho31 : List (Pos × List V) := [((.o (.o (.i (.o .h)))), ey18)]
theorem ehs31 : stat ehb31 eha31 ehv31 eho31 = true := by kernel_rfl
theorem ehr31 : runOk (un 1 F67b eha31 (mkS ehb31) fun v S => some (v, S)) ehv31 eho31 = true := by kernel_rfl
theorem ehm31 : FOK Tryz.prog 67 (memoF ehb31 eha31 ehv31 eho31) := memo_ok K67b ehs31 ehr31
def ehb32 : List (List V) := []
def eha32 : List V := [(.i .i64 11)]
def ehv32 : V := (.so (.o (.o (.i (.i (.i (.o (.o .h))))))) 0 11 11 3)
def eho32 : List (Pos × List V) := [((.o (.o (.i (.i (.i (.o (.o .h))))))), ey19)]
theorem ehs32 : stat ehb32 eha32 ehv32 eho32 = true := by kernel_rfl
theorem ehr32 : runOk (un 1 F17b eha32 (mkS ehb32) fun v S => some (v, S)) ehv32 eho32 = true := by kernel_rfl
theorem ehm32 : FOK Tryz.prog 17 (memoF ehb32 eha32 ehv32 eho32) := memo_ok K17b ehs32 ehr32
def ehb33 : List (List V) := []
def eha33 : List V := [(.i .i64 12)]
def ehv33 : V := (.sl (.i (.i (.o (.i (.i (.o .h)))))) 0 5 5)
def eho33 : List (Pos × List V) := [((.i (.i (.o (.i (.i (.o .h)))))), ey20)]
theorem ehs33 : stat ehb33 eha33 ehv33 eho33 = true := by kernel_rfl
theorem ehr33 : runOk (un 1 F66 eha33 (mkS ehb33) fun v S => some (v, S)) ehv33 eho33 = true := by kernel_rfl
theorem ehm33 : FOK Tryz.prog 66 (memoF ehb33 eha33 ehv33 eho33) := memo_ok K66 ehs33 ehr33
def ehb34 : List (List V) := []
def eha34 : List V := [(.i .i64 12)]
def ehv34 : V := (.so (.o (.o (.o .h))) 0 4 4 1)
def eho34 : List (Pos × List V) := [((.o (.o (.o .h))), [(.i .i64 1), (.i .i64 5), (.i .i64 7), (.i .i64 11)])]
theorem ehs34 : stat ehb34 eha34 ehv34 eho34 = true := by kernel_rfl
theorem ehr34 : runOk (un 1 F67b eha34 (mkS ehb34) fun v S => some (v, S)) ehv34 eho34 = true := by kernel_rfl
theorem ehm34 : FOK Tryz.prog 67 (memoF ehb34 eha34 ehv34 eho34) := memo_ok K67b ehs34 ehr34
def ehb35 : List (List V) := []
def eha35 : List V := [(.i .i64 12)]
def ehv35 : V := (.so (.o (.o (.o (.i (.i (.o .h)))))) 0 5 5 3)
def eho35 : List (Pos × List V) := [((.o (.o (.o (.i (.i (.o .h)))))), ey21)]
theorem ehs35 : stat ehb35 eha35 ehv35 eho35 = true := by kernel_rfl
theorem ehr35 : runOk (un 1 F17b eha35 (mkS ehb35) fun v S => some (v, S)) ehv35 eho35 = true := by kernel_rfl
theorem ehm35 : FOK Tryz.prog 17 (memoF ehb35 eha35 ehv35 eho35) := memo_ok K17b ehs35 ehr35
def ehb36 : List (List V) := []
def eha36 : List V := [(.i .i64 13)]
def ehv36 : V := (.sl (.i (.i .h)) 0 13 13)
def eho36 : List (Pos × List V) := [((.i (.i .h)), ey22)]
theorem ehs36 : stat ehb36 eha36 ehv36 eho36 = true := by kernel_rfl
theorem ehr36 : runOk (un 1 F66 eha36 (mkS ehb36) fun v S => some (v, S)) ehv36 eho36 = true := by kernel_rfl
theorem ehm36 : FOK Tryz.prog 66 (memoF ehb36 eha36 ehv36 eho36) := memo_ok K66 ehs36 ehr36
def ehb37 : List (List V) := []
def eha37 : List V := [(.i .i64 13)]
def ehv37 : V := (.so (.o (.o (.o (.i .h)))) 0 12 12 1)
def eho37 : List (Pos × List V) := [((.o (.o (.o (.i .h)))), ey23)]
theorem ehs37 : stat ehb37 eha37 ehv37 eho37 = true := by kernel_rfl
theorem ehr37 : runOk (un 1 F67b eha37 (mkS ehb37) fun v S => some (v, S)) ehv37 eho37 = true := by kernel_rfl
theorem ehm37 : FOK Tryz.prog 67 (memoF ehb37 eha37 ehv37 eho37) := memo_ok K67b ehs37 ehr37
def ehb38 : List (List V) := []
def eha38 : List V := [(.i .i64 13)]
def ehv38 : V := (.so (.o (.o (.i (.o (.i (.i (.o .h))))))) 0 13 13 3)
def eho38 : List (Pos × List V) := [((.o (.o (.i (.o (.i (.i (.o .h))))))), ey24)]
theorem ehs38 : stat ehb38 eha38 ehv38 eho38 = true := by kernel_rfl
theorem ehr38 : runOk (un 1 F17b eha38 (mkS ehb38) fun v S => some (v, S)) ehv38 eho38 = true := by kernel_rfl
theorem ehm38 : FOK Tryz.prog 17 (memoF ehb38 eha38 ehv38 eho38) := memo_ok K17b ehs38 ehr38
def ehb39 : List (List V) := []
def eha39 : List V := [(.i .i64 14)]
def ehv39 : V := (.sl (.i (.i (.i (.i .h)))) 0 7 7)
def eho39 : List (Pos × List V) := [((.i (.i (.i (.i .h)))), ey25)]
theorem ehs39 : stat ehb39 eha39 ehv39 eho39 = true := by kernel_rfl
theorem ehr39 : runOk (un 1 F66 eha39 (mkS ehb39) fun v S => some (v, S)) ehv39 eho39 = true := by kernel_rfl
theorem ehm39 : FOK Tryz.prog 66 (memoF ehb39 eha39 ehv39 eho39) := memo_ok K66 ehs39 ehr39
def ehb40 : List (List V) := []
def eha40 : List V := [(.i .i64 14)]
def ehv40 : V := (.so (.o (.o (.i .h))) 0 6 6 1)
def eho40 : List (Pos × List V) := [((.o (.o (.i .h))), ey26)]
theorem ehs40 : stat ehb40 eha40 ehv40 eho40 = true := by kernel_rfl
theorem ehr40 : runOk (un 1 F67b eha40 (mkS ehb40) fun v S => some (v, S)) ehv40 eho40 = true := by kernel_rfl
theorem ehm40 : FOK Tryz.prog 67 (memoF ehb40 eha40 ehv40 eho40) := memo_ok K67b ehs40 ehr40
def ehb41 : List (List V) := []
def eha41 : List V := [(.i .i64 14)]
def ehv41 : V := (.so (.o (.i (.o (.o (.o (.o (.o .h))))))) 0 7 7 3)
def eho41 : List (Pos × List V) := [((.o (.i (.o (.o (.o (.o (.o .h))))))), ey27)]
theorem ehs41 : stat ehb41 eha41 ehv41 eho41 = true := by kernel_rfl
theorem ehr41 : runOk (un 1 F17b eha41 (mkS ehb41) fun v S => some (v, S)) ehv41 eho41 = true := by kernel_rfl
theorem ehm41 : FOK Tryz.prog 17 (memoF ehb41 eha41 ehv41 eho41) := memo_ok K17b ehs41 ehr41
def ehb42 : List (List V) := []
def eha42 : List V := [(.i .i64 15)]
def ehv42 : V := (.sl (.i (.i (.i (.i .h)))) 0 9 9)
def eho42 : List (Pos × List V) := [((.i (.i (.i (.i .h)))), ey28)]
theorem ehs42 : stat ehb42 eha42 ehv42 eho42 = true := by kernel_rfl
theorem ehr42 : runOk (un 1 F66 eha42 (mkS ehb42) fun v S => some (v, S)) ehv42 eho42 = true := by kernel_rfl
theorem ehm42 : FOK Tryz.prog 66 (memoF ehb42 eha42 ehv42 eho42) := memo_ok K66 ehs42 ehr42
def ehb43 : List (List V) := []
def eha43 : List V := [(.i .i64 15)]
def ehv43 : V := (.so (.o (.o (.o (.o .h)))) 0 8 8 1)
def eho43 : List (Pos × List V) := [((.o (.o (.o (.o .h)))), ey29)]
theorem ehs43 : stat ehb43 eha43 ehv43 eho43 = true := by kernel_rfl
theorem ehr43 : runOk (un 1 F67b eha43 (mkS ehb43) fun v S => some (v, S)) ehv43 eho43 = true := by kernel_rfl
theorem ehm43 : FOK Tryz.prog 67 (memoF ehb43 eha43 ehv43 eho43) := memo_ok K67b ehs43 ehr43
def ehb44 : List (List V) := []
def eha44 : List V := [(.i .i64 15)]
def ehv44 : V := (.so (.o (.i (.o (.o (.o (.o (.o .h))))))) 0 9 9 3)
def eho44 : List (Pos × List V) := [((.o (.i (.o (.o (.o (.o (.o .h))))))), ey30)]
theorem ehs44 : stat ehb44 eha44 ehv44 eho44 = true := by kernel_rfl
theorem ehr44 : runOk (un 1 F17b eha44 (mkS ehb44) fun v S => some (v, S)) ehv44 eho44 = true := by kernel_rfl
theorem ehm44 : FOK Tryz.prog 17 (memoF ehb44 eha44 ehv44 eho44) := memo_ok K17b ehs44 ehr44
def ehb45 : List (List V) := []
def eha45 : List V := [(.i .i64 16)]
def ehv45 : V := (.sl (.i (.i (.o (.i (.i (.o .h)))))) 0 9 9)
def eho45 : List (Pos × List V) := [((.i (.i (.o (.i (.i (.o .h)))))), ey31)]
theorem ehs45 : stat ehb45 eha45 ehv45 eho45 = true := by kernel_rfl
theorem ehr45 : runOk (un 1 F66 eha45 (mkS ehb45) fun v S => some (v, S)) ehv45 eho45 = true := by kernel_rfl
theorem ehm45 : FOK Tryz.prog 66 (memoF ehb45 eha45 ehv45 eho45) := memo_ok K66 ehs45 ehr45
def ehb46 : List (List V) := []
def eha46 : List V := [(.i .i64 16)]
def ehv46 : V := (.so (.o (.o (.o (.o .h)))) 0 8 8 1)
def eho46 : List (Pos × List V) := [((.o (.o (.o (.o .h)))), ey32)]
theorem ehs46 : stat ehb46 eha46 ehv46 eho46 = true := by kernel_rfl
theorem ehr46 : runOk (un 1 F67b eha46 (mkS ehb46) fun v S => some (v, S)) ehv46 eho46 = true := by kernel_rfl
theorem ehm46 : FOK Tryz.prog 67 (memoF ehb46 eha46 ehv46 eho46) := memo_ok K67b ehs46 ehr46
def ehb47 : List (List V) := []
def eha47 : List V := [(.i .i64 16)]
def ehv47 : V := (.so (.o (.i (.i (.o (.i .h))))) 0 9 9 3)
def eho47 : List (Pos × List V) := [((.o (.i (.i (.o (.i .h))))), ey33)]
theorem ehs47 : stat ehb47 eha47 ehv47 eho47 = true := by kernel_rfl
theorem ehr47 : runOk (un 1 F17b eha47 (mkS ehb47) fun v S => some (v, S)) ehv47 eho47 = true := by kernel_rfl
theorem ehm47 : FOK Tryz.prog 17 (memoF ehb47 eha47 ehv47 eho47) := memo_ok K17b ehs47 ehr47
def ehb48 : List (List V) := []
def eha48 : List V := [(.i .i64 17)]
def ehv48 : V := (.sl (.i (.i .h)) 0 17 17)
def eho48 : List (Pos × List V) := [((.i (.i .h)), ey34)]
theorem ehs48 : stat ehb48 eha48 ehv48 eho48 = true := by kernel_rfl
theorem ehr48 : runOk (un 1 F66 eha48 (mkS ehb48) fun v S => some (v, S)) ehv48 eho48 = true := by kernel_rfl
theorem ehm48 : FOK Tryz.prog 66 (memoF ehb48 eha48 ehv48 eho48) := memo_ok K66 ehs48 ehr48
def ehb49 : List (List V) := []
def eha49 : List V := [(.i .i64 17)]
def ehv49 : V := (.so (.o (.o (.o (.o (.o .h))))) 0 16 16 1)
def eho49 : List (Pos × List V) := [((.o (.o (.o (.o (.o .h))))), ey35)]
theorem ehs49 : stat ehb49 eha49 ehv49 eho49 = true := by kernel_rfl
theorem ehr49 : runOk (un 1 F67b eha49 (mkS ehb49) fun v S => some (v, S)) ehv49 eho49 = true := by kernel_rfl
theorem ehm49 : FOK Tryz.prog 67 (memoF ehb49 eha49 ehv49 eho49) := memo_ok K67b ehs49 ehr49
def ehb50 : List (List V) := []
def eha50 : List V := [(.i .i64 17)]
def ehv50 : V := (.so (.o (.o (.i (.o (.o (.i (.i .h))))))) 0 17 17 3)
def eho50 : List (Pos × List V) := [((.o (.o (.i (.o (.o (.i (.i .h))))))), ey36)]
theorem ehs50 : stat ehb50 eha50 ehv50 eho50 = true := by kernel_rfl
theorem ehr50 : runOk (un 1 F17b eha50 (mkS ehb50) fun v S => some (v, S)) ehv50 eho50 = true := by kernel_rfl
theorem ehm50 : FOK Tryz.prog 17 (memoF ehb50 eha50 ehv50 eho50) := memo_ok K17b ehs50 ehr50
def ehb51 : List (List V) := []
def eha51 : List V := [(.i .i64 18)]
def ehv51 : V := (.sl (.i (.i (.o (.i (.i (.o .h)))))) 0 7 7)
def eho51 : List (Pos × List V) := [((.i (.i (.o (.i (.i (.o .h)))))), ey37)]
theorem ehs51 : stat ehb51 eha51 ehv51 eho51 = true := by kernel_rfl
theorem ehr51 : runOk (un 1 F66 eha51 (mkS ehb51) fun v S => some (v, S)) ehv51 eho51 = true := by kernel_rfl
theorem ehm51 : FOK Tryz.prog 66 (memoF ehb51 eha51 ehv51 eho51) := memo_ok K66 ehs51 ehr51
def ehb52 : List (List V) := []
def eha52 : List V := [(.i .i64 18)]
def ehv52 : V := (.so (.o (.o (.i .h))) 0 6 6 1)
def eho52 : List (Pos × List V) := [((.o (.o (.i .h))), ey38)]
theorem ehs52 : stat ehb52 eha52 ehv52 eho52 = true := by kernel_rfl
theorem ehr52 : runOk (un 1 F67b eha52 (mkS ehb52) fun v S => some (v, S)) ehv52 eho52 = true := by kernel_rfl
theorem ehm52 : FOK Tryz.prog 67 (memoF ehb52 eha52 ehv52 eho52) := memo_ok K67b ehs52 ehr52
def ehb53 : List (List V) := []
def eha53 : List V := [(.i .i64 18)]
def ehv53 : V := (.so (.o (.o (.o (.i (.i (.o .h)))))) 0 7 7 3)
def eho53 : List (Pos × List V) := [((.o (.o (.o (.i (.i (.o .h)))))), ey39)]
theorem ehs53 : stat ehb53 eha53 ehv53 eho53 = true := by kernel_rfl
theorem ehr53 : runOk (un 1 F17b eha53 (mkS ehb53) fun v S => some (v, S)) ehv53 eho53 = true := by kernel_rfl
theorem ehm53 : FOK Tryz.prog 17 (memoF ehb53 eha53 ehv53 eho53) := memo_ok K17b ehs53 ehr53
def ehb54 : List (List V) := []
def eha54 : List V := [(.i .i64 19)]
def ehv54 : V := (.sl (.i (.i .h)) 0 19 19)
def eho54 : List (Pos × List V) := [((.i (.i .h)), ey40)]
theorem ehs54 : stat ehb54 eha54 ehv54 eho54 = true := by kernel_rfl
theorem ehr54 : runOk (un 1 F66 eha54 (mkS ehb54) fun v S => some (v, S)) ehv54 eho54 = true := by kernel_rfl
theorem ehm54 : FOK Tryz.prog 66 (memoF ehb54 eha54 ehv54 eho54) := memo_ok K66 ehs54 ehr54
def ehb55 : List (List V) := []
def eha55 : List V := [(.i .i64 19)]
def ehv55 : V := (.so (.o (.o (.i (.o (.o .h))))) 0 18 18 1)
def eho55 : List (Pos × List V) := [((.o (.o (.i (.o (.o .h))))), ey41)]
theorem ehs55 : stat ehb55 eha55 ehv55 eho55 = true := by kernel_rfl
theorem ehr55 : runOk (un 1 F67b eha55 (mkS ehb55) fun v S => some (v, S)) ehv55 eho55 = true := by kernel_rfl
theorem ehm55 : FOK Tryz.prog 67 (memoF ehb55 eha55 ehv55 eho55) := memo_ok K67b ehs55 ehr55
def ehb56 : List (List V) := []
def eha56 : List V := [(.i .i64 19)]
def ehv56 : V := (.so (.o (.o (.i (.i (.i (.i (.i .h))))))) 0 19 19 3)
def eho56 : List (Pos × List V) := [((.o (.o (.i (.i (.i (.i (.i .h))))))), ey42)]
theorem ehs56 : stat ehb56 eha56 ehv56 eho56 = true := by kernel_rfl
theorem ehr56 : runOk (un 1 F17b eha56 (mkS ehb56) fun v S => some (v, S)) ehv56 eho56 = true := by kernel_rfl
theorem ehm56 : FOK Tryz.prog 17 (memoF ehb56 eha56 ehv56 eho56) := memo_ok K17b ehs56 ehr56
def ehb57 : List (List V) := []
def eha57 : List V := [(.i .i64 20)]
def ehv57 : V := (.sl (.i (.i (.o (.i (.i (.o .h)))))) 0 9 9)
def eho57 : List (Pos × List V) := [((.i (.i (.o (.i (.i (.o .h)))))), ey43)]
theorem ehs57 : stat ehb57 eha57 ehv57 eho57 = true := by kernel_rfl
theorem ehr57 : runOk (un 1 F66 eha57 (mkS ehb57) fun v S => some (v, S)) ehv57 eho57 = true := by kernel_rfl
theorem ehm57 : FOK Tryz.prog 66 (memoF ehb57 eha57 ehv57 eho57) := memo_ok K66 ehs57 ehr57
def ehb58 : List (List V) := []
def eha58 : List V := [(.i .i64 20)]
def ehv58 : V := (.so (.o (.o (.o (.o .h)))) 0 8 8 1)
def eho58 : List (Pos × List V) := [((.o (.o (.o (.o .h)))), ey44)]
theorem ehs58 : stat ehb58 eha58 ehv58 eho58 = true := by kernel_rfl
theorem ehr58 : runOk (un 1 F67b eha58 (mkS ehb58) fun v S => some (v, S)) ehv58 eho58 = true := by kernel_rfl
theorem ehm58 : FOK Tryz.prog 67 (memoF ehb58 eha58 ehv58 eho58) := memo_ok K67b ehs58 ehr58
def ehb59 : List (List V) := []
def eha59 : List V := [(.i .i64 20)]
def ehv59 : V := (.so (.o (.o (.o (.o (.i (.i .h)))))) 0 9 9 3)
def eho59 : List (Pos × List V) := [((.o (.o (.o (.o (.i (.i .h)))))), ey45)]
theorem ehs59 : stat ehb59 eha59 ehv59 eho59 = true := by kernel_rfl
theorem ehr59 : runOk (un 1 F17b eha59 (mkS ehb59) fun v S => some (v, S)) ehv59 eho59 = true := by kernel_rfl
theorem ehm59 : FOK Tryz.prog 17 (memoF ehb59 eha59 ehv59 eho59) := memo_ok K17b ehs59 ehr59
def ehb60 : List (List V) := []
def eha60 : List V := [(.i .i64 21)]
def ehv60 : V := (.sl (.i (.i (.i (.i .h)))) 0 13 13)
def eho60 : List (Pos × List V) := [((.i (.i (.i (.i .h)))), ey46)]
theorem ehs60 : stat ehb60 eha60 ehv60 eho60 = true := by kernel_rfl
theorem ehr60 : runOk (un 1 F66 eha60 (mkS ehb60) fun v S => some (v, S)) ehv60 eho60 = true := by kernel_rfl
theorem ehm60 : FOK Tryz.prog 66 (memoF ehb60 eha60 ehv60 eho60) := memo_ok K66 ehs60 ehr60
def ehb61 : List (List V) := []
def eha61 : List V := [(.i .i64 21)]
def ehv61 : V := (.so (.o (.o (.o (.i .h)))) 0 12 12 1)
def eho61 : List (Pos × List V) := [((.o (.o (.o (.i .h)))), ey47)]
theorem ehs61 : stat ehb61 eha61 ehv61 eho61 = true := by kernel_rfl
theorem ehr61 : runOk (un 1 F67b eha61 (mkS ehb61) fun v S => some (v, S)) ehv61 eho61 = true := by kernel_rfl
theorem ehm61 : FOK Tryz.prog 67 (memoF ehb61 eha61 ehv61 eho61) := memo_ok K67b ehs61 ehr61
def ehb62 : List (List V) := []
def eha62 : List V := [(.i .i64 21)]
def ehv62 : V := (.so (.o (.i (.o (.i (.i (.o (.o .h))))))) 0 13 13 3)
def eho62 : List (Pos × List V) := [((.o (.i (.o (.i (.i (.o (.o .h))))))), ey48)]
theorem ehs62 : stat ehb62 eha62 ehv62 eho62 = true := by kernel_rfl
theorem ehr62 : runOk (un 1 F17b eha62 (mkS ehb62) fun v S => some (v, S)) ehv62 eho62 = true := by kernel_rfl
theorem ehm62 : FOK Tryz.prog 17 (memoF ehb62 eha62 ehv62 eho62) := memo_ok K17b ehs62 ehr62
def ehb63 : List (List V) := []
def eha63 : List V := [(.i .i64 22)]
def ehv63 : V := (.sl (.i (.i (.i (.i .h)))) 0 11 11)
def eho63 : List (Pos × List V) := [((.i (.i (.i (.i .h)))), ey49)]
theorem ehs63 : stat ehb63 eha63 ehv63 eho63 = true := by kernel_rfl
theorem ehr63 : runOk (un 1 F66 eha63 (mkS ehb63) fun v S => some (v, S)) ehv63 eho63 = true := by kernel_rfl
theorem ehm63 : FOK Tryz.prog 66 (memoF ehb63 eha63 ehv63 eho63) := memo_ok K66 ehs63 ehr63
def ehb64 : List (List V) := []
def eha64 : List V := [(.i .i64 22)]
def ehv64 : V := (.so (.o (.o (.i (.o .h)))) 0 10 10 1)
def eho64 : List (Pos × List V) := [((.o (.o (.i (.o .h)))), ey50)]
theorem ehs64 : stat ehb64 eha64 ehv64 eho64 = true := by kernel_rfl
theorem ehr64 : runOk (un 1 F67b eha64 (mkS ehb64) fun v S => some (v, S)) ehv64 eho64 = true := by kernel_rfl
theorem ehm64 : FOK Tryz.prog 67 (memoF ehb64 eha64 ehv64 eho64) := memo_ok K67b ehs64 ehr64
def ehb65 : List (List V) := []
def eha65 : List V := [(.i .i64 22)]
def ehv65 : V := (.so (.o (.i (.o (.o (.i (.i (.o .h))))))) 0 11 11 3)
def eho65 : List (Pos × List V) := [((.o (.i (.o (.o (.i (.i (.o .h))))))), ey51)]
theorem ehs65 : stat ehb65 eha65 ehv65 eho65 = true := by kernel_rfl
theorem ehr65 : runOk (un 1 F17b eha65 (mkS ehb65) fun v S => some (v, S)) ehv65 eho65 = true := by kernel_rfl
theorem ehm65 : FOK Tryz.prog 17 (memoF ehb65 eha65 ehv65 eho65) := memo_ok K17b ehs65 ehr65
def ehb66 : List (List V) := []
def eha66 : List V := [(.i .i64 23)]
def ehv66 : V := (.sl (.i (.i .h)) 0 23 23)
def eho66 : List (Pos × List V) := [((.i (.i .h)), ey52)]
theorem ehs66 : stat ehb66 eha66 ehv66 eho66 = true := by kernel_rfl
theorem ehr66 : runOk (un 1 F66 eha66 (mkS ehb66) fun v S => some (v, S)) ehv66 eho66 = true := by kernel_rfl
theorem ehm66 : FOK Tryz.prog 66 (memoF ehb66 eha66 ehv66 eho66) := memo_ok K66 ehs66 ehr66
def ehb67 : List (List V) := []
def eha67 : List V := [(.i .i64 23)]
def ehv67 : V := (.so (.o (.o (.i (.i (.o .h))))) 0 22 22 1)
def eho67 : List (Pos × List V) := [((.o (.o (.i (.i (.o .h))))), ey53)]
theorem ehs67 : stat ehb67 eha67 ehv67 eho67 = true := by kernel_rfl
theorem ehr67 : runOk (un 1 F67b eha67 (mkS ehb67) fun v S => some (v, S)) ehv67 eho67 = true := by kernel_rfl
theorem ehm67 : FOK Tryz.prog 67 (memoF ehb67 eha67 ehv67 eho67) := memo_ok K67b ehs67 ehr67
def ehb68 : List (List V) := []
def eha68 : List V := [(.i .i64 23)]
def ehv68 : V := (.so (.o (.o (.i (.i (.o (.i (.o (.o .h)))))))) 0 23 23 3)
def eho68 : List (Pos × List V) := [((.o (.o (.i (.i (.o (.i (.o (.o .h)))))))), ey54)]
theorem ehs68 : stat ehb68 eha68 ehv68 eho68 = true := by kernel_rfl
theorem ehr68 : runOk (un 1 F17b eha68 (mkS ehb68) fun v S => some (v, S)) ehv68 eho68 = true := by kernel_rfl
theorem ehm68 : FOK Tryz.prog 17 (memoF ehb68 eha68 ehv68 eho68) := memo_ok K17b ehs68 ehr68
def ehb69 : List (List V) := []
def eha69 : List V := [(.i .i64 24)]
def ehv69 : V := (.sl (.i (.i (.o (.i (.o (.i (.i .h))))))) 0 9 9)
def eho69 : List (Pos × List V) := [((.i (.i (.o (.i (.o (.i (.i .h))))))), ey55)]
theorem ehs69 : stat ehb69 eha69 ehv69 eho69 = true := by kernel_rfl
theorem ehr69 : runOk (un 1 F66 eha69 (mkS ehb69) fun v S => some (v, S)) ehv69 eho69 = true := by kernel_rfl
theorem ehm69 : FOK Tryz.prog 66 (memoF ehb69 eha69 ehv69 eho69) := memo_ok K66 ehs69 ehr69
def ehb70 : List (List V) := []
def eha70 : List V := [(.i .i64 24)]
def ehv70 : V := (.so (.o (.o (.o (.o .h)))) 0 8 8 1)
def eho70 : List (Pos × List V) := [((.o (.o (.o (.o .h)))), ey56)]
theorem ehs70 : stat ehb70 eha70 ehv70 eho70 = true := by kernel_rfl
theorem ehr70 : runOk (un 1 F67b eha70 (mkS ehb70) fun v S => some (v, S)) ehv70 eho70 = true := by kernel_rfl
theorem ehm70 : FOK Tryz.prog 67 (memoF ehb70 eha70 ehv70 eho70) := memo_ok K67b ehs70 ehr70
def ehb71 : List (List V) := []
def eha71 : List V := [(.i .i64 24)]
def ehv71 : V := (.so (.o (.i (.i (.i (.i (.o .h)))))) 0 9 9 3)
def eho71 : List (Pos × List V) := [((.o (.i (.i (.i (.i (.o .h)))))), ey57)]
theorem ehs71 : stat ehb71 eha71 ehv71 eho71 = true := by kernel_rfl
theorem ehr71 : runOk (un 1 F17b eha71 (mkS ehb71) fun v S => some (v, S)) ehv71 eho71 = true := by kernel_rfl
theorem ehm71 : FOK Tryz.prog 17 (memoF ehb71 eha71 ehv71 eho71) := memo_ok K17b ehs71 ehr71
def ehb72 : List (List V) := []
def eha72 : List V := [(.i .i64 25)]
def ehv72 : V := (.sl (.i (.i (.o (.o .h)))) 0 21 21)
def eho72 : List (Pos × List V) := [((.i (.i (.o (.o .h)))), ey58)]
theorem ehs72 : stat ehb72 eha72 ehv72 eho72 = true := by kernel_rfl
theorem ehr72 : runOk (un 1 F66 eha72 (mkS ehb72) fun v S => some (v, S)) ehv72 eho72 = true := by kernel_rfl
theorem ehm72 : FOK Tryz.prog 66 (memoF ehb72 eha72 ehv72 eho72) := memo_ok K66 ehs72 ehr72
def ehb73 : List (List V) := []
def eha73 : List V := [(.i .i64 25)]
def ehv73 : V := (.so (.o (.o (.o (.i (.o .h))))) 0 20 20 1)
def eho73 : List (Pos × List V) := [((.o (.o (.o (.i (.o .h))))), ey59)]
theorem ehs73 : stat ehb73 eha73 ehv73 eho73 = true := by kernel_rfl
theorem ehr73 : runOk (un 1 F67b eha73 (mkS ehb73) fun v S => some (v, S)) ehv73 eho73 = true := by kernel_rfl
theorem ehm73 : FOK Tryz.prog 67 (memoF ehb73 eha73 ehv73 eho73) := memo_ok K67b ehs73 ehr73
def ehb74 : List (List V) := []
def eha74 : List V := [(.i .i64 25)]
def ehv74 : V := (.so (.o (.i (.i (.o (.i (.o .h)))))) 0 21 21 3)
def eho74 : List (Pos × List V) := [((.o (.i (.i (.o (.i (.o .h)))))), ey60)]
theorem ehs74 : stat ehb74 eha74 ehv74 eho74 = true := by kernel_rfl
theorem ehr74 : runOk (un 1 F17b eha74 (mkS ehb74) fun v S => some (v, S)) ehv74 eho74 = true := by kernel_rfl
theorem ehm74 : FOK Tryz.prog 17 (memoF ehb74 eha74 ehv74 eho74) := memo_ok K17b ehs74 ehr74
def ehb75 : List (List V) := []
def eha75 : List V := [(.i .i64 26)]
def ehv75 : V := (.sl (.i (.i (.i (.i .h)))) 0 13 13)
def eho75 : List (Pos × List V) := [((.i (.i (.i (.i .h)))), ey61)]
theorem ehs75 : stat ehb75 eha75 ehv75 eho75 = true := by kernel_rfl
theorem ehr75 : runOk (un 1 F66 eha75 (mkS ehb75) fun v S => some (v, S)) ehv75 eho75 = true := by kernel_rfl
theorem ehm75 : FOK Tryz.prog 66 (memoF ehb75 eha75 ehv75 eho75) := memo_ok K66 ehs75 ehr75
def ehb76 : List (List V) := []
def eha76 : List V := [(.i .i64 26)]
def ehv76 : V := (.so (.o (.o (.o (.i .h)))) 0 12 12 1)
def eho76 : List (Pos × List V) := [((.o (.o (.o (.i .h)))), ey62)]
theorem ehs76 : stat ehb76 eha76 ehv76 eho76 = true := by kernel_rfl
theorem ehr76 : runOk (un 1 F67b eha76 (mkS ehb76) fun v S => some (v, S)) ehv76 eho76 = true := by kernel_rfl
theorem ehm76 : FOK Tryz.prog 67 (memoF ehb76 eha76 ehv76 eho76) := memo_ok K67b ehs76 ehr76
def ehb77 : List (List V) := []
def eha77 : List V := [(.i .i64 26)]
def ehv77 : V := (.so (.o (.i (.o (.i (.o (.o (.i .h))))))) 0 13 13 3)
def eho77 : List (Pos × List V) := [((.o (.i (.o (.i (.o (.o (.i .h))))))), ey63)]
theorem ehs77 : stat ehb77 eha77 ehv77 eho77 = true := by kernel_rfl
theorem ehr77 : runOk (un 1 F17b eha77 (mkS ehb77) fun v S => some (v, S)) ehv77 eho77 = true := by kernel_rfl
theorem ehm77 : FOK Tryz.prog 17 (memoF ehb77 eha77 ehv77 eho77) := memo_ok K17b ehs77 ehr77
def ehb78 : List (List V) := []
def eha78 : List V := [(.i .i64 27)]
def ehv78 : V := (.sl (.i (.i (.o (.i (.o .h))))) 0 19 19)
def eho78 : List (Pos × List V) := [((.i (.i (.o (.i (.o .h))))), ey64)]
theorem ehs78 : stat ehb78 eha78 ehv78 eho78 = true := by kernel_rfl
theorem ehr78 : runOk (un 1 F66 eha78 (mkS ehb78) fun v S => some (v, S)) ehv78 eho78 = true := by kernel_rfl
theorem ehm78 : FOK Tryz.prog 66 (memoF ehb78 eha78 ehv78 eho78) := memo_ok K66 ehs78 ehr78
def ehb79 : List (List V) := []
def eha79 : List V := [(.i .i64 27)]
def ehv79 : V := (.so (.o (.o (.i (.o (.o .h))))) 0 18 18 1)
def eho79 : List (Pos × List V) := [((.o (.o (.i (.o (.o .h))))), ey65)]
theorem ehs79 : stat ehb79 eha79 ehv79 eho79 = true := by kernel_rfl
theorem ehr79 : runOk (un 1 F67b eha79 (mkS ehb79) fun v S => some (v, S)) ehv79 eho79 = true := by kernel_rfl
theorem ehm79 : FOK Tryz.prog 67 (memoF ehb79 eha79 ehv79 eho79) := memo_ok K67b ehs79 ehr79
def ehb80 : List (List V) := []
def eha80 : List V := [(.i .i64 27)]
def ehv80 : V := (.so (.o (.o (.o (.o (.o (.o .h)))))) 0 19 19 3)
def eho80 : List (Pos × List V) := [((.o (.o (.o (.o (.o (.o .h)))))), ey66)]
theorem ehs80 : stat ehb80 eha80 ehv80 eho80 = true := by kernel_rfl
theorem ehr80 : runOk (un 1 F17b eha80 (mkS ehb80) fun v S => some (v, S)) ehv80 eho80 = true := by kernel_rfl
theorem ehm80 : FOK Tryz.prog 17 (memoF ehb80 eha80 ehv80 eho80) := memo_ok K17b ehs80 ehr80
def ehb81 : List (List V) := []
def eha81 : List V := [(.i .i64 28)]
def ehv81 : V := (.sl (.i (.i (.o (.i (.i (.o .h)))))) 0 13 13)
def eho81 : List (Pos × List V) := [((.i (.i (.o (.i (.i (.o .h)))))), ey67)]
theorem ehs81 : stat ehb81 eha81 ehv81 eho81 = true := by kernel_rfl
theorem ehr81 : runOk (un 1 F66 eha81 (mkS ehb81) fun v S => some (v, S)) ehv81 eho81 = true := by kernel_rfl
theorem ehm81 : FOK Tryz.prog 66 (memoF ehb81 eha81 ehv81 eho81) := memo_ok K66 ehs81 ehr81
def ehb82 : List (List V) := []
def eha82 : List V := [(.i .i64 28)]
def ehv82 : V := (.so (.o (.o (.o (.i .h)))) 0 12 12 1)
def eho82 : List (Pos × List V) := [((.o (.o (.o (.i .h)))), ey68)]
theorem ehs82 : stat ehb82 eha82 ehv82 eho82 = true := by kernel_rfl
theorem ehr82 : runOk (un 1 F67b eha82 (mkS ehb82) fun v S => some (v, S)) ehv82 eho82 = true := by kernel_rfl
theorem ehm82 : FOK Tryz.prog 67 (memoF ehb82 eha82 ehv82 eho82) := memo_ok K67b ehs82 ehr82
def ehb83 : List (List V) := []
def eha83 : List V := [(.i .i64 28)]
def ehv83 : V := (.so (.o (.o (.o (.i (.o (.o (.o .h))))))) 0 13 13 3)
def eho83 : List (Pos × List V) := [((.o (.o (.o (.i (.o (.o (.o .h))))))), ey69)]
theorem ehs83 : stat ehb83 eha83 ehv83 eho83 = true := by kernel_rfl
theorem ehr83 : runOk (un 1 F17b eha83 (mkS ehb83) fun v S => some (v, S)) ehv83 eho83 = true := by kernel_rfl
theorem ehm83 : FOK Tryz.prog 17 (memoF ehb83 eha83 ehv83 eho83) := memo_ok K17b ehs83 ehr83
def ehb84 : List (List V) := []
def eha84 : List V := [(.i .i64 30)]
def ehv84 : V := (.sl (.i (.i (.i (.o (.i (.o (.o .h))))))) 0 9 9)
def eho84 : List (Pos × List V) := [((.i (.i (.i (.o (.i (.o (.o .h))))))), ey70)]
theorem ehs84 : stat ehb84 eha84 ehv84 eho84 = true := by kernel_rfl
theorem ehr84 : runOk (un 1 F66 eha84 (mkS ehb84) fun v S => some (v, S)) ehv84 eho84 = true := by kernel_rfl
theorem ehm84 : FOK Tryz.prog 66 (memoF ehb84 eha84 ehv84 eho84) := memo_ok K66 ehs84 ehr84
def ehb85 : List (List V) := []
def eha85 : List V := [(.i .i64 30)]
def ehv85 : V := (.so (.o (.o (.o (.o .h)))) 0 8 8 1)
def eho85 : List (Pos × List V) := [((.o (.o (.o (.o .h)))), ey71)]
theorem ehs85 : stat ehb85 eha85 ehv85 eho85 = true := by kernel_rfl
theorem ehr85 : runOk (un 1 F67b eha85 (mkS ehb85) fun v S => some (v, S)) ehv85 eho85 = true := by kernel_rfl
theorem ehm85 : FOK Tryz.prog 67 (memoF ehb85 eha85 ehv85 eho85) := memo_ok K67b ehs85 ehr85
def ehb86 : List (List V) := []
def eha86 : List V := [(.i .i64 30)]
def ehv86 : V := (.so (.o (.i (.o (.o (.i (.i (.o .h))))))) 0 9 9 3)
def eho86 : List (Pos × List V) := [((.o (.i (.o (.o (.i (.i (.o .h))))))), ey72)]
theorem ehs86 : stat ehb86 eha86 ehv86 eho86 = true := by kernel_rfl
theorem ehr86 : runOk (un 1 F17b eha86 (mkS ehb86) fun v S => some (v, S)) ehv86 eho86 = true := by kernel_rfl
theorem ehm86 : FOK Tryz.prog 17 (memoF ehb86 eha86 ehv86 eho86) := memo_ok K17b ehs86 ehr86
def ehb87 : List (List V) := []
def eha87 : List V := [(.i .i64 32)]
def ehv87 : V := (.sl (.i (.i (.o (.i (.i (.i (.o .h))))))) 0 17 17)
def eho87 : List (Pos × List V) := [((.i (.i (.o (.i (.i (.i (.o .h))))))), ey73)]
theorem ehs87 : stat ehb87 eha87 ehv87 eho87 = true := by kernel_rfl
theorem ehr87 : runOk (un 1 F66 eha87 (mkS ehb87) fun v S => some (v, S)) ehv87 eho87 = true := by kernel_rfl
theorem ehm87 : FOK Tryz.prog 66 (memoF ehb87 eha87 ehv87 eho87) := memo_ok K66 ehs87 ehr87
def ehb88 : List (List V) := []
def eha88 : List V := [(.i .i64 32)]
def ehv88 : V := (.so (.o (.o (.o (.o (.o .h))))) 0 16 16 1)
def eho88 : List (Pos × List V) := [((.o (.o (.o (.o (.o .h))))), ey74)]
theorem ehs88 : stat ehb88 eha88 ehv88 eho88 = true := by kernel_rfl
theorem ehr88 : runOk (un 1 F67b eha88 (mkS ehb88) fun v S => some (v, S)) ehv88 eho88 = true := by kernel_rfl
theorem ehm88 : FOK Tryz.prog 67 (memoF ehb88 eha88 ehv88 eho88) := memo_ok K67b ehs88 ehr88
def ehb89 : List (List V) := []
def eha89 : List V := [(.i .i64 32)]
def ehv89 : V := (.so (.o (.o (.o (.i (.i .h))))) 0 17 17 3)
def eho89 : List (Pos × List V) := [((.o (.o (.o (.i (.i .h))))), ey75)]
theorem ehs89 : stat ehb89 eha89 ehv89 eho89 = true := by kernel_rfl
theorem ehr89 : runOk (un 1 F17b eha89 (mkS ehb89) fun v S => some (v, S)) ehv89 eho89 = true := by kernel_rfl
theorem ehm89 : FOK Tryz.prog 17 (memoF ehb89 eha89 ehv89 eho89) := memo_ok K17b ehs89 ehr89
def ehb90 : List (List V) := []
def eha90 : List V := [(.i .i64 33)]
def ehv90 : V := (.sl (.i (.i (.i (.i .h)))) 0 21 21)
def eho90 : List (Pos × List V) := [((.i (.i (.i (.i .h)))), ey76)]
theorem ehs90 : stat ehb90 eha90 ehv90 eho90 = true := by kernel_rfl
theorem ehr90 : runOk (un 1 F66 eha90 (mkS ehb90) fun v S => some (v, S)) ehv90 eho90 = true := by kernel_rfl
theorem ehm90 : FOK Tryz.prog 66 (memoF ehb90 eha90 ehv90 eho90) := memo_ok K66 ehs90 ehr90
def ehb91 : List (List V) := []
def eha91 : List V := [(.i .i64 33)]
def ehv91 : V := (.so (.o (.o (.o (.i (.o .h))))) 0 20 20 1)
def eho91 : List (Pos × List V) := [((.o (.o (.o (.i (.o .h))))), ey77)]
theorem ehs91 : stat ehb91 eha91 ehv91 eho91 = true := by kernel_rfl
theorem ehr91 : runOk (un 1 F67b eha91 (mkS ehb91) fun v S => some (v, S)) ehv91 eho91 = true := by kernel_rfl
theorem ehm91 : FOK Tryz.prog 67 (memoF ehb91 eha91 ehv91 eho91) := memo_ok K67b ehs91 ehr91
def ehb92 : List (List V) := []
def eha92 : List V := [(.i .i64 33)]
def ehv92 : V := (.so (.o (.i (.o (.o (.o (.i (.i .h))))))) 0 21 21 3)
def eho92 : List (Pos × List V) := [((.o (.i (.o (.o (.o (.i (.i .h))))))), ey78)]
theorem ehs92 : stat ehb92 eha92 ehv92 eho92 = true := by kernel_rfl
theorem ehr92 : runOk (un 1 F17b eha92 (mkS ehb92) fun v S => some (v, S)) ehv92 eho92 = true := by kernel_rfl
theorem ehm92 : FOK Tryz.prog 17 (memoF ehb92 eha92 ehv92 eho92) := memo_ok K17b ehs92 ehr92
def ehb93 : List (List V) := []
def eha93 : List V := [(.i .i64 34)]
def ehv93 : V := (.sl (.i (.i (.i (.i .h)))) 0 17 17)
def eho93 : List (Pos × List V) := [((.i (.i (.i (.i .h)))), ey79)]
theorem ehs93 : stat ehb93 eha93 ehv93 eho93 = true := by kernel_rfl
theorem ehr93 : runOk (un 1 F66 eha93 (mkS ehb93) fun v S => some (v, S)) ehv93 eho93 = true := by kernel_rfl
theorem ehm93 : FOK Tryz.prog 66 (memoF ehb93 eha93 ehv93 eho93) := memo_ok K66 ehs93 ehr93
def ehb94 : List (List V) := []
def eha94 : List V := [(.i .i64 34)]
def ehv94 : V := (.so (.o (.o (.o (.o (.o .h))))) 0 16 16 1)
def eho94 : List (Pos × List V) := [((.o (.o (.o (.o (.o .h))))), ey80)]
theorem ehs94 : stat ehb94 eha94 ehv94 eho94 = true := by kernel_rfl
theorem ehr94 : runOk (un 1 F67b eha94 (mkS ehb94) fun v S => some (v, S)) ehv94 eho94 = true := by kernel_rfl
theorem ehm94 : FOK Tryz.prog 67 (memoF ehb94 eha94 ehv94 eho94) := memo_ok K67b ehs94 ehr94
def ehb95 : List (List V) := []
def eha95 : List V := [(.i .i64 34)]
def ehv95 : V := (.so (.o (.i (.o (.i (.i (.i (.i .h))))))) 0 17 17 3)
def eho95 : List (Pos × List V) := [((.o (.i (.o (.i (.i (.i (.i .h))))))), ey81)]
theorem ehs95 : stat ehb95 eha95 ehv95 eho95 = true := by kernel_rfl
theorem ehr95 : runOk (un 1 F17b eha95 (mkS ehb95) fun v S => some (v, S)) ehv95 eho95 = true := by kernel_rfl
theorem ehm95 : FOK Tryz.prog 17 (memoF ehb95 eha95 ehv95 eho95) := memo_ok K17b ehs95 ehr95
def ehb96 : List (List V) := []
def eha96 : List V := [(.i .i64 35)]
def ehv96 : V := (.sl (.i (.i (.i (.i .h)))) 0 25 25)
def eho96 : List (Pos × List V) := [((.i (.i (.i (.i .h)))), ey82)]
theorem ehs96 : stat ehb96 eha96 ehv96 eho96 = true := by kernel_rfl
theorem ehr96 : runOk (un 1 F66 eha96 (mkS ehb96) fun v S => some (v, S)) ehv96 eho96 = true := by kernel_rfl
theorem ehm96 : FOK Tryz.prog 66 (memoF ehb96 eha96 ehv96 eho96) := memo_ok K66 ehs96 ehr96
def ehb97 : List (List V) := []
def eha97 : List V := [(.i .i64 35)]
def ehv97 : V := (.so (.o (.o (.o (.o (.i .h))))) 0 24 24 1)
def eho97 : List (Pos × List V) := [((.o (.o (.o (.o (.i .h))))), ey83)]
theorem ehs97 : stat ehb97 eha97 ehv97 eho97 = true := by kernel_rfl
theorem ehr97 : runOk (un 1 F67b eha97 (mkS ehb97) fun v S => some (v, S)) ehv97 eho97 = true := by kernel_rfl
theorem ehm97 : FOK Tryz.prog 67 (memoF ehb97 eha97 ehv97 eho97) := memo_ok K67b ehs97 ehr97
def ehb98 : List (List V) := []
def eha98 : List V := [(.i .i64 35)]
def ehv98 : V := (.so (.o (.i (.o (.i (.i (.i (.i .h))))))) 0 25 25 3)
def eho98 : List (Pos × List V) := [((.o (.i (.o (.i (.i (.i (.i .h))))))), ey84)]
theorem ehs98 : stat ehb98 eha98 ehv98 eho98 = true := by kernel_rfl
theorem ehr98 : runOk (un 1 F17b eha98 (mkS ehb98) fun v S => some (v, S)) ehv98 eho98 = true := by kernel_rfl
theorem ehm98 : FOK Tryz.prog 17 (memoF ehb98 eha98 ehv98 eho98) := memo_ok K17b ehs98 ehr98
def ehb99 : List (List V) := []
def eha99 : List V := [(.i .i64 36)]
def ehv99 : V := (.sl (.i (.i (.o (.o (.i (.i (.o (.o .h)))))))) 0 13 13)
def eho99 : List (Pos × List V) := [((.i (.i (.o (.o (.i (.i (.o (.o .h)))))))), ey85)]
theorem ehs99 : stat ehb99 eha99 ehv99 eho99 = true := by kernel_rfl
theorem ehr99 : runOk (un 1 F66 eha99 (mkS ehb99) fun v S => some (v, S)) ehv99 eho99 = true := by kernel_rfl
theorem ehm99 : FOK Tryz.prog 66 (memoF ehb99 eha99 ehv99 eho99) := memo_ok K66 ehs99 ehr99
def ehb100 : List (List V) := []
def eha100 : List V := [(.i .i64 36)]
def ehv100 : V := (.so (.o (.o (.o (.i .h)))) 0 12 12 1)
def eho100 : List (Pos × List V) := [((.o (.o (.o (.i .h)))), ey86)]
theorem ehs100 : stat ehb100 eha100 ehv100 eho100 = true := by kernel_rfl
theorem ehr100 : runOk (un 1 F67b eha100 (mkS ehb100) fun v S => some (v, S)) ehv100 eho100 = true := by kernel_rfl
theorem ehm100 : FOK Tryz.prog 67 (memoF ehb100 eha100 ehv100 eho100) := memo_ok K67b ehs100 ehr100
def ehb101 : List (List V) := []
def eha101 : List V := [(.i .i64 36)]
def ehv101 : V := (.so (.o (.i (.o (.o (.o (.i .h)))))) 0 13 13 3)
def eho101 : List (Pos × List V) := [((.o (.i (.o (.o (.o (.i .h)))))), ey87)]
theorem ehs101 : stat ehb101 eha101 ehv101 eho101 = true := by kernel_rfl
theorem ehr101 : runOk (un 1 F17b eha101 (mkS ehb101) fun v S => some (v, S)) ehv101 eho101 = true := by kernel_rfl
theorem ehm101 : FOK Tryz.prog 17 (memoF ehb101 eha101 ehv101 eho101) := memo_ok K17b ehs101 ehr101
def ehb102 : List (List V) := []
def eha102 : List V := [(.i .i64 38)]
def ehv102 : V := (.sl (.i (.i (.i (.i .h)))) 0 19 19)
def eho102 : List (Pos × List V) := [((.i (.i (.i (.i .h)))), ey88)]
theorem ehs102 : stat ehb102 eha102 ehv102 eho102 = true := by kernel_rfl
theorem ehr102 : runOk (un 1 F66 eha102 (mkS ehb102) fun v S => some (v, S)) ehv102 eho102 = true := by kernel_rfl
theorem ehm102 : FOK Tryz.prog 66 (memoF ehb102 eha102 ehv102 eho102) := memo_ok K66 ehs102 ehr102
def ehb103 : List (List V) := []
def eha103 : List V := [(.i .i64 38)]
def ehv103 : V := (.so (.o (.o (.i (.o (.o .h))))) 0 18 18 1)
def eho103 : List (Pos × List V) := [((.o (.o (.i (.o (.o .h))))), ey89)]
theorem ehs103 : stat ehb103 eha103 ehv103 eho103 = true := by kernel_rfl
theorem ehr103 : runOk (un 1 F67b eha103 (mkS ehb103) fun v S => some (v, S)) ehv103 eho103 = true := by kernel_rfl
theorem ehm103 : FOK Tryz.prog 67 (memoF ehb103 eha103 ehv103 eho103) := memo_ok K67b ehs103 ehr103
def ehb104 : List (List V) := []
def eha104 : List V := [(.i .i64 38)]
def ehv104 : V := (.so (.o (.i (.o (.o (.i (.o (.o (.o .h)))))))) 0 19 19 3)
def eho104 : List (Pos × List V) := [((.o (.i (.o (.o (.i (.o (.o (.o .h)))))))), ey90)]
theorem ehs104 : stat ehb104 eha104 ehv104 eho104 = true := by kernel_rfl
theorem ehr104 : runOk (un 1 F17b eha104 (mkS ehb104) fun v S => some (v, S)) ehv104 eho104 = true := by kernel_rfl
theorem ehm104 : FOK Tryz.prog 17 (memoF ehb104 eha104 ehv104 eho104) := memo_ok K17b ehs104 ehr104
def ehb105 : List (List V) := []
def eha105 : List V := [(.i .i64 39)]
def ehv105 : V := (.sl (.i (.i (.i (.i .h)))) 0 25 25)
def eho105 : List (Pos × List V) := [((.i (.i (.i (.i .h)))), ey91)]
theorem ehs105 : stat ehb105 eha105 ehv105 eho105 = true := by kernel_rfl
theorem ehr105 : runOk (un 1 F66 eha105 (mkS ehb105) fun v S => some (v, S)) ehv105 eho105 = true := by kernel_rfl
theorem ehm105 : FOK Tryz.prog 66 (memoF ehb105 eha105 ehv105 eho105) := memo_ok K66 ehs105 ehr105
def ehb106 : List (List V) := []
def eha106 : List V := [(.i .i64 39)]
def ehv106 : V := (.so (.o (.o (.o (.o (.i .h))))) 0 24 24 1)
def eho106 : List (Pos × List V) := [((.o (.o (.o (.o (.i .h))))), ey92)]
theorem ehs106 : stat ehb106 eha106 ehv106 eho106 = true := by kernel_rfl
theorem ehr106 : runOk (un 1 F67b eha106 (mkS ehb106) fun v S => some (v, S)) ehv106 eho106 = true := by kernel_rfl
theorem ehm106 : FOK Tryz.prog 67 (memoF ehb106 eha106 ehv106 eho106) := memo_ok K67b ehs106 ehr106
def ehb107 : List (List V) := []
def eha107 : List V := [(.i .i64 39)]
def ehv107 : V := (.so (.o (.i (.o (.i (.i (.i (.i .h))))))) 0 25 25 3)
def eho107 : List (Pos × List V) := [((.o (.i (.o (.i (.i (.i (.i .h))))))), ey93)]
theorem ehs107 : stat ehb107 eha107 ehv107 eho107 = true := by kernel_rfl
theorem ehr107 : runOk (un 1 F17b eha107 (mkS ehb107) fun v S => some (v, S)) ehv107 eho107 = true := by kernel_rfl
theorem ehm107 : FOK Tryz.prog 17 (memoF ehb107 eha107 ehv107 eho107) := memo_ok K17b ehs107 ehr107
def ehb108 : List (List V) := []
def eha108 : List V := [(.i .i64 40)]
def ehv108 : V := (.sl (.i (.i (.o (.i (.o (.i (.i .h))))))) 0 17 17)
def eho108 : List (Pos × List V) := [((.i (.i (.o (.i (.o (.i (.i .h))))))), ey94)]
theorem ehs108 : stat ehb108 eha108 ehv108 eho108 = true := by kernel_rfl
theorem ehr108 : runOk (un 1 F66 eha108 (mkS ehb108) fun v S => some (v, S)) ehv108 eho108 = true := by kernel_rfl
theorem ehm108 : FOK Tryz.prog 66 (memoF ehb108 eha108 ehv108 eho108) := memo_ok K66 ehs108 ehr108
def ehb109 : List (List V) := []
def eha109 : List V := [(.i .i64 40)]
def ehv109 : V := (.so (.o (.o (.o (.o (.o .h))))) 0 16 16 1)
def eho109 : List (Pos × List V) := [((.o (.o (.o (.o (.o .h))))), ey95)]
theorem ehs109 : stat ehb109 eha109 ehv109 eho109 = true := by kernel_rfl
theorem ehr109 : runOk (un 1 F67b eha109 (mkS ehb109) fun v S => some (v, S)) ehv109 eho109 = true := by kernel_rfl
theorem ehm109 : FOK Tryz.prog 67 (memoF ehb109 eha109 ehv109 eho109) := memo_ok K67b ehs109 ehr109
def ehb110 : List (List V) := []
def eha110 : List V := [(.i .i64 40)]
def ehv110 : V := (.so (.o (.i (.i (.o (.i (.i .h)))))) 0 17 17 3)
def eho110 : List (Pos × List V) := [((.o (.i (.i (.o (.i (.i .h)))))), ey96)]
theorem ehs110 : stat ehb110 eha110 ehv110 eho110 = true := by kernel_rfl
theorem ehr110 : runOk (un 1 F17b eha110 (mkS ehb110) fun v S => some (v, S)) ehv110 eho110 = true := by kernel_rfl
theorem ehm110 : FOK Tryz.prog 17 (memoF ehb110 eha110 ehv110 eho110) := memo_ok K17b ehs110 ehr110
end
end Go.AM
