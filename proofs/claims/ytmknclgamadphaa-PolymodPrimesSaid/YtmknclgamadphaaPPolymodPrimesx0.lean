-- WRITTEN BY sprint.py (a program of this repo, over the kit's print.py): nothing here is trusted, Lean checks it.
import Derived.Test.YtmknclgamadphaaProg
import Derived.Below
import Derived.Deep.Draws
import Derived.Deep.AppendLies
import Derived.Maps.AppendAt
import Derived.OwnWalk
import Derived.Laws.BytesArg
import Derived.Laws.MakeOwn
import Derived.Laws.OwnMore
import Derived.Deep.OwnRows
import Derived.Tactics
import Derived.Lib.ConvBytes
import Derived.Laws.Slices
import Derived.WalkKit
import Derived.KernelRfl
import Derived.RowKit3
import Derived.Deep.LoopGhost
import Derived.Deep.QuietTactic
import Derived.BigQuiet
import Derived.WideLaws
import Derived.Deep.DeepCutAuto
import Derived.Deep.CutBlock
import Derived.Deep.RegionHeld3
import Derived.Laws.Rows
import Derived.Lib.AppendStr
import Derived.ArgAppend
import Derived.Laws.IdiomCopy
import Derived.OrdersHeld
import Derived.Laws.BitsLemmas
import Derived.RowKit
import Derived.Test.YtmknclgamadphaaVWordsPolymodPrimes
import Derived.Test.YtmknclgamadphaaVLastPolymodPrimes
import Derived.Test.YtmknclgamadphaaVTabPolymodPrimes
import Derived.Test.YtmknclgamadphaaVQPutPolymodPrimes
import Derived.Test.YtmknclgamadphaaVApartPolymodPrimes
import Derived.Test.YtmknclgamadphaaVArrPolymodPrimes
import Derived.Test.YtmknclgamadphaaVZerosPolymodPrimes
import Derived.Test.YtmknclgamadphaaVFootPolymodPrimes
import Derived.Test.YtmknclgamadphaaVKeptPolymodPrimes
import Derived.Test.YtmknclgamadphaaVSharePolymodPrimes
import Derived.Test.YtmknclgamadphaaVNPolymodPrimes
import Derived.Test.YtmknclgamadphaaVRepsOnePolymodPrimes
import Derived.Test.YtmknclgamadphaaVGuardPolymodPrimes
import Derived.Test.YtmknclgamadphaaVNEvPolymodPrimes
import Derived.Test.YtmknclgamadphaaVMorePolymodPrimes
namespace Go.Proofs.Ytmknclgamadphaa.PPolymodPrimes
open Go.RowKit Go.Proofs.YtmknclgamadphaaW.PrintWords Go.Proofs.YtmknclgamadphaaW.PrintLast Go.Proofs.YtmknclgamadphaaW.PrintMore
attribute [local go_sem] max2_int min2_int max_two min_two max_three min_three max_four min_four   -- for this text's walks alone
set_option linter.unusedVariables false
set_option linter.unusedSimpArgs false



theorem bA {w W : World} (h : Below w.heap.size w W) (o : Obj) : Below w.heap.size w (W.alloc o) := below_alloc h o
theorem bB {B : Nat} {w W : World} (h : Below B w W) (n : Nat) : Below B w (W.drewN n) := pw_below_drewN h n
theorem bC {B : Nat} {w W : World} (h : Below B w W) : Below B w W.drew := below_drew1 h
theorem vA {α : Type} {d : Kd α} {e : Nat} {W : World} {base : Nat} {ok : Nat → Prop} {v : Value} {xs : List α} (h : Kd.V d e W base ok v xs) (o : Obj) : Kd.V d e (W.alloc o) base ok v xs := Kd.V_alloc h o
theorem vB {α : Type} {d : Kd α} {e : Nat} {W : World} {base : Nat} {ok : Nat → Prop} {v : Value} {xs : List α} (h : Kd.V d e W base ok v xs) (m : Nat) : Kd.V d e (W.drewN m) base ok v xs := Kd.V_drewN h m
theorem vC {α : Type} {d : Kd α} {e : Nat} {W : World} {base : Nat} {ok : Nat → Prop} {v : Value} {xs : List α} (h : Kd.V d e W base ok v xs) : Kd.V d e W.drew base ok v xs := Kd.V_drew h
theorem mA {α β : Type} {f : α → β} {l : List α} : l.toArray.map f = (l.map f).toArray := by simp
theorem mB {α β : Type} {f : α → β} {a : α} {l : List α} : (a :: l).map f = f a :: l.map f := rfl
theorem mC {α β : Type} {f : α → β} : ([] : List α).map f = [] := rfl
theorem lD {α : Type} {i : Nat} {l : List α} : (l.drop i).length = l.length - i := List.length_drop
theorem lT {α : Type} {i : Nat} {l : List α} : (l.take i).length = min i l.length := List.length_take
theorem cA {α : Type} {d : Kd α} {w : World} {A : Option Addr} {n : Nat} {xs : List α} (h : d.C w A n xs) (o : Obj) : d.C (w.alloc o) A n xs := Kd.C_alloc h o
theorem cB {α : Type} {d : Kd α} {w : World} {A : Option Addr} {n : Nat} {xs : List α} (h : d.C w A n xs) (m : Nat) : d.C (w.drewN m) A n xs := Kd.C_drewN h m
theorem cC {α : Type} {d : Kd α} {w : World} {A : Option Addr} {n : Nat} {xs : List α} (h : d.C w A n xs) : d.C w.drew A n xs := Kd.C_drew h
theorem bX {B : Nat} {w W : World} (h : Below B w W := by repeat (first | (with_reducible first | exact HB.out | apply below_alloc | apply pw_below_drewN | apply below_drew1) | exact HB.out)) : Below B w W := h
theorem vX {α : Type} {d : Kd α} {e : Nat} {W W' : World} {base : Nat} {ok : Nat → Prop} {v : Value} {xs : List α} (h : Kd.V d e W base ok v xs) (t : Kd.V d e W base ok v xs → Kd.V d e W' base ok v xs := by intro h_; (with_reducible repeat (first | apply vA | apply vB | apply vC)); exact h_) : Kd.V d e W' base ok v xs := t h
theorem rX {α : Type} {d : Kd α} {e : Nat} {W W' : World} {base : Nat} {ok : Nat → Prop} {v : Value} {xs : List α} (h : Kd.R d e W base ok v xs) (t : Kd.R d e W base ok v xs → Kd.R d e W' base ok v xs := by intro h_; (with_reducible repeat (first | apply Kd.R_alloc | apply Kd.R_drewN | apply Kd.R_drew)); exact h_) : Kd.R d e W' base ok v xs := t h
theorem cX {α : Type} {d : Kd α} {W W' : World} {A : Option Addr} {n : Nat} {xs : List α} (h : d.C W A n xs) (t : d.C W A n xs → d.C W' A n xs := by intro h_; (with_reducible repeat (first | apply cA | apply cB | apply cC)); exact h_) : d.C W' A n xs := t h
theorem mX {α : Type} {a b : α} (h : a = b := by (try simp only [mA, mB, mC]); first | done | rfl | (simp only [lD, lT]; rfl)) : a = b := h
theorem bS {q : Prop} {B : Nat} {w W : World} (g : q) (t : q → Below B w W := by intro hG_; with_reducible repeat (first | exact HB.out | apply bA | apply bB | apply bC | refine below_set ?_ hG_)) : Below B w W := t g
theorem kX {q r : Prop} (h : q) (t : q → r := by intro h_; (with_reducible repeat (first | refine blk_drewN ?_ _ | refine blk_drew ?_ | refine blk_alloc ?_ _)); exact h_) : r := t h
theorem aX {p : Prop} (h : p := by first | (with_reducible assumption) | assumption) : p := h
theorem ak {p : Prop} (h : p) : Aside0 p := ⟨h⟩
theorem sS {α : Type} {l : List α} {i : Nat} {a : α} : l.toArray.setIfInBounds i a = (l.set i a).toArray := by simp
theorem s0 {α : Type} {l : List α} {a b : α} : (a :: l).set 0 b = b :: l := rfl
theorem s1 {α : Type} {l : List α} {i : Nat} {a b : α} : (a :: l).set (i + 1) b = a :: l.set i b := rfl

def errW : Option Int → Value
 | none => .nilIface
 | some c => .iface 0 (.int .i64 c)
theorem errW_none : errW none = .nilIface := rfl
theorem errW_some (c : Int) : errW (some c) = .iface 0 (.int .i64 c) := rfl

theorem info3 : (Try.prog.info? 3).map (fun i => (i.zero, i.size, i.bytes)) = some (some (.int .i64 0), 1, 8) := by kernel_rfl
theorem info5 : (Try.prog.info? 5).map (fun i => (i.zero, i.size, i.bytes)) = some (some (.int .u8 0), 1, 1) := by kernel_rfl
theorem info23 : (Try.prog.info? 23).map (fun i => (i.zero, i.size, i.bytes)) = some (some (.slice none 0 0), 1, 24) := by kernel_rfl
theorem info87 : (Try.prog.info? 87).map (fun i => (i.zero, i.size, i.bytes)) = some (some (.int .u64 0), 1, 8) := by kernel_rfl
theorem info126 : (Try.prog.info? 126).map (fun i => (i.zero, i.size, i.bytes)) = some (some (.agg #[(.int .i64 0), (.int .i64 0)]), 2, 16) := by kernel_rfl
-- the values' own types
/-! #### struct type 126 -/
structure S126 where
 f0 : Int
 f1 : Int
def z126 : S126 := ⟨(0 : Int), (0 : Int)⟩
def k126 : Kd S126 := Kd.iso (Kd.pair (Kd.int .i64) (Kd.int .i64)) (fun x : S126 => (x.f0, x.f1))
theorem k126_heap : Kd.Heap k126 := Kd.heap_iso _ (Kd.heap_pair (Kd.heap_int .i64) (Kd.heap_int .i64))
theorem k126_open {w : World} {x : S126} {cs : List Value} (h : k126.K w x cs) : cs = [.int .i64 x.f0, .int .i64 x.f1] := by
 obtain ⟨_, _, rfl, rfl, rfl⟩ := h
 exact rfl
theorem k126_openM {w : World} {base : Nat} {ok : Nat → Prop} {x : S126} {cs : List Value} (h : k126.M w base ok x cs) : cs = [.int .i64 x.f0, .int .i64 x.f1] := by
 obtain ⟨_, _, rfl, rfl, rfl⟩ := h
 exact rfl
theorem k126_mk (w : World) (x : S126)  : k126.K w x [.int .i64 x.f0, .int .i64 x.f1] := ⟨[.int .i64 x.f0], [.int .i64 x.f1], rfl, rfl, rfl⟩
theorem k126_mkM (w : World) (base : Nat) (ok : Nat → Prop) (x : S126)  : k126.M w base ok x [.int .i64 x.f0, .int .i64 x.f1] := ⟨[.int .i64 x.f0], [.int .i64 x.f1], rfl, rfl, rfl⟩
theorem k126_mkF (W : World) (ok : Nat → Prop) (x : S126) : Kd.FK k126 W ok x [.int .i64 x.f0, .int .i64 x.f1] := fun W2 _ => k126_mk W2 x
def rd_T126 (xs : List S126) (i : Int) : S126 := xs.getD i.toNat z126
theorem at_T126 {w : World} {A : Option Addr} {n : Nat} {xs : List S126} (h : Kd.C k126 w A n xs) (i : Int) (h0 : 0 ≤ i) (h1 : i < n) : ∃ ad , A = some ad ∧ w.cell? (ad.add (i.toNat * 2)) = some (.int .i64 (rd_T126 xs i).f0) ∧ w.cell? ⟨(ad.add (i.toNat * 2)).block, (ad.add (i.toNat * 2)).off + 1, none⟩ = some (.int .i64 (rd_T126 xs i).f1) := by
 obtain ⟨ad, c, e, _, hK, hc0⟩ := Kd.C_get h z126 i h0 h1
 have hc : ∀ j u, c[j]? = some u → w.cell? (ad.add (i.toNat * 2 + j)) = some u := hc0
 obtain rfl := k126_open hK
 exact ⟨ad, e, hc 0 _ rfl, by rw [← add_field _ _ 1 (by omega)]; exact hc 1 _ rfl⟩

def rd_L2 (xs : List (List Int)) (i : Int) : (List Int) := xs.getD i.toNat ([] : List Int)
theorem at_L2 {w : World} {A : Option Addr} {n : Nat} {xs : List (List Int)} (h : Kd.C (Kd.slice 3 (Kd.int .i64)) w A n xs) (i : Int) (h0 : 0 ≤ i) (h1 : i < n) : ∃ ad A0 c0, A = some ad ∧ w.cell? (ad.add i.toNat) = some (.slice A0 (rd_L2 xs i).length c0) ∧ (rd_L2 xs i).length ≤ c0 ∧ (Kd.int .i64).C w A0 (rd_L2 xs i).length (rd_L2 xs i) := by
 obtain ⟨ad, c, e, _, hK, hc0⟩ := Kd.C_get h ([] : List Int) i h0 h1
 have hc : ∀ j u, c[j]? = some u → w.cell? (ad.add (i.toNat * 1 + j)) = some u := hc0
 obtain ⟨A0, c0, rfl, l0, g0⟩ := hK
 exact ⟨ad, A0, c0, e, by have hq := hc 0 _ rfl; rwa [Nat.mul_one, Nat.add_zero] at hq, l0, g0⟩

end Go.Proofs.Ytmknclgamadphaa.PPolymodPrimes
