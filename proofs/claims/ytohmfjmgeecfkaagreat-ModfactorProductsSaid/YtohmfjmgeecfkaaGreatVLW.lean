/- modfactor.Product: the machine's text on rows of rows. -/
import Derived.Test.YtohmfjmgeecfkaaGreatVLV
namespace Go.AM
open Go.Proofs
set_option linter.unusedVariables false
set_option linter.unusedSimpArgs false
set_option linter.constructorNameAsVariable false
set_option maxRecDepth 100000
noncomputable section
variable {S S' : St}
/-- a row with a polynomial and a multiplicity -/
structure Rw where
  v : V
  l : List Nat
  m : Nat
def cellsR : List Rw → List V
  | [] => []
  | r :: ws => r.v :: nn r.m :: cellsR ws
def LRow (S : St) (v : V) (ws : List Rw) : Prop := match v with
  | .sl id off len cap => len = ws.length ∧ ∃ b : Blk, S.h.get id = some b ∧ ∃ t, b.cs.drop off = cellsR ws ++ t
  | .sn => ws = []
  | _ => False
def ROK (S : St) (ws : List Rw) : Prop := ∀ r ∈ ws, Row S r.v r.l ∧ W64 r.l ∧ r.m < 18446744073709551616
theorem LRow.stp {v : V} {ws : List Rw} (h : LRow S v ws) (ok : SOK S) (st : Stp S S') : LRow S' v ws := by
  unfold LRow at h ⊢
  split at h
  · obtain ⟨h1, b, h2, h3⟩ := h
    exact ⟨h1, b, st.get ok h2, h3⟩
  · exact h
  · exact h.elim
theorem ROK.stp {ws : List Rw} (h : ROK S ws) (ok : SOK S) (st : Stp S S') : ROK S' ws := fun r hr => ⟨st.row ok (h r hr).1, (h r hr).2⟩
theorem LRow.len {v : V} {ws : List Rw} (h : LRow S v ws) (hl : ws.length ≤ 9223372036854775807) (c : V → R) : pLen v c = c (nn ws.length) := by
  unfold LRow at h
  split at h
  · obtain ⟨rfl, _⟩ := h
    show gu (Nat.ble ws.length 9223372036854775807) (retI c .i64 ws.length) = _
    rw [Nat.ble_eq_true_of_le hl, gu_true, retI_eq]
  · subst h; rfl
  · exact h.elim
theorem cellsR_drop : ∀ (ws : List Rw) (t : List V) (i : Nat) (r : Rw), ws[i]? = some r → (cellsR ws ++ t).drop (i * 2) = r.v :: nn r.m :: (cellsR (ws.drop (i + 1)) ++ t)
  | [], t, i, r, h => by simp at h
  | w :: ws, t, 0, r, h => by
    simp only [List.getElem?_cons_zero, Option.some.injEq] at h
    subst h; rfl
  | w :: ws, t, i + 1, r, h => by
    rw [List.getElem?_cons_succ] at h
    rw [show (i + 1) * 2 = i * 2 + 1 + 1 by omega]
    exact cellsR_drop ws t i r h
theorem pFa_eq (id : Pos) (o n : Nat) (c : V → R) : pFa n (.p id o) c = c (.p id (o + n)) := by
  show fN (Nat.add o n) (fun o => c (.p id o)) = _
  rw [fN_eq]; rfl
theorem LRow.at_ {v : V} {ws : List Rw} (h : LRow S v ws) (hl : ws.length ≤ 9223372036854775807) {i : Nat} {r : Rw} (hr : ws[i]? = some r) : ∃ q q0 q1, (∀ c, pIdx 2 v (nn i) c = c q) ∧ (∀ c, pLdn 2 q S c = c (.ag [r.v, nn r.m])) ∧ (∀ c, pFa 0 q c = c q0) ∧ (∀ c, pLd q0 S c = c r.v) ∧ (∀ c, pFa 1 q c = c q1) ∧ ∀ c, pLd q1 S c = c (nn r.m) := by
  have hi := (List.getElem?_eq_some_iff.1 hr).1
  unfold LRow at h
  split at h
  · rename_i id off len cap
    obtain ⟨rfl, b, h2, t, h3⟩ := h
    have hd : b.cs.drop (off + i * 2) = r.v :: nn r.m :: (cellsR (ws.drop (i + 1)) ++ t) := by rw [← List.drop_drop, h3]; exact cellsR_drop ws t i r hr
    have g0 : b.cs[off + i * 2]? = some r.v := by
      have : (b.cs.drop (off + i * 2))[0]? = some r.v := by rw [hd]; rfl
      rwa [List.getElem?_drop, Nat.add_zero] at this
    have g1 : b.cs[off + i * 2 + 1]? = some (nn r.m) := by
      have : (b.cs.drop (off + i * 2))[1]? = some (nn r.m) := by rw [hd]; rfl
      rwa [List.getElem?_drop] at this
    have hlt := (List.getElem?_eq_some_iff.1 g0).1
    refine ⟨.p id (off + i * 2), .p id (off + i * 2), .p id (off + i * 2 + 1), fun c => ?_, fun c => ?_, fun c => pFa_eq _ _ _ c, fun c => pLd_eq h2 g0 c, fun c => pFa_eq _ _ _ c, fun c => pLd_eq h2 g1 c⟩
    · show gu (Bool.not (neg .i64 i)) (gu (Nat.blt i ws.length) (fN (Nat.add off (Nat.mul i 2)) (fun o => c (.p id o)))) = _
      rw [neg_n (by omega), blt_eq, decide_eq_true hi, fN_eq]; rfl
    · show cellsAt id S (fun cs => dropK cs (off + i * 2) (fun l => takeK l 2 (fun l => c (.ag l)))) = _
      rw [cellsAt_eq h2, dropK_eq _ _ _ (Nat.le_of_lt hlt), hd, takeK_eq _ _ _ (by simp)]; rfl
  · subst h; simp at hr
  · exact h.elim
theorem pBox_ag (l : List V) (S : St) (c : Cont) : pBox (.ag l) S c = c (.p S.nx 0) (S.new l) := by
  show newK l S (fun nx S' => c (.p nx 0) S') = _
  rw [newK_eq]
theorem pSt2_eq {S : St} {id : Pos} {b : Nat} {y1 y2 x1 x2 : V} (h : S.h.get id = some ⟨b, [y1, y2]⟩) (hb : S.fl ≤ b) (c : St → R) : pSt 2 (.p id 0) (.ag [x1, x2]) S c = c (S.upd id ⟨b, [x1, x2]⟩) := by
  show updK id S 0 [x1, x2] c = _
  show getBK id S.h _ = _
  rw [getBK_eq _ _ _ _ h]
  show gu (Nat.ble S.fl b) _ = _
  rw [Nat.ble_eq_true_of_le hb]
  show setBK id (.mk b [x1, x2]) S.h _ = _
  rw [setBK_eq]; rfl
/-- a copy of a row in a box of its own -/
theorem copy2 (ok : SOK S) (x1 x2 : V) : ∃ S1 a a0 a1, Stp S S1 ∧ (∀ k, pAlloc [.sn, nn 0] S k = k a (S.new [.sn, nn 0])) ∧ (∀ k, pSt 2 a (.ag [x1, x2]) (S.new [.sn, nn 0]) k = k S1) ∧ (∀ c, pFa 0 a c = c a0) ∧ (∀ c, pFa 1 a c = c a1) ∧ ∀ S2, Stp S1 S2 → (∀ c, pLd a0 S2 c = c x1) ∧ ∀ c, pLd a1 S2 c = c x2 := by
  have ok1 := ok.new [.sn, nn 0]
  have hg : (S.new [.sn, nn 0]).h.get S.nx = some ⟨S.cnt, [.sn, nn 0]⟩ := St.new_get _ _
  have hfl := ok.fl
  have hle := ok.le
  have hf : (S.new [.sn, nn 0]).fl ≤ S.cnt := hle
  have ok2 : SOK ((S.new [.sn, nn 0]).upd S.nx ⟨S.cnt, [x1, x2]⟩) := ok1.upd hg (.inl ⟨rfl, show S.cnt ≠ 0 by omega⟩)
  refine ⟨_, .p S.nx 0, .p S.nx 0, .p S.nx 1, ⟨ok2, fun id hid => ?_, rfl, Nat.le_succ _⟩, fun k => pAlloc_eq _ S k, fun k => pSt2_eq hg hf k, fun c => pFa_eq _ _ _ c, fun c => pFa_eq _ _ _ c, fun S2 st => ?_⟩
  · have : id ≠ S.nx := fun e => by rw [e, ok.nx] at hid; omega
    rw [St.upd_get_ne _ this, St.new_get_ne _ this]
  · have := st.get ok2 (St.upd_get (id := S.nx) (S.new [.sn, nn 0]) ⟨S.cnt, [x1, x2]⟩)
    exact ⟨fun c => pLd_eq this (by rfl) c, fun c => pLd_eq this (by rfl) c⟩
/- what Product computes -/
def scan (p : Nat) : List Rw → Nat
  | [] => 0
  | r :: ws => if chk p r.l ≠ 0 then chk p r.l else if r.m < 1 ∨ 64 < r.m then 3 else scan p ws
def degS : List Rw → Nat
  | [] => 0
  | r :: ws => r.m * (r.l.length - 1) + degS ws
def anyE : List Rw → Bool
  | [] => false
  | r :: ws => decide (r.l.length = 0) || anyE ws
def mulI (p : Nat) (P : List Nat) : Nat → List Nat → List Nat
  | 0, o => o
  | n + 1, o => mulI p P n (mulT p o P)
def prodP (p : Nat) : List Rw → List Nat → List Nat
  | [], o => o
  | r :: ws, o => prodP p ws (mulI p r.l r.m o)
theorem chk_len {p : Nat} {l : List Nat} (h : chk p l = 0) : l.length ≤ 65 ∧ pB p = true ∧ Lt p l ∧ Trimd l := by
  unfold chk at h
  split at h
  · rename_i hb
    split at h
    · cases h
    · split at h
      · cases h
      · rename_i h1 h2
        split at h
        · cases h
        · rename_i h3
          refine ⟨by omega, hb, fun x hx => ?_, fun h0 e => h3 ⟨h0, e⟩⟩
          rcases Nat.lt_or_ge x p with h4 | h4
          · exact h4
          · exact absurd (List.any_eq_true.2 ⟨x, hx, decide_eq_true h4⟩) h2
  · cases h
theorem drop_rw {ws : List Rw} {i : Nat} {r : Rw} (h : ws[i]? = some r) : ws.drop i = r :: ws.drop (i + 1) := by
  obtain ⟨hi, e⟩ := List.getElem?_eq_some_iff.1 h
  rw [List.drop_eq_getElem_cons hi, e]
def L1025_1 (f70 : Gn 2) : CS 29 := (cSeq (cReg fun kn A B C D E F G H I J K L M N O P Q R T U V W X Y Z v25 v26 v27 v28 S => pLss G H (fun a0 => kn A B C D E F G H a0 J K L M N O P Q R T U V W X Y Z v25 v26 v27 v28 S)) (cSeq (cCond (fun x y A B C D E F G H I J K L M N O P Q R T U V W X Y Z v25 v26 v27 v28 S => pIf I (x A B C D E F G H I J K L M N O P Q R T U V W X Y Z v25 v26 v27 v28 S) (y A B C D E F G H I J K L M N O P Q R T U V W X Y Z v25 v26 v27 v28 S)) cSkip (cExit 1)) (cSeq (cBlock 2 (cSeq (cReg fun kn A B C D E F G H I J K L M N O P Q R T U V W X Y Z v25 v26 v27 v28 S => pIdx 2 J G (fun a0 => pLdn 2 a0 S (fun a1 => pAlloc [.sn,(.i .i64 0)] S (fun a2 S => pSt 2 a2 a1 S (fun S => kn A B C D E F G H I J a2 L M N O P Q R T U V W X Y Z v25 v26 v27 v28 S))))) (cSeq (cSeq (cReg fun kn A B C D E F G H I J K L M N O P Q R T U V W X Y Z v25 v26 v27 v28 S => pFa 0 K (fun a0 => pLd a0 S (fun a1 => f70 A a1 S (fun a2 S => kn A B C D E F G H I J K a2 M N O P Q R T U V W X Y Z v25 v26 v27 v28 S)))) (cSeq (cReg fun kn A B C D E F G H I J K L M N O P Q R T U V W X Y Z v25 v26 v27 v28 S => pNeq L (.i .i64 0) (fun a0 => kn A B C D E F G H I J K L a0 N O P Q R T U V W X Y Z v25 v26 v27 v28 S)) (cCond (fun x y A B C D E F G H I J K L M N O P Q R T U V W X Y Z v25 v26 v27 v28 S => pIf M (x A B C D E F G H I J K L M N O P Q R T U V W X Y Z v25 v26 v27 v28 S) (y A B C D E F G H I J K L M N O P Q R T U V W X Y Z v25 v26 v27 v28 S)) (cSeq (cReg fun kn A B C D E F G H I J K L M N O P Q R T U V W X Y Z v25 v26 v27 v28 S => kn A B C D E F G H I J K L M N O P Q R T U V W X Y Z v25 v26 .sn L S) cRet) cSkip))) (cSeq (cSeq (cReg fun kn A B C D E F G H I J K L M N O P Q R T U V W X Y Z v25 v26 v27 v28 S => pFa 1 K (fun a0 => pLd a0 S (fun a1 => pLss a1 (.i .i64 1) (fun a2 => pGd a2 false (fun c => pFa 1 K (fun v => c v S)) S (fun a3 S => pGd a2 false (fun c => pLd a3 S (fun v => c v S)) S (fun a4 S => pGd a2 false (fun c => pGtr a4 (.i .i64 64) (fun v => c v S)) S (fun a5 S => pPick a2 (.b true) a5 (fun a6 => kn A B C D E F G H I J K L M a6 O P Q R T U V W X Y Z v25 v26 v27 v28 S)))))))) (cCond (fun x y A B C D E F G H I J K L M N O P Q R T U V W X Y Z v25 v26 v27 v28 S => pIf N (x A B C D E F G H I J K L M N O P Q R T U V W X Y Z v25 v26 v27 v28 S) (y A B C D E F G H I J K L M N O P Q R T U V W X Y Z v25 v26 v27 v28 S)) (cSeq (cReg fun kn A B C D E F G H I J K L M N O P Q R T U V W X Y Z v25 v26 v27 v28 S => kn A B C D E F G H I J K L M N O P Q R T U V W X Y Z v25 v26 .sn (.i .i64 3) S) cRet) cSkip)) (cSeq (cReg fun kn A B C D E F G H I J K L M N O P Q R T U V W X Y Z v25 v26 v27 v28 S => pGd O false (fun c => pFa 0 K (fun v => c v S)) S (fun a0 S => pGd O false (fun c => pLd a0 S (fun v => c v S)) S (fun a1 S => pGd O false (fun c => pLen a1 (fun v => c v S)) S (fun a2 S => pGd O false (fun c => pEql a2 (.i .i64 0) (fun v => c v S)) S (fun a3 S => pPick O (.b true) a3 (fun a4 => kn A B C D E F G H I J K L M N a4 P Q R T U V W X Y Z v25 v26 v27 v28 S)))))) (cReg fun kn A B C D E F G H I J K L M N O P Q R T U V W X Y Z v25 v26 v27 v28 S => pFa 1 K (fun a0 => pLd a0 S (fun a1 => pFa 0 K (fun a2 => pLd a2 S (fun a3 => pLen a3 (fun a4 => pSub a4 (.i .i64 1) (fun a5 => pMx [(.i .i64 0), a5] (fun a6 => pMul a1 a6 (fun a7 => pAdd P a7 (fun a8 => kn A B C D E F G H I J K L M N O a8 Q R T U V W X Y Z v25 v26 v27 v28 S))))))))))))))) (cReg fun kn A B C D E F G H I J K L M N O P Q R T U V W X Y Z v25 v26 v27 v28 S => pAdd G (.i .i64 1) (fun a0 => kn A B C D E F a0 H I J K L M N O P Q R T U V W X Y Z v25 v26 v27 v28 S)))))
def L1025_5 (f67 : Gn 3) : CS 29 := (cSeq (cReg fun kn A B C D E F G H I J K L M N O P Q R T U V W X Y Z v25 v26 v27 v28 S => pLss Y Z (fun a0 => kn A B C D E F G H I J K L M N O P Q R T U V W X Y Z a0 v26 v27 v28 S)) (cSeq (cCond (fun x y A B C D E F G H I J K L M N O P Q R T U V W X Y Z v25 v26 v27 v28 S => pIf v25 (x A B C D E F G H I J K L M N O P Q R T U V W X Y Z v25 v26 v27 v28 S) (y A B C D E F G H I J K L M N O P Q R T U V W X Y Z v25 v26 v27 v28 S)) cSkip (cExit 5)) (cSeq (cBlock 6 (cReg fun kn A B C D E F G H I J K L M N O P Q R T U V W X Y Z v25 v26 v27 v28 S => pFa 0 X (fun a0 => pLd a0 S (fun a1 => f67 A v26 a1 S (fun a2 S => kn A B C D E F G H I J K L M N O P Q R T U V W X Y Z v25 a2 v27 v28 S))))) (cReg fun kn A B C D E F G H I J K L M N O P Q R T U V W X Y Z v25 v26 v27 v28 S => pAdd Y (.i .i64 1) (fun a0 => kn A B C D E F G H I J K L M N O P Q R T U V W X a0 Z v25 v26 v27 v28 S)))))
def L1025_3 (I5 : CS 29) : CS 29 := (cSeq (cReg fun kn A B C D E F G H I J K L M N O P Q R T U V W X Y Z v25 v26 v27 v28 S => pLss T U (fun a0 => kn A B C D E F G H I J K L M N O P Q R T U a0 W X Y Z v25 v26 v27 v28 S)) (cSeq (cCond (fun x y A B C D E F G H I J K L M N O P Q R T U V W X Y Z v25 v26 v27 v28 S => pIf V (x A B C D E F G H I J K L M N O P Q R T U V W X Y Z v25 v26 v27 v28 S) (y A B C D E F G H I J K L M N O P Q R T U V W X Y Z v25 v26 v27 v28 S)) cSkip (cExit 3)) (cSeq (cBlock 4 (cSeq (cReg fun kn A B C D E F G H I J K L M N O P Q R T U V W X Y Z v25 v26 v27 v28 S => pIdx 2 W T (fun a0 => pLdn 2 a0 S (fun a1 => pAlloc [.sn,(.i .i64 0)] S (fun a2 S => pSt 2 a2 a1 S (fun S => kn A B C D E F G H I J K L M N O P Q R T U V W a2 Y Z v25 v26 v27 v28 S))))) (cSeq (cReg fun kn A B C D E F G H I J K L M N O P Q R T U V W X Y Z v25 v26 v27 v28 S => pFa 1 X (fun a0 => pLd a0 S (fun a1 => kn A B C D E F G H I J K L M N O P Q R T U V W X (.i .i64 0) a1 v25 v26 v27 v28 S))) I5))) (cReg fun kn A B C D E F G H I J K L M N O P Q R T U V W X Y Z v25 v26 v27 v28 S => pAdd T (.i .i64 1) (fun a0 => kn A B C D E F G H I J K L M N O P Q R a0 U V W X Y Z v25 v26 v27 v28 S)))))
def H1025_ (f45 : Gn 1) (I1 : CS 29) (I3 : CS 29) : CS 29 := (cSeq (cReg fun kn A B C D E F G H I J K L M N O P Q R T U V W X Y Z v25 v26 v27 v28 S => pBox B S (fun a0 S => kn A B C a0 E F G H I J K L M N O P Q R T U V W X Y Z v25 v26 .sn (.i .i64 0) S)) (cSeq (cBlock 0 (cSeq (cReg fun kn A B C D E F G H I J K L M N O P Q R T U V W X Y Z v25 v26 v27 v28 S => f45 A S (fun a0 S => pNot a0 (fun a1 => kn A B a1 D E F G H I J K L M N O P Q R T U V W X Y Z v25 v26 v27 v28 S))) (cCond (fun x y A B C D E F G H I J K L M N O P Q R T U V W X Y Z v25 v26 v27 v28 S => pIf C (x A B C D E F G H I J K L M N O P Q R T U V W X Y Z v25 v26 v27 v28 S) (y A B C D E F G H I J K L M N O P Q R T U V W X Y Z v25 v26 v27 v28 S)) (cSeq (cReg fun kn A B C D E F G H I J K L M N O P Q R T U V W X Y Z v25 v26 v27 v28 S => kn A B C D E F G H I J K L M N O P Q R T U V W X Y Z v25 v26 .sn (.i .i64 7) S) cRet) (cSeq (cReg fun kn A B C D E F G H I J K L M N O P Q R T U V W X Y Z v25 v26 v27 v28 S => pFa 0 D (fun a0 => pLd a0 S (fun a1 => pLss a1 (.i .i64 0) (fun a2 => pGd a2 false (fun c => pFa 0 D (fun v => c v S)) S (fun a3 S => pGd a2 false (fun c => pLd a3 S (fun v => c v S)) S (fun a4 S => pGd a2 false (fun c => c A S) S (fun a5 S => pGd a2 false (fun c => pGeq a4 a5 (fun v => c v S)) S (fun a6 S => pPick a2 (.b true) a6 (fun a7 => kn A B C D a7 F G H I J K L M N O P Q R T U V W X Y Z v25 v26 v27 v28 S))))))))) (cCond (fun x y A B C D E F G H I J K L M N O P Q R T U V W X Y Z v25 v26 v27 v28 S => pIf E (x A B C D E F G H I J K L M N O P Q R T U V W X Y Z v25 v26 v27 v28 S) (y A B C D E F G H I J K L M N O P Q R T U V W X Y Z v25 v26 v27 v28 S)) (cSeq (cReg fun kn A B C D E F G H I J K L M N O P Q R T U V W X Y Z v25 v26 v27 v28 S => kn A B C D E F G H I J K L M N O P Q R T U V W X Y Z v25 v26 .sn (.i .i64 1) S) cRet) (cSeq (cReg fun kn A B C D E F G H I J K L M N O P Q R T U V W X Y Z v25 v26 v27 v28 S => pFa 1 D (fun a0 => pLd a0 S (fun a1 => pLen a1 (fun a2 => pGtr a2 (.i .i64 256) (fun a3 => kn A B C D E a3 G H I J K L M N O P Q R T U V W X Y Z v25 v26 v27 v28 S))))) (cCond (fun x y A B C D E F G H I J K L M N O P Q R T U V W X Y Z v25 v26 v27 v28 S => pIf F (x A B C D E F G H I J K L M N O P Q R T U V W X Y Z v25 v26 v27 v28 S) (y A B C D E F G H I J K L M N O P Q R T U V W X Y Z v25 v26 v27 v28 S)) (cSeq (cReg fun kn A B C D E F G H I J K L M N O P Q R T U V W X Y Z v25 v26 v27 v28 S => kn A B C D E F G H I J K L M N O P Q R T U V W X Y Z v25 v26 .sn (.i .i64 5) S) cRet) cSkip))))))) (cSeq (cReg fun kn A B C D E F G H I J K L M N O P Q R T U V W X Y Z v25 v26 v27 v28 S => pFa 0 D (fun a0 => pLd a0 S (fun a1 => pEql a1 (.i .i64 0) (fun a2 => kn A B C D E F G H I J K L M N a2 (.i .i64 0) Q R T U V W X Y Z v25 v26 v27 v28 S)))) (cSeq (cSeq (cReg fun kn A B C D E F G H I J K L M N O P Q R T U V W X Y Z v25 v26 v27 v28 S => pFa 1 D (fun a0 => pLd a0 S (fun a1 => pLen a1 (fun a2 => kn A B C D E F (.i .i64 0) a2 I a1 K L M N O P Q R T U V W X Y Z v25 v26 v27 v28 S)))) I1) (cSeq (cSeq (cReg fun kn A B C D E F G H I J K L M N O P Q R T U V W X Y Z v25 v26 v27 v28 S => kn A B C D E F G H I J K L M N O P O R T U V W X Y Z v25 v26 v27 v28 S) (cCond (fun x y A B C D E F G H I J K L M N O P Q R T U V W X Y Z v25 v26 v27 v28 S => pIf Q (x A B C D E F G H I J K L M N O P Q R T U V W X Y Z v25 v26 v27 v28 S) (y A B C D E F G H I J K L M N O P Q R T U V W X Y Z v25 v26 v27 v28 S)) (cSeq (cReg fun kn A B C D E F G H I J K L M N O P Q R T U V W X Y Z v25 v26 v27 v28 S => kn A B C D E F G H I J K L M N O P Q R T U V W X Y Z v25 v26 .sn (.i .i64 0) S) cRet) cSkip)) (cSeq (cSeq (cReg fun kn A B C D E F G H I J K L M N O P Q R T U V W X Y Z v25 v26 v27 v28 S => pGtr P (.i .i64 64) (fun a0 => kn A B C D E F G H I J K L M N O P Q a0 T U V W X Y Z v25 v26 v27 v28 S)) (cCond (fun x y A B C D E F G H I J K L M N O P Q R T U V W X Y Z v25 v26 v27 v28 S => pIf R (x A B C D E F G H I J K L M N O P Q R T U V W X Y Z v25 v26 v27 v28 S) (y A B C D E F G H I J K L M N O P Q R T U V W X Y Z v25 v26 v27 v28 S)) (cSeq (cReg fun kn A B C D E F G H I J K L M N O P Q R T U V W X Y Z v25 v26 v27 v28 S => kn A B C D E F G H I J K L M N O P Q R T U V W X Y Z v25 v26 .sn (.i .i64 4) S) cRet) cSkip)) (cSeq (cReg fun kn A B C D E F G H I J K L M N O P Q R T U V W X Y Z v25 v26 v27 v28 S => pFa 0 D (fun a0 => pLd a0 S (fun a1 => pBsl [(.i .i64 0)] 1 [(0, 1, a1)] S (fun a2 S => kn A B C D E F G H I J K L M N O P Q R T U V W X Y Z v25 a2 v27 v28 S)))) (cSeq (cSeq (cReg fun kn A B C D E F G H I J K L M N O P Q R T U V W X Y Z v25 v26 v27 v28 S => pFa 1 D (fun a0 => pLd a0 S (fun a1 => pLen a1 (fun a2 => kn A B C D E F G H I J K L M N O P Q R (.i .i64 0) a2 V a1 X Y Z v25 v26 v27 v28 S)))) I3) (cSeq (cReg fun kn A B C D E F G H I J K L M N O P Q R T U V W X Y Z v25 v26 v27 v28 S => kn A B C D E F G H I J K L M N O P Q R T U V W X Y Z v25 v26 v26 (.i .i64 0) S) cRet)))))))))
theorem C1025_eq (f45 : Gn 1) (f67 : Gn 3) (f70 : Gn 2) : C1025 f45 f67 f70 = H1025_ f45 (cBlock 1 (cLoop (L1025_1 f70))) (cBlock 3 (cLoop (L1025_3 (cBlock 5 (cLoop (L1025_5 f67)))))) := by rfl
-- p0 p1  | A B v2 D E F G H I J K L M N O P Q R T U V W X Y Z v25 v26 v27 v28
section
variable (f70 : Gn 2) (K_ : Fn 29) (kx : Nat → Fn 29) (kr : Fn 29) (A B C D E F G H I J K L M N O P Q R_ T U V_ W X Y Z v25 v26 v27 v28 q x a a0 a1 w e m n d g h_ i_ j_ : V) (z : Bool) (S S1 S2 S3 : St)
theorem e_end (h1 : ∀ c, pLss G H c = c (.b false)) : L1025_1 f70 K_ kx kr A B C D E F G H I J K L M N O P Q R_ T U V_ W X Y Z v25 v26 v27 v28 S = kx 1 A B C D E F G H (.b false) J K L M N O P Q R_ T U V_ W X Y Z v25 v26 v27 v28 S := by
  simp only [L1025_1, cSeq, cReg, cCond, cBlock, cSkip, cExit, cRet,  h1, ifF]
variable (h1 : ∀ c, pLss G H c = c (.b true)) (h2 : ∀ c, pIdx 2 J G c = c q) (h3 : ∀ c, pLdn 2 q S c = c x) (h4 : ∀ k, pAlloc [.sn, nn 0] S k = k a S1) (h5 : ∀ k, pSt 2 a x S1 k = k S2) (h6 : ∀ c, pFa 0 a c = c a0) (h7 : ∀ c, pLd a0 S2 c = c w) (h8 : ∀ k, f70 A w S2 k = k e S3)
include h1 h2 h3 h4 h5 h6 h7 h8
theorem e_err (h9 : ∀ c, pNeq e (nn 0) c = c (.b true)) : L1025_1 f70 K_ kx kr A B C D E F G H I J K L M N O P Q R_ T U V_ W X Y Z v25 v26 v27 v28 S = kr A B C D E F G H (.b true) J a e (.b true) N O P Q R_ T U V_ W X Y Z v25 v26 .sn e S3 := by
  simp only [L1025_1, cSeq, cReg, cCond, cBlock, cSkip, cExit, cRet,  h1, h2, h3, h4, h5, h6, h7, h8, h9, ifT]
variable (h9 : ∀ c, pNeq e (nn 0) c = c (.b false)) (h10 : ∀ c, pFa 1 a c = c a1) (h11 : ∀ c, pLd a1 S3 c = c m)
include h9 h10 h11
theorem e_lo (h12 : ∀ c, pLss m (nn 1) c = c (.b true)) : L1025_1 f70 K_ kx kr A B C D E F G H I J K L M N O P Q R_ T U V_ W X Y Z v25 v26 v27 v28 S = kr A B C D E F G H (.b true) J a e (.b false) (.b true) O P Q R_ T U V_ W X Y Z v25 v26 .sn (nn 3) S3 := by
  simp only [L1025_1, cSeq, cReg, cCond, cBlock, cSkip, cExit, cRet,  h1, h2, h3, h4, h5, h6, h7, h8, h9, h10, h11, h12, pGd_tf, pPick_t, ifT, ifF]
theorem e_hi (h12 : ∀ c, pLss m (nn 1) c = c (.b false)) (h13 : ∀ c, pGtr m (nn 64) c = c (.b true)) : L1025_1 f70 K_ kx kr A B C D E F G H I J K L M N O P Q R_ T U V_ W X Y Z v25 v26 v27 v28 S = kr A B C D E F G H (.b true) J a e (.b false) (.b true) O P Q R_ T U V_ W X Y Z v25 v26 .sn (nn 3) S3 := by
  simp only [L1025_1, cSeq, cReg, cCond, cBlock, cSkip, cExit, cRet,  h1, h2, h3, h4, h5, h6, h7, h8, h9, h10, h11, h12, h13, pGd_ff, pPick_f, ifT, ifF]
variable (h12 : ∀ c, pLss m (nn 1) c = c (.b false)) (h13 : ∀ c, pGtr m (nn 64) c = c (.b false)) (h14 : ∀ c, pLd a0 S3 c = c w) (h15 : ∀ c, pLen w c = c n) (h16 : ∀ c, pSub n (nn 1) c = c d) (h17 : ∀ c, pMx [nn 0, d] c = c g) (h18 : ∀ c, pMul m g c = c h_) (h19 : ∀ c, pAdd P h_ c = c i_) (h20 : ∀ c, pAdd G (nn 1) c = c j_)
include h12 h13 h14 h15 h16 h17 h18 h19 h20
theorem e_goT (hO : O = .b true) : L1025_1 f70 K_ kx kr A B C D E F G H I J K L M N O P Q R_ T U V_ W X Y Z v25 v26 v27 v28 S = K_ A B C D E F j_ H (.b true) J a e (.b false) (.b false) (.b true) i_ Q R_ T U V_ W X Y Z v25 v26 v27 v28 S3 := by
  subst hO
  simp only [L1025_1, cSeq, cReg, cCond, cBlock, cSkip, cExit, cRet,  h1, h2, h3, h4, h5, h6, h7, h8, h9, h10, h11, h12, h13, h14, h15, h16, h17, h18, h19, h20, pGd_ff, pGd_tf, pGd_uf, pPick_f, pPick_t, ifT, ifF]
theorem e_goF (hO : O = .b false) (h21 : ∀ c, pEql n (nn 0) c = c (.b z)) : L1025_1 f70 K_ kx kr A B C D E F G H I J K L M N O P Q R_ T U V_ W X Y Z v25 v26 v27 v28 S = K_ A B C D E F j_ H (.b true) J a e (.b false) (.b false) (.b z) i_ Q R_ T U V_ W X Y Z v25 v26 v27 v28 S3 := by
  subst hO
  simp only [L1025_1, cSeq, cReg, cCond, cBlock, cSkip, cExit, cRet,  h1, h2, h3, h4, h5, h6, h7, h8, h9, h10, h11, h12, h13, h14, h15, h16, h17, h18, h19, h20, h21, pGd_ff, pPick_f, ifT, ifF]
end
section
variable (f67 : Gn 3) (I5 : CS 29) (K_ : Fn 29) (kx : Nat → Fn 29) (kr : Fn 29) (A B C D E F G H I J K L M N O P Q R_ T U V_ W X Y Z v25 v26 v27 v28 q x a a0 a1 w e m r y2 z2 w2 : V) (S S1 S2 S3 : St)
theorem i_end (h1 : ∀ c, pLss Y Z c = c (.b false)) : L1025_5 f67 K_ kx kr A B C D E F G H I J K L M N O P Q R_ T U V_ W X Y Z v25 v26 v27 v28 S = kx 5 A B C D E F G H I J K L M N O P Q R_ T U V_ W X Y Z (.b false) v26 v27 v28 S := by
  simp only [L1025_5, cSeq, cReg, cCond, cBlock, cSkip, cExit, cRet,  h1, ifF]
theorem i_go (h1 : ∀ c, pLss Y Z c = c (.b true)) (h2 : ∀ c, pFa 0 X c = c a0) (h3 : ∀ c, pLd a0 S c = c w) (h4 : ∀ k, f67 A v26 w S k = k r S1) (h5 : ∀ c, pAdd Y (nn 1) c = c y2) : L1025_5 f67 K_ kx kr A B C D E F G H I J K L M N O P Q R_ T U V_ W X Y Z v25 v26 v27 v28 S = K_ A B C D E F G H I J K L M N O P Q R_ T U V_ W X y2 Z (.b true) r v27 v28 S1 := by
  simp only [L1025_5, cSeq, cReg, cCond, cBlock, cSkip, cExit, cRet,  h1, h2, h3, h4, h5, ifT]
theorem o_end (h1 : ∀ c, pLss T U c = c (.b false)) : L1025_3 I5 K_ kx kr A B C D E F G H I J K L M N O P Q R_ T U V_ W X Y Z v25 v26 v27 v28 S = kx 3 A B C D E F G H I J K L M N O P Q R_ T U (.b false) W X Y Z v25 v26 v27 v28 S := by
  simp only [L1025_3, cSeq, cReg, cCond, cBlock, cSkip, cExit, cRet,  h1, ifF]
theorem o_go (h1 : ∀ c, pLss T U c = c (.b true)) (h2 : ∀ c, pIdx 2 W T c = c q) (h3 : ∀ c, pLdn 2 q S c = c x) (h4 : ∀ k, pAlloc [.sn, nn 0] S k = k a S1) (h5 : ∀ k, pSt 2 a x S1 k = k S2) (h6 : ∀ c, pFa 1 a c = c a1) (h7 : ∀ c, pLd a1 S2 c = c m)
    (hI : ∀ (kn : Fn 29) (kx : Nat → Fn 29) (kr : Fn 29), I5 kn kx kr A B C D E F G H I J K L M N O P Q R_ T U (.b true) W a (nn 0) m v25 v26 v27 v28 S2 = kn A B C D E F G H I J K L M N O P Q R_ T U (.b true) W a m m z2 r v27 v28 S3) (h8 : ∀ c, pAdd T (nn 1) c = c e) : L1025_3 I5 K_ kx kr A B C D E F G H I J K L M N O P Q R_ T U V_ W X Y Z v25 v26 v27 v28 S = K_ A B C D E F G H I J K L M N O P Q R_ e U (.b true) W a m m z2 r v27 v28 S3 := by
  simp only [L1025_3, cSeq, cReg, cCond, cBlock, cSkip, cExit, cRet,  h1, h2, h3, h4, h5, h6, h7, h8, hI, ifT]
end
section
variable (f45 : Gn 1) (I1 I3 : CS 29) (K_ : Fn 29) (kx : Nat → Fn 29) (kr : Fn 29) (A B C D E F G H I J K L M N O P Q R_ T U V_ W X Y Z v25 v26 v27 v28 b b0 b1 u lv n r s : V) (z : Bool) (k : Cont) (S S0 S1 S2 S3 S4 : St)
  (g7 : V) (g9 : V) (g11 : V) (g12 : V) (g13 : V) (g14 : V) (dd : V) (t1 t2 t3 t4 t5 t6 : V)
  (hkr : kr = fun A B C D E F G H I J K L M N O P Q R_ T U V_ W X Y Z v25 v26 v27 v28 S => k (.tu [v27, v28]) S)
  (h1 : ∀ k, pBox B S k = k b S1)
include hkr h1
theorem d_np (h2 : ∀ k, f45 A S1 k = k (.b false) S2) : H1025_ f45 I1 I3 K_ kx kr A B C D E F G H I J K L M N O P Q R_ T U V_ W X Y Z v25 v26 v27 v28 S = k (.tu [.sn, nn 7]) S2 := by
  simp only [H1025_, cSeq, cReg, cCond, cBlock, cSkip, cExit, cRet,  h1, h2, hkr, pNot_f, ifT]
variable (h2 : ∀ k, f45 A S1 k = k (.b true) S2) (h3 : ∀ c, pFa 0 b c = c b0) (h4 : ∀ c, pLd b0 S2 c = c u)
include h2 h3 h4
theorem d_neg (h5 : ∀ c, pLss u (nn 0) c = c (.b true)) : H1025_ f45 I1 I3 K_ kx kr A B C D E F G H I J K L M N O P Q R_ T U V_ W X Y Z v25 v26 v27 v28 S = k (.tu [.sn, nn 1]) S2 := by
  simp only [H1025_, cSeq, cReg, cCond, cBlock, cSkip, cExit, cRet,  h1, h2, h3, h4, h5, hkr, pNot_t, pGd_tf, pGd_uf, pPick_t, ifT, ifF]
variable (h5 : ∀ c, pLss u (nn 0) c = c (.b false))
include h5
theorem d_big (h6 : ∀ c, pGeq u A c = c (.b true)) : H1025_ f45 I1 I3 K_ kx kr A B C D E F G H I J K L M N O P Q R_ T U V_ W X Y Z v25 v26 v27 v28 S = k (.tu [.sn, nn 1]) S2 := by
  simp only [H1025_, cSeq, cReg, cCond, cBlock, cSkip, cExit, cRet,  h1, h2, h3, h4, h5, h6, hkr, pNot_t, pGd_ff, pPick_f, ifT, ifF]
variable (h6 : ∀ c, pGeq u A c = c (.b false)) (h7 : ∀ c, pFa 1 b c = c b1) (h8 : ∀ c, pLd b1 S2 c = c lv) (h9 : ∀ c, pLen lv c = c n)
include h6 h7 h8 h9
theorem d_many (h10 : ∀ c, pGtr n (nn 256) c = c (.b true)) : H1025_ f45 I1 I3 K_ kx kr A B C D E F G H I J K L M N O P Q R_ T U V_ W X Y Z v25 v26 v27 v28 S = k (.tu [.sn, nn 5]) S2 := by
  simp only [H1025_, cSeq, cReg, cCond, cBlock, cSkip, cExit, cRet,  h1, h2, h3, h4, h5, h6, h7, h8, h9, h10, hkr, pNot_t, pGd_ff, pPick_f, ifT, ifF]
variable (h10 : ∀ c, pGtr n (nn 256) c = c (.b false)) (h11 : ∀ c, pEql u (nn 0) c = c (.b z))
include h10 h11
theorem d_scan (hL : ∀ (kn : Fn 29) (kx : Nat → Fn 29), I1 kn kx kr A B (.b false) b (.b false) (.b false) (nn 0) n I lv K L M N (.b z) (nn 0) Q R_ T U V_ W X Y Z v25 v26 .sn (nn 0) S2 = k s S3) : H1025_ f45 I1 I3 K_ kx kr A B C D E F G H I J K L M N O P Q R_ T U V_ W X Y Z v25 v26 v27 v28 S = k s S3 := by
  subst hkr
  simp only [H1025_, cSeq, cReg, cCond, cBlock, cSkip, cExit, cRet,  h1, h2, h3, h4, h5, h6, h7, h8, h9, h10, h11, hL, pNot_t, pGd_ff, pPick_f, ifF]
theorem d_zero (hL : ∀ (kn : Fn 29) (kx : Nat → Fn 29) (kr : Fn 29), I1 kn kx kr A B (.b false) b (.b false) (.b false) (nn 0) n I lv K L M N (.b z) (nn 0) Q R_ T U V_ W X Y Z v25 v26 .sn (nn 0) S2 = kn A B (.b false) b (.b false) (.b false) n n g7 lv g9 g11 g12 g13 (.b true) dd Q R_ T U V_ W X Y Z v25 v26 .sn (nn 0) S3) : H1025_ f45 I1 I3 K_ kx kr A B C D E F G H I J K L M N O P Q R_ T U V_ W X Y Z v25 v26 v27 v28 S = k (.tu [.sn, nn 0]) S3 := by
  subst hkr
  simp only [H1025_, cSeq, cReg, cCond, cBlock, cSkip, cExit, cRet,  h1, h2, h3, h4, h5, h6, h7, h8, h9, h10, h11, hL, pNot_t, pGd_ff, pPick_f, ifT, ifF]
variable (hL : ∀ (kn : Fn 29) (kx : Nat → Fn 29) (kr : Fn 29), I1 kn kx kr A B (.b false) b (.b false) (.b false) (nn 0) n I lv K L M N (.b z) (nn 0) Q R_ T U V_ W X Y Z v25 v26 .sn (nn 0) S2 = kn A B (.b false) b (.b false) (.b false) n n g7 lv g9 g11 g12 g13 (.b false) dd Q R_ T U V_ W X Y Z v25 v26 .sn (nn 0) S3)
include hL
theorem d_large (h12 : ∀ c, pGtr dd (nn 64) c = c (.b true)) : H1025_ f45 I1 I3 K_ kx kr A B C D E F G H I J K L M N O P Q R_ T U V_ W X Y Z v25 v26 v27 v28 S = k (.tu [.sn, nn 4]) S3 := by
  subst hkr
  simp only [H1025_, cSeq, cReg, cCond, cBlock, cSkip, cExit, cRet,  h1, h2, h3, h4, h5, h6, h7, h8, h9, h10, h11, h12, hL, pNot_t, pGd_ff, pPick_f, ifT, ifF]
theorem d_go (h12 : ∀ c, pGtr dd (nn 64) c = c (.b false)) (h13 : ∀ c, pLd b0 S3 c = c u) (h14 : ∀ k : Cont, pBsl [nn 0] 1 [(0, 1, u)] S3 k = k r S4) (h15 : ∀ c, pLd b1 S4 c = c lv)
    (hM : ∀ (kn : Fn 29) (kx : Nat → Fn 29) (kr : Fn 29), I3 kn kx kr A B (.b false) b (.b false) (.b false) n n g7 lv g9 g11 g12 g13 (.b false) dd (.b false) (.b false) (nn 0) n V_ lv X Y Z v25 r .sn (nn 0) S4 = kn A B (.b false) b (.b false) (.b false) n n g7 lv g9 g11 g12 g13 (.b false) dd (.b false) (.b false) n n t1 lv t2 t3 t4 t5 s .sn (nn 0) S0) : H1025_ f45 I1 I3 K_ kx kr A B C D E F G H I J K L M N O P Q R_ T U V_ W X Y Z v25 v26 v27 v28 S = k (.tu [s, nn 0]) S0 := by
  subst hkr
  simp only [H1025_, cSeq, cReg, cCond, cBlock, cSkip, cExit, cRet,  h1, h2, h3, h4, h5, h6, h7, h8, h9, h10, h11, h12, h13, h14, h15, hL, hM, pNot_t, pGd_ff, pPick_f, ifF]
end
end
end Go.AM

/- modfactor.Product: what it computes. -/
namespace Go.AM
open Go.Proofs
set_option linter.unusedVariables false
set_option linter.unusedSimpArgs false
set_option linter.constructorNameAsVariable false
set_option maxRecDepth 100000
noncomputable section
variable {S S' : St}
theorem loop1 {p : Nat} (hp : p < 18446744073709551616) {lv : V} {ws : List Rw} (hn : ws.length ≤ 256) (hs : ∀ r ∈ ws, r.l.length ≤ 80) (B C D E F Q R_ T U V_ W X Y Z v25 v26 v27 v28 : V) : ∀ (Fu i d : Nat) (z : Bool) (I K L M N : V) (S : St), SOK S → LRow S lv ws → ROK S ws → i ≤ ws.length → ws.length < Fu + i → d + 4160 * (ws.length - i) ≤ 4000000 →
    (scan p (ws.drop i) ≠ 0 ∧ ∃ S', Stp S S' ∧ ∀ (kx : Nat → Fn 29) (k : Cont), loopN (L1025_1 F70x) kx (fun A B C D E F G H I J K L M N O P Q R_ T U V_ W X Y Z v25 v26 v27 v28 S => k (.tu [v27, v28]) S) Fu (nn p) B C D E F (nn i) (nn ws.length) I lv K L M N (.b z) (nn d) Q R_ T U V_ W X Y Z v25 v26 v27 v28 S = k (.tu [.sn, nn (scan p (ws.drop i))]) S') ∨
    (scan p (ws.drop i) = 0 ∧ ∃ I2 K2 L2 M2 N2 S', Stp S S' ∧ ∀ (kx : Nat → Fn 29) (kr : Fn 29), loopN (L1025_1 F70x) kx kr Fu (nn p) B C D E F (nn i) (nn ws.length) I lv K L M N (.b z) (nn d) Q R_ T U V_ W X Y Z v25 v26 v27 v28 S = kx 1 (nn p) B C D E F (nn ws.length) (nn ws.length) I2 lv K2 L2 M2 N2 (.b (z || anyE (ws.drop i))) (nn (d + degS (ws.drop i))) Q R_ T U V_ W X Y Z v25 v26 v27 v28 S')
  | 0, i, d, z, I, K, L, M, N, S, ok, hl, hr, a1, a2, a3 => by omega
  | Fu + 1, i, d, z, I, K, L, M, N, S, ok, hl, hr, a1, a2, a3 => by
    by_cases hi : i < ws.length
    · obtain ⟨r, hri⟩ : ∃ r, ws[i]? = some r := ⟨_, List.getElem?_eq_getElem hi⟩
      have hmem := List.mem_of_getElem? hri
      have hd := drop_rw hri
      rw [hd]
      obtain ⟨q, q0, q1, y1, y2, _, _, _, _⟩ := hl.at_ (by omega) hri
      obtain ⟨S1, b, b0, b1, st1, c1, c2, c3, c4, c5⟩ := copy2 ok r.v (nn r.m)
      obtain ⟨hrow, hw, hm⟩ := hr r hmem
      have hlen := hs r hmem
      obtain ⟨S3, st3, z3⟩ := f70_ok st1.ok hp (st1.row ok hrow) (by omega) hw
      have st := st1.trans st3
      have g1 : ∀ c, pLss (nn i) (nn ws.length) c = c (.b true) := fun c => by rw [lss_n (by omega) (by omega), decide_eq_true hi]
      have g7 := (c5 S1 (.refl st1.ok)).1
      have g11 := (c5 S3 st3).2
      have g14 := (c5 S3 st3).1
      by_cases hc : chk p r.l ≠ 0
      · refine .inl ⟨by simp only [scan]; rw [if_pos hc]; exact hc, S3, st, fun kx k => ?_⟩
        rw [loopN_succ, e_err (h1 := g1) (h2 := y1) (h3 := y2) (h4 := c1) (h5 := c2) (h6 := c3) (h7 := g7) (h8 := z3) (h9 := fun c => by rw [neq_n, decide_eq_false hc]; rfl)]
        simp only [scan]; rw [if_pos hc]
      · have hc0 : chk p r.l = 0 := by omega
        have g9 : ∀ c, pNeq (nn (chk p r.l)) (nn 0) c = c (.b false) := fun c => by rw [neq_n, decide_eq_true hc0]; rfl
        have hl65 := (chk_len hc0).1
        by_cases hbm : r.m < 1 ∨ 64 < r.m
        · refine .inl ⟨by simp only [scan]; rw [if_neg hc, if_pos hbm]; decide, S3, st, fun kx k => ?_⟩
          rw [loopN_succ]
          have e3 : scan p (r :: ws.drop (i + 1)) = 3 := by simp only [scan]; rw [if_neg hc, if_pos hbm]
          by_cases hlo : r.m < 1 ∨ 9223372036854775808 ≤ r.m
          · rw [e_lo (h1 := g1) (h2 := y1) (h3 := y2) (h4 := c1) (h5 := c2) (h6 := c3) (h7 := g7) (h8 := z3) (h9 := g9) (h10 := c4) (h11 := g11) (h12 := fun c => by rw [lss_s hm (by omega), decide_eq_true hlo]), e3]
          · rw [e_hi (h1 := g1) (h2 := y1) (h3 := y2) (h4 := c1) (h5 := c2) (h6 := c3) (h7 := g7) (h8 := z3) (h9 := g9) (h10 := c4) (h11 := g11) (h12 := fun c => by rw [lss_s hm (by omega), decide_eq_false hlo]) (h13 := fun c => by rw [gtr_s hm (by omega), decide_eq_true (by omega)]), e3]
        · have g12 : ∀ c, pLss (nn r.m) (nn 1) c = c (.b false) := fun c => by rw [lss_s hm (by omega), decide_eq_false (by omega)]
          have g13 : ∀ c, pGtr (nn r.m) (nn 64) c = c (.b false) := fun c => by rw [gtr_s hm (by omega), decide_eq_false (by omega)]
          have hrow3 := st.row ok hrow
          obtain ⟨x, x1, x2⟩ := sub_mx (n := r.l.length) (by omega)
          have hmul : r.m * (r.l.length - 1) ≤ 64 * 65 := Nat.mul_le_mul (by omega) (by omega)
          have e3 : scan p (r :: ws.drop (i + 1)) = scan p (ws.drop (i + 1)) := by simp only [scan]; rw [if_neg hc, if_neg hbm]
          have eO : (z || anyE (r :: ws.drop (i + 1))) = ((z || decide (r.l.length = 0)) || anyE (ws.drop (i + 1))) := by simp only [anyE, Bool.or_assoc]
          have eD : d + degS (r :: ws.drop (i + 1)) = d + r.m * (r.l.length - 1) + degS (ws.drop (i + 1)) := by simp only [degS]; omega
          rw [e3, eO, eD]
          have step : ∀ (kx : Nat → Fn 29) (kr : Fn 29), loopN (L1025_1 F70x) kx kr (Fu + 1) (nn p) B C D E F (nn i) (nn ws.length) I lv K L M N (.b z) (nn d) Q R_ T U V_ W X Y Z v25 v26 v27 v28 S = loopN (L1025_1 F70x) kx kr Fu (nn p) B C D E F (nn (i + 1)) (nn ws.length) (.b true) lv b (nn 0) (.b false) (.b false) (.b (z || decide (r.l.length = 0))) (nn (d + r.m * (r.l.length - 1))) Q R_ T U V_ W X Y Z v25 v26 v27 v28 S3 := fun kx kr => by
            rw [loopN_succ]
            cases z with
            | true => rw [e_goT (h1 := g1) (h2 := y1) (h3 := y2) (h4 := c1) (h5 := c2) (h6 := c3) (h7 := g7) (h8 := z3) (h9 := g9) (h10 := c4) (h11 := g11) (h12 := g12) (h13 := g13) (h14 := g14) (h15 := fun c => hrow3.len (by omega) c) (h16 := x1) (h17 := x2) (h18 := fun c => mul_n (by omega) c) (h19 := fun c => add_n (by omega) c) (h20 := fun c => add_n (by omega) c) (hO := rfl), hc0]; rfl
            | false => rw [e_goF (z := decide (r.l.length = 0)) (h1 := g1) (h2 := y1) (h3 := y2) (h4 := c1) (h5 := c2) (h6 := c3) (h7 := g7) (h8 := z3) (h9 := g9) (h10 := c4) (h11 := g11) (h12 := g12) (h13 := g13) (h14 := g14) (h15 := fun c => hrow3.len (by omega) c) (h16 := x1) (h17 := x2) (h18 := fun c => mul_n (by omega) c) (h19 := fun c => add_n (by omega) c) (h20 := fun c => add_n (by omega) c) (hO := rfl) (h21 := fun c => eql_n _ _ c), hc0]; rfl
          simp only [step]
          rcases loop1 hp hn hs B C D E F Q R_ T U V_ W X Y Z v25 v26 v27 v28 Fu (i + 1) (d + r.m * (r.l.length - 1)) (z || decide (r.l.length = 0)) (.b true) b (nn 0) (.b false) (.b false) S3 st.ok (hl.stp ok st) (hr.stp ok st) (by omega) (by omega) (by omega) with ⟨w1, S4, w2, w3⟩ | ⟨w1, I2, K2, L2, M2, N2, S4, w2, w3⟩
          · exact .inl ⟨w1, S4, st.trans w2, w3⟩
          · exact .inr ⟨w1, I2, K2, L2, M2, N2, S4, st.trans w2, w3⟩
    · have : i = ws.length := by omega
      subst this
      rw [List.drop_length]
      refine .inr ⟨rfl, .b false, K, L, M, N, S, .refl ok, fun kx kr => ?_⟩
      rw [loopN_succ, e_end (h1 := fun c => by rw [lss_n (by omega) (by omega), decide_eq_false (by omega)])]
      simp only [anyE, degS, Bool.or_false, Nat.add_zero]
theorem mulI_len (p : Nat) (P : List Nat) : ∀ (n : Nat) (o : List Nat), (mulI p P n o).length ≤ o.length + n * (P.length - 1)
  | 0, o => by simp [mulI]
  | n + 1, o => by
    have h1 := mulI_len p P n (mulT p o P)
    have h2 := mulT_len p o P
    show (mulI p P n (mulT p o P)).length ≤ _
    by_cases hz : P.length = 0
    · rw [mulT_zero p (.inr hz)] at h1 h2 ⊢
      simp only [List.length_nil] at h1
      rw [hz] at h1 ⊢; omega
    · rw [Nat.add_mul]; omega
theorem mulI_lt {p : Nat} (h0 : 0 < p) (P : List Nat) : ∀ (n : Nat) (o : List Nat), Lt p o → Lt p (mulI p P n o)
  | 0, o, h => h
  | n + 1, o, h => mulI_lt h0 P n _ (mulT_lt h0 _ _)
theorem loop5 {p m : Nat} (h1 : 1 < p) (hp : p ≤ 65536) {vP X a0 : V} {P : List Nat} (sP : Sm P) (lP : P.length ≤ 1000) (hm : m ≤ 100) (hX : ∀ c, pFa 0 X c = c a0) (B C D E F G H I J K L M N O P_ Q R_ T U V_ W v27 v28 : V) : ∀ (Fu i : Nat) (vo v25 : V) (o : List Nat) (S : St), SOK S → Row S vP P → (∀ S2, Stp S S2 → ∀ c, pLd a0 S2 c = c vP) → Row S vo o → Lt p o → o.length + (m - i) * (P.length - 1) ≤ 100000 → i ≤ m → m < Fu + i →
    ∃ S' v2, Stp S S' ∧ Row S' v2 (mulI p P (m - i) o) ∧ ∀ (kx : Nat → Fn 29) (kr : Fn 29), loopN (L1025_5 F67) kx kr Fu (nn p) B C D E F G H I J K L M N O P_ Q R_ T U V_ W X (nn i) (nn m) v25 vo v27 v28 S = kx 5 (nn p) B C D E F G H I J K L M N O P_ Q R_ T U V_ W X (nn m) (nn m) (.b false) v2 v27 v28 S'
  | 0, i, vo, v25, o, S, ok, hP, hb, ho, lo, ll, a1, a2 => by omega
  | Fu + 1, i, vo, v25, o, S, ok, hP, hb, ho, lo, ll, a1, a2 => by
    by_cases hi : i < m
    · obtain ⟨j, rfl⟩ : ∃ j, m = i + 1 + j := ⟨m - i - 1, by omega⟩
      rw [show i + 1 + j - i = j + 1 by omega] at ll ⊢
      have hml : (mulT p o P).length ≤ o.length + (P.length - 1) := by
        have := mulT_len p o P
        by_cases hz : P.length = 0
        · rw [mulT_zero p (.inr hz)]; simp
        · omega
      rw [Nat.add_mul] at ll
      obtain ⟨S1, v1, st, hr, z⟩ := f67_ok ok (by omega) hp ho (lo.sm hp) hP sP (by omega) (by omega)
      obtain ⟨S2, v2, st2, hr2, z2⟩ := loop5 (m := i + 1 + j) h1 hp sP lP hm hX B C D E F G H I J K L M N O P_ Q R_ T U V_ W v27 v28 Fu (i + 1) v1 (.b true) (mulT p o P) S1 st.ok (st.row ok hP) (fun S3 s3 => hb S3 (st.trans s3)) hr (mulT_lt (by omega) _ _) (by rw [show i + 1 + j - (i + 1) = j by omega]; omega) (by omega) (by omega)
      rw [show i + 1 + j - (i + 1) = j by omega] at hr2
      refine ⟨S2, v2, st.trans st2, hr2, fun kx kr => ?_⟩
      rw [loopN_succ, i_go (h1 := fun c => by rw [lss_n (by omega) (by omega), decide_eq_true hi]) (h2 := hX) (h3 := hb S (.refl ok)) (h4 := z) (h5 := fun c => add_n (by omega) c)]
      exact z2 kx kr
    · have : i = m := by omega
      subst this
      refine ⟨S, vo, .refl ok, by rw [Nat.sub_self]; exact ho, fun kx kr => ?_⟩
      rw [loopN_succ, i_end (h1 := fun c => by rw [lss_n (by omega) (by omega), decide_eq_false (by omega)])]
theorem loop3 {p : Nat} (h1 : 1 < p) (hp : p ≤ 65536) {lv : V} {ws : List Rw} (hn : ws.length ≤ 256) (hs : ∀ r ∈ ws, r.l.length ≤ 80 ∧ Lt p r.l ∧ r.m ≤ 64) (B C D E F G H I J K L M N O P Q R_ v27 v28 : V) : ∀ (Fu i : Nat) (vo V_ X Y Z v25 : V) (o : List Nat) (S : St), SOK S → LRow S lv ws → ROK S ws → Row S vo o → Lt p o → o.length + degS (ws.drop i) ≤ 100000 → i ≤ ws.length → ws.length < Fu + i →
    ∃ V2 X2 Y2 Z2 w2 S' v2, Stp S S' ∧ Row S' v2 (prodP p (ws.drop i) o) ∧ ∀ (kx : Nat → Fn 29) (kr : Fn 29), loopN (L1025_3 (cBlock 5 (cLoop (L1025_5 F67)))) kx kr Fu (nn p) B C D E F G H I J K L M N O P Q R_ (nn i) (nn ws.length) V_ lv X Y Z v25 vo v27 v28 S = kx 3 (nn p) B C D E F G H I J K L M N O P Q R_ (nn ws.length) (nn ws.length) V2 lv X2 Y2 Z2 w2 v2 v27 v28 S'
  | 0, i, vo, V_, X, Y, Z, v25, o, S, ok, hl, hr, ho, lo, ll, a1, a2 => by omega
  | Fu + 1, i, vo, V_, X, Y, Z, v25, o, S, ok, hl, hr, ho, lo, ll, a1, a2 => by
    by_cases hi : i < ws.length
    · obtain ⟨r, hri⟩ : ∃ r, ws[i]? = some r := ⟨_, List.getElem?_eq_getElem hi⟩
      have hmem := List.mem_of_getElem? hri
      have hd := drop_rw hri
      rw [hd] at ll ⊢
      simp only [degS] at ll
      obtain ⟨q, q0, q1, y1, y2, _, _, _, _⟩ := hl.at_ (by omega) hri
      obtain ⟨S1, b, b0, b1, st1, c1, c2, c3, c4, c5⟩ := copy2 ok r.v (nn r.m)
      obtain ⟨hrow, hw, hm⟩ := hr r hmem
      obtain ⟨s1, s2, s3⟩ := hs r hmem
      obtain ⟨S3, v3, st3, hr3, z3⟩ := loop5 (m := r.m) h1 hp (s2.sm hp) (show r.l.length ≤ 1000 by omega) (by omega) c3 B C D E F G H I J K L M N O P Q R_ (nn i) (nn ws.length) (.b true) lv v27 v28 1000000 0 vo v25 o S1 st1.ok (st1.row ok hrow) (fun S2 s => (c5 S2 s).1) (st1.row ok ho) lo (by rw [Nat.sub_zero]; omega) (by omega) (by omega)
      rw [Nat.sub_zero] at hr3
      have st := st1.trans st3
      have hml := mulI_len p r.l r.m o
      obtain ⟨V2, X2, Y2, Z2, w2, S4, v4, st4, hr4, z4⟩ := loop3 h1 hp hn hs B C D E F G H I J K L M N O P Q R_ v27 v28 Fu (i + 1) v3 (.b true) b (nn r.m) (nn r.m) (.b false) (mulI p r.l r.m o) S3 st.ok (hl.stp ok st) (hr.stp ok st) hr3 (mulI_lt (by omega) _ _ _ lo) (by omega) (by omega) (by omega)
      refine ⟨V2, X2, Y2, Z2, w2, S4, v4, st.trans st4, hr4, fun kx kr => ?_⟩
      rw [loopN_succ, o_go (h1 := fun c => by rw [lss_n (by omega) (by omega), decide_eq_true hi]) (h2 := y1) (h3 := y2) (h4 := c1) (h5 := c2) (h6 := c4) (h7 := (c5 S1 (.refl st1.ok)).2) (hI := fun kn kx kr => by
        obtain ⟨kx', e1, e2⟩ := block_loop_at 5 (L1025_5 F67) kn kx kr
        rw [e2, ← e1]; exact z3 kx' kr) (h8 := fun c => add_n (by omega) c)]
      exact z4 kx kr
    · have : i = ws.length := by omega
      subst this
      rw [List.drop_length]
      refine ⟨.b false, X, Y, Z, v25, S, vo, .refl ok, ho, fun kx kr => ?_⟩
      rw [loopN_succ, o_end (h1 := fun c => by rw [lss_n (by omega) (by omega), decide_eq_false (by omega)])]
/-- the error of a product -/
def errP (p uu : Nat) (ws : List Rw) : Nat := if pB p = true then (if uu < p then (if 256 < ws.length then 5 else if scan p ws ≠ 0 then scan p ws else if (decide (uu = 0) || anyE ws) = true then 0 else if 64 < degS ws then 4 else 0) else 1) else 7
/-- nothing is left out -/
def fullP (p uu : Nat) (ws : List Rw) : Prop := pB p = true ∧ uu < p ∧ ws.length ≤ 256 ∧ scan p ws = 0 ∧ (decide (uu = 0) || anyE ws) = false ∧ degS ws ≤ 64
def outP (p uu : Nat) (ws : List Rw) : List Nat := open Classical in if fullP p uu ws then prodP p ws [uu] else []
theorem scan_ok {p : Nat} : ∀ {ws : List Rw}, scan p ws = 0 → ∀ r ∈ ws, r.l.length ≤ 65 ∧ Lt p r.l ∧ Trimd r.l ∧ 1 ≤ r.m ∧ r.m ≤ 64
  | [], _, r, hr => by simp at hr
  | w :: ws, h, r, hr => by
    simp only [scan] at h
    split at h
    · rename_i hc; exact absurd h hc
    · split at h
      · cases h
      · rename_i hc hm
        rcases List.mem_cons.1 hr with rfl | hr
        · obtain ⟨h1, _, h3, h4⟩ := chk_len (p := p) (l := r.l) (by omega)
          exact ⟨h1, h3, h4, by omega, by omega⟩
        · exact scan_ok h r hr
def F1025x : Gn 2 := G1025 (C1025 F45x F67 F70x)
theorem K1025x : FOK Tryz.prog 25 (un 2 F1025x) := fokP (.cons K45x (.cons K67 (.cons K70x .nil))) .nil hm Tryz.func25 (by kernel_rfl) (D1025 F45x F67 F70x) (H1025 _)
theorem f1025_ok (ok : SOK S) {p uu : Nat} (hp : p < 18446744073709551616) (hu : uu < 18446744073709551616) {lv : V} {ws : List Rw} (hl : LRow S lv ws) (hr : ROK S ws) (hs : ∀ r ∈ ws, r.l.length ≤ 80) (hn : ws.length ≤ 9223372036854775807) :
    ∃ S' v, Stp S S' ∧ Row S' v (outP p uu ws) ∧ ∀ k, F1025x (nn p) (.ag [nn uu, lv]) S k = k (.tu [v, nn (errP p uu ws)]) S' := by
  have st1 := Stp.new ok [nn uu, lv]
  have hb : (S.new [nn uu, lv]).h.get S.nx = some ⟨S.cnt, [nn uu, lv]⟩ := St.new_get _ _
  have h1 : ∀ k : Cont, pBox (.ag [nn uu, lv]) S k = k (.p S.nx 0) (S.new [nn uu, lv]) := fun k => pBox_ag _ S k
  obtain ⟨S2, st2, z2⟩ := f45_ok st1.ok hp
  have s02 := st1.trans st2
  have hb2 := st2.get st1.ok hb
  have h3 : ∀ c, pFa 0 (.p S.nx 0) c = c (.p S.nx 0) := fun c => pFa_eq _ _ _ c
  have h7 : ∀ c, pFa 1 (.p S.nx 0) c = c (.p S.nx 1) := fun c => pFa_eq _ _ _ c
  have h4 : ∀ c, pLd (.p S.nx 0) S2 c = c (nn uu) := fun c => pLd_eq hb2 (by rfl) c
  have h8 : ∀ c, pLd (.p S.nx 1) S2 c = c lv := fun c => pLd_eq hb2 (by rfl) c
  have hl2 := hl.stp ok s02
  have hr2 := hr.stp ok s02
  have h9 : ∀ c, pLen lv c = c (nn ws.length) := fun c => hl2.len hn c
  unfold F1025x G1025
  rw [C1025_eq]
  by_cases hpb : pB p = true
  case neg =>
    have hf : pB p = false := Bool.eq_false_iff.2 hpb
    rw [hf] at z2
    refine ⟨S2, .sn, s02, ?_, fun k => ?_⟩
    · rw [outP, if_neg (fun h => hpb h.1)]; rfl
    · rw [errP, if_neg hpb]
      rw [d_np (k := k) (h1 := h1) (h2 := z2) (hkr := rfl)]
  rw [hpb] at z2
  have hpl := pB_lt hpb
  by_cases hup : uu < p
  case neg =>
    refine ⟨S2, .sn, s02, ?_, fun k => ?_⟩
    · rw [outP, if_neg (fun h => hup h.2.1)]; rfl
    · rw [errP, if_pos hpb, if_neg hup]
      by_cases hneg : uu < 0 ∨ 9223372036854775808 ≤ uu
      · rw [d_neg (k := k) (h1 := h1) (h2 := z2) (h3 := h3) (h4 := h4) (hkr := rfl) (h5 := fun c => by rw [lss_s hu (by omega), decide_eq_true hneg])]
      · rw [d_big (k := k) (h1 := h1) (h2 := z2) (h3 := h3) (h4 := h4) (hkr := rfl) (h5 := fun c => by rw [lss_s hu (by omega), decide_eq_false hneg]) (h6 := fun c => by rw [geq_s hu (by omega), decide_eq_true (by omega)])]
  have h5 : ∀ c, pLss (nn uu) (nn 0) c = c (.b false) := fun c => by rw [lss_s hu (by omega), decide_eq_false (by omega)]
  have h6 : ∀ c, pGeq (nn uu) (nn p) c = c (.b false) := fun c => by rw [geq_s hu (by omega), decide_eq_false (by omega)]
  by_cases h256 : 256 < ws.length
  · refine ⟨S2, .sn, s02, ?_, fun k => ?_⟩
    · rw [outP, if_neg (fun h => by have := h.2.2.1; omega)]; rfl
    · rw [errP, if_pos hpb, if_pos hup, if_pos h256]
      rw [d_many (k := k) (h1 := h1) (h2 := z2) (h3 := h3) (h4 := h4) (h5 := h5) (h6 := h6) (h7 := h7) (h8 := h8) (h9 := h9) (h10 := fun c => by rw [gtr_n (by omega) (by omega), decide_eq_true h256]) (hkr := rfl)]
  have h10 : ∀ c, pGtr (nn ws.length) (nn 256) c = c (.b false) := fun c => by rw [gtr_n (by omega) (by omega), decide_eq_false h256]
  have h11 : ∀ c, pEql (nn uu) (nn 0) c = c (.b (decide (uu = 0))) := fun c => eql_n _ _ c
  rcases loop1 hp (show ws.length ≤ 256 by omega) hs (.ag [nn uu, lv]) (.b false) (.p S.nx 0) (.b false) (.b false) .other .other .other .other .other .other .other .other .other .other .other .sn (nn 0) 1000000 0 0 (decide (uu = 0)) .other .other .other .other .other S2 st2.ok hl2 hr2 (by omega) (by omega) (by omega) with ⟨w1, S3, w2, w3⟩ | ⟨w1, I2, K2, L2, M2, N2, S3, w2, w3⟩
  · have w1 : scan p ws ≠ 0 := w1
    refine ⟨S3, .sn, s02.trans w2, ?_, fun k => ?_⟩
    · rw [outP, if_neg (fun h => w1 h.2.2.2.1)]; rfl
    · rw [errP, if_pos hpb, if_pos hup, if_neg h256, if_pos w1]
      rw [d_scan (k := k) (h1 := h1) (h2 := z2) (h3 := h3) (h4 := h4) (h5 := h5) (h6 := h6) (h7 := h7) (h8 := h8) (h9 := h9) (h10 := h10) (h11 := h11) (hkr := rfl) (hL := fun kn kx => by
        obtain ⟨kx', e1, e2⟩ := block_loop_at 1 (L1025_1 F70x) kn kx (fun A B C D E F G H I J K L M N O P Q R_ T U V_ W X Y Z v25 v26 v27 v28 S => k (.tu [v27, v28]) S)
        rw [e2]; exact w3 kx' k)]
      rfl
  · have w1 : scan p ws = 0 := w1
    have w3 : ∀ (kx : Nat → Fn 29) (kr : Fn 29), loopN (L1025_1 F70x) kx kr 1000000 (nn p) (.ag [nn uu, lv]) (.b false) (.p S.nx 0) (.b false) (.b false) (nn 0) (nn ws.length) .other lv .other .other .other .other (.b (decide (uu = 0))) (nn 0) .other .other .other .other .other .other .other .other .other .other .other .sn (nn 0) S2 = kx 1 (nn p) (.ag [nn uu, lv]) (.b false) (.p S.nx 0) (.b false) (.b false) (nn ws.length) (nn ws.length) I2 lv K2 L2 M2 N2 (.b (decide (uu = 0) || anyE ws)) (nn (degS ws)) .other .other .other .other .other .other .other .other .other .other .other .sn (nn 0) S3 := fun kx kr => by
      have := w3 kx kr
      rw [Nat.zero_add] at this
      exact this
    have hb3 := w2.get st2.ok hb2
    have hso := scan_ok w1
    by_cases hz : (decide (uu = 0) || anyE ws) = true
    · refine ⟨S3, .sn, s02.trans w2, ?_, fun k => ?_⟩
      · rw [outP, if_neg (fun h => by have := h.2.2.2.2.1; rw [hz] at this; cases this)]; rfl
      · rw [errP, if_pos hpb, if_pos hup, if_neg h256, if_neg (fun h => h w1), if_pos hz]
        rw [d_zero (k := k) (h1 := h1) (h2 := z2) (h3 := h3) (h4 := h4) (h5 := h5) (h6 := h6) (h7 := h7) (h8 := h8) (h9 := h9) (h10 := h10) (h11 := h11) (hkr := rfl) (hL := fun kn kx kr => by
          obtain ⟨kx', e1, e2⟩ := block_loop_at 1 (L1025_1 F70x) kn kx kr
          rw [e2, ← e1, w3 kx' kr, hz])]
    · have hz : (decide (uu = 0) || anyE ws) = false := Bool.eq_false_iff.2 hz
      have hL : ∀ (kn : Fn 29) (kx : Nat → Fn 29) (kr : Fn 29), cBlock 1 (cLoop (L1025_1 F70x)) kn kx kr (nn p) (.ag [nn uu, lv]) (.b false) (.p S.nx 0) (.b false) (.b false) (nn 0) (nn ws.length) .other lv .other .other .other .other (.b (decide (uu = 0))) (nn 0) .other .other .other .other .other .other .other .other .other .other .other .sn (nn 0) S2 = kn (nn p) (.ag [nn uu, lv]) (.b false) (.p S.nx 0) (.b false) (.b false) (nn ws.length) (nn ws.length) I2 lv K2 L2 M2 N2 (.b false) (nn (degS ws)) .other .other .other .other .other .other .other .other .other .other .other .sn (nn 0) S3 := fun kn kx kr => by
        obtain ⟨kx', e1, e2⟩ := block_loop_at 1 (L1025_1 F70x) kn kx kr
        rw [e2, ← e1, w3 kx' kr, hz]
      have hdb : degS ws ≤ 4000000 := by
        have key : ∀ ws : List Rw, (∀ r ∈ ws, r.l.length ≤ 65 ∧ Lt p r.l ∧ Trimd r.l ∧ 1 ≤ r.m ∧ r.m ≤ 64) → degS ws ≤ 4160 * ws.length := fun ws => by
          induction ws with
          | nil => intro _; simp [degS]
          | cons r ws ih =>
            intro h
            have h1 := ih (fun s hs => h s (by simp [hs]))
            obtain ⟨h2, _, _, _, h3⟩ := h r (by simp)
            have h4 : r.m * (r.l.length - 1) ≤ 64 * 65 := Nat.mul_le_mul (by omega) (by omega)
            simp only [degS, List.length_cons]; omega
        have := key ws hso
        omega
      by_cases h64 : 64 < degS ws
      · refine ⟨S3, .sn, s02.trans w2, ?_, fun k => ?_⟩
        · rw [outP, if_neg (fun h => by have := h.2.2.2.2.2; omega)]; rfl
        · rw [errP, if_pos hpb, if_pos hup, if_neg h256, if_neg (fun h => h w1), if_neg (by rw [hz]; simp), if_pos h64]
          rw [d_large (k := k) (h1 := h1) (h2 := z2) (h3 := h3) (h4 := h4) (h5 := h5) (h6 := h6) (h7 := h7) (h8 := h8) (h9 := h9) (h10 := h10) (h11 := h11) (hkr := rfl) (hL := hL) (h12 := fun c => by rw [gtr_n (by omega) (by omega), decide_eq_true h64])]
      · have s03 := s02.trans w2
        have st4 := Stp.new w2.ok [nn uu]
        have hb4 := st4.get w2.ok hb3
        have s04 := s03.trans st4
        obtain ⟨V2, X2, Y2, Z2, v25, S5, v5, st5, hr5, z5⟩ := loop3 (p := p) (by omega) (by omega) (show ws.length ≤ 256 by omega) (fun r hr => ⟨hs r hr, (hso r hr).2.1, (hso r hr).2.2.2.2⟩) (.ag [nn uu, lv]) (.b false) (.p S.nx 0) (.b false) (.b false) (nn ws.length) (nn ws.length) I2 lv K2 L2 M2 N2 (.b false) (nn (degS ws)) (.b false) (.b false) .sn (nn 0) 1000000 0 (.sl S3.nx 0 1 1) .other .other .other .other .other [uu] (S3.new [nn uu]) st4.ok (hl.stp ok s04) (hr.stp ok s04) (row_one S3 w2.ok uu) (fun x hx => by rw [List.mem_singleton] at hx; omega) (by show 1 + degS ws ≤ 100000; omega) (by omega) (by omega)
        have hr5 : Row S5 v5 (prodP p ws [uu]) := hr5
        refine ⟨S5, v5, s04.trans st5, ?_, fun k => ?_⟩
        · rw [outP, if_pos ⟨hpb, hup, by omega, w1, hz, by omega⟩]; exact hr5
        · have e0 : errP p uu ws = 0 := by rw [errP, if_pos hpb, if_pos hup, if_neg h256, if_neg (fun h => h w1), if_neg (by rw [hz]; simp), if_neg h64]
          rw [e0]
          rw [d_go (k := k) (h1 := h1) (h2 := z2) (h3 := h3) (h4 := h4) (h5 := h5) (h6 := h6) (h7 := h7) (h8 := h8) (h9 := h9) (h10 := h10) (h11 := h11) (hkr := rfl) (hL := hL) (h12 := fun c => by rw [gtr_n (by omega) (by omega), decide_eq_false h64]) (h13 := fun c => pLd_eq hb3 (by rfl) c) (h14 := fun k => pBsl1_eq (cellsK_i _ _) S3 k) (h15 := fun c => pLd_eq hb4 (by rfl) c) (hM := fun kn kx kr => by
            obtain ⟨kx', e1, e2⟩ := block_loop_at 3 (L1025_3 (cBlock 5 (cLoop (L1025_5 F67)))) kn kx kr
            rw [e2, ← e1]; exact z5 kx' kr)]
end
end Go.AM

/- galoisref10.Product: what it computes. -/
namespace Go.AM
open Go.Proofs
set_option linter.unusedVariables false
set_option linter.unusedSimpArgs false
set_option linter.constructorNameAsVariable false
set_option maxRecDepth 100000
noncomputable section
variable {S S' : St}
def L1026_0 (f1064 : Gn 2) : CS 20 := (cSeq (cSeq (cReg fun kn A B C D E F G H I J K L M N O P Q R T U S => pFa 1 D (fun a0 => pLd a0 S (fun a1 => pLen a1 (fun a2 => pLss G a2 (fun a3 => kn A B C D E F G a3 I J K L M N O P Q R T U S))))) (cCond (fun x y A B C D E F G H I J K L M N O P Q R T U S => pIf H (x A B C D E F G H I J K L M N O P Q R T U S) (y A B C D E F G H I J K L M N O P Q R T U S)) cSkip (cExit 0))) (cSeq (cBlock 1 (cSeq (cReg fun kn A B C D E F G H I J K L M N O P Q R T U S => pFa 1 D (fun a0 => pLd a0 S (fun a1 => pIdx 2 a1 G (fun a2 => pFa 0 a2 (fun a3 => pLd a3 S (fun a4 => f1064 A a4 S (fun a5 S => kn A B C D E F G H a5 J K L M N O P Q R T U S))))))) (cSeq (cSeq (cReg fun kn A B C D E F G H I J K L M N O P Q R T U S => pNeq I (.i .i64 0) (fun a0 => kn A B C D E F G H I a0 K L M N O P Q R T U S)) (cCond (fun x y A B C D E F G H I J K L M N O P Q R T U S => pIf J (x A B C D E F G H I J K L M N O P Q R T U S) (y A B C D E F G H I J K L M N O P Q R T U S)) (cSeq (cReg fun kn A B C D E F G H I J K L M N O P Q R T U S => kn A B C D E F G H I J K L M N O P Q R .sn I S) cRet) cSkip)) (cSeq (cSeq (cReg fun kn A B C D E F G H I J K L M N O P Q R T U S => pFa 1 D (fun a0 => pLd a0 S (fun a1 => pIdx 2 a1 G (fun a2 => pFa 1 a2 (fun a3 => pLd a3 S (fun a4 => pLss a4 (.i .i64 1) (fun a5 => pGd a5 false (fun c => pFa 1 D (fun v => c v S)) S (fun a6 S => pGd a5 false (fun c => pLd a6 S (fun v => c v S)) S (fun a7 S => pGd a5 false (fun c => c G S) S (fun a8 S => pGd a5 false (fun c => pIdx 2 a7 a8 (fun v => c v S)) S (fun a9 S => pGd a5 false (fun c => pFa 1 a9 (fun v => c v S)) S (fun a10 S => pGd a5 false (fun c => pLd a10 S (fun v => c v S)) S (fun a11 S => pGd a5 false (fun c => pGtr a11 (.i .i64 64) (fun v => c v S)) S (fun a12 S => pPick a5 (.b true) a12 (fun a13 => kn A B C D E F G H I J a13 L M N O P Q R T U S))))))))))))))) (cCond (fun x y A B C D E F G H I J K L M N O P Q R T U S => pIf K (x A B C D E F G H I J K L M N O P Q R T U S) (y A B C D E F G H I J K L M N O P Q R T U S)) (cSeq (cReg fun kn A B C D E F G H I J K L M N O P Q R T U S => kn A B C D E F G H I J K L M N O P Q R .sn (.i .i64 3) S) cRet) cSkip)) (cSeq (cReg fun kn A B C D E F G H I J K L M N O P Q R T U S => pGd L false (fun c => pFa 1 D (fun v => c v S)) S (fun a0 S => pGd L false (fun c => pLd a0 S (fun v => c v S)) S (fun a1 S => pGd L false (fun c => c G S) S (fun a2 S => pGd L false (fun c => pIdx 2 a1 a2 (fun v => c v S)) S (fun a3 S => pGd L false (fun c => pFa 0 a3 (fun v => c v S)) S (fun a4 S => pGd L false (fun c => pLd a4 S (fun v => c v S)) S (fun a5 S => pGd L false (fun c => pLen a5 (fun v => c v S)) S (fun a6 S => pGd L false (fun c => pEql a6 (.i .i64 0) (fun v => c v S)) S (fun a7 S => pPick L (.b true) a7 (fun a8 => kn A B C D E F G H I J K a8 M N O P Q R T U S)))))))))) (cReg fun kn A B C D E F G H I J K L M N O P Q R T U S => pFa 1 D (fun a0 => pLd a0 S (fun a1 => pIdx 2 a1 G (fun a2 => pFa 1 a2 (fun a3 => pLd a3 S (fun a4 => pFa 1 D (fun a5 => pLd a5 S (fun a6 => pIdx 2 a6 G (fun a7 => pFa 0 a7 (fun a8 => pLd a8 S (fun a9 => pLen a9 (fun a10 => pSub a10 (.i .i64 1) (fun a11 => pMul a4 a11 (fun a12 => pAdd M a12 (fun a13 => kn A B C D E F G H I J K L a13 N O P Q R T U S)))))))))))))))))))) (cReg fun kn A B C D E F G H I J K L M N O P Q R T U S => pAdd G (.i .i64 1) (fun a0 => kn A B C D E F a0 H I J K L M N O P Q R T U S))))
def L1026_2 (f1071 : Gn 3) (f1072 : Gn 3) : CS 20 := (cSeq (cSeq (cReg fun kn A B C D E F G H I J K L M N O P Q R T U S => pFa 1 D (fun a0 => pLd a0 S (fun a1 => pLen a1 (fun a2 => pLss P a2 (fun a3 => kn A B C D E F G H I J K L M N O P a3 R T U S))))) (cCond (fun x y A B C D E F G H I J K L M N O P Q R T U S => pIf Q (x A B C D E F G H I J K L M N O P Q R T U S) (y A B C D E F G H I J K L M N O P Q R T U S)) cSkip (cExit 2))) (cSeq (cBlock 3 (cReg fun kn A B C D E F G H I J K L M N O P Q R T U S => pFa 1 D (fun a0 => pLd a0 S (fun a1 => pIdx 2 a1 P (fun a2 => pFa 0 a2 (fun a3 => pLd a3 S (fun a4 => pFa 1 D (fun a5 => pLd a5 S (fun a6 => pIdx 2 a6 P (fun a7 => pFa 1 a7 (fun a8 => pLd a8 S (fun a9 => pDraw (f1072 A a4 a9) S (fun a10 S => pDraw (f1071 A R a10) S (fun a11 S => kn A B C D E F G H I J K L M N O P Q a11 T U S)))))))))))))) (cReg fun kn A B C D E F G H I J K L M N O P Q R T U S => pAdd P (.i .i64 1) (fun a0 => kn A B C D E F G H I J K L M N O a0 Q R T U S))))
def H1026_ (f13 : Gn 1) (I0 : CS 20) (I2 : CS 20) : CS 20 := (cSeq (cReg fun kn A B C D E F G H I J K L M N O P Q R T U S => pBox B S (fun a0 S => kn A B C a0 E F G H I J K L M N O P Q R .sn (.i .i64 0) S)) (cSeq (cSeq (cReg fun kn A B C D E F G H I J K L M N O P Q R T U S => f13 A S (fun a0 S => pNot a0 (fun a1 => kn A B a1 D E F G H I J K L M N O P Q R T U S))) (cCond (fun x y A B C D E F G H I J K L M N O P Q R T U S => pIf C (x A B C D E F G H I J K L M N O P Q R T U S) (y A B C D E F G H I J K L M N O P Q R T U S)) (cSeq (cReg fun kn A B C D E F G H I J K L M N O P Q R T U S => kn A B C D E F G H I J K L M N O P Q R .sn (.i .i64 7) S) cRet) cSkip)) (cSeq (cSeq (cReg fun kn A B C D E F G H I J K L M N O P Q R T U S => pFa 0 D (fun a0 => pLd a0 S (fun a1 => pLss a1 (.i .i64 0) (fun a2 => pGd a2 false (fun c => pFa 0 D (fun v => c v S)) S (fun a3 S => pGd a2 false (fun c => pLd a3 S (fun v => c v S)) S (fun a4 S => pGd a2 false (fun c => c A S) S (fun a5 S => pGd a2 false (fun c => pGeq a4 a5 (fun v => c v S)) S (fun a6 S => pPick a2 (.b true) a6 (fun a7 => kn A B C D a7 F G H I J K L M N O P Q R T U S))))))))) (cCond (fun x y A B C D E F G H I J K L M N O P Q R T U S => pIf E (x A B C D E F G H I J K L M N O P Q R T U S) (y A B C D E F G H I J K L M N O P Q R T U S)) (cSeq (cReg fun kn A B C D E F G H I J K L M N O P Q R T U S => kn A B C D E F G H I J K L M N O P Q R .sn (.i .i64 1) S) cRet) cSkip)) (cSeq (cSeq (cReg fun kn A B C D E F G H I J K L M N O P Q R T U S => pFa 1 D (fun a0 => pLd a0 S (fun a1 => pLen a1 (fun a2 => pGtr a2 (.i .i64 256) (fun a3 => kn A B C D E a3 G H I J K L M N O P Q R T U S))))) (cCond (fun x y A B C D E F G H I J K L M N O P Q R T U S => pIf F (x A B C D E F G H I J K L M N O P Q R T U S) (y A B C D E F G H I J K L M N O P Q R T U S)) (cSeq (cReg fun kn A B C D E F G H I J K L M N O P Q R T U S => kn A B C D E F G H I J K L M N O P Q R .sn (.i .i64 5) S) cRet) cSkip)) (cSeq (cReg fun kn A B C D E F G H I J K L M N O P Q R T U S => kn A B C D E F G H I J K L (.i .i64 0) N O P Q R T U S) (cSeq (cReg fun kn A B C D E F G H I J K L M N O P Q R T U S => pFa 0 D (fun a0 => pLd a0 S (fun a1 => pEql a1 (.i .i64 0) (fun a2 => kn A B C D E F G H I J K a2 M N O P Q R T U S)))) (cSeq (cSeq (cReg fun kn A B C D E F G H I J K L M N O P Q R T U S => kn A B C D E F (.i .i64 0) H I J K L M N O P Q R T U S) I0) (cSeq (cSeq (cReg fun kn A B C D E F G H I J K L M N O P Q R T U S => kn A B C D E F G H I J K L M L O P Q R T U S) (cCond (fun x y A B C D E F G H I J K L M N O P Q R T U S => pIf N (x A B C D E F G H I J K L M N O P Q R T U S) (y A B C D E F G H I J K L M N O P Q R T U S)) (cSeq (cReg fun kn A B C D E F G H I J K L M N O P Q R T U S => kn A B C D E F G H I J K L M N O P Q R .sn (.i .i64 0) S) cRet) cSkip)) (cSeq (cSeq (cReg fun kn A B C D E F G H I J K L M N O P Q R T U S => pGtr M (.i .i64 64) (fun a0 => kn A B C D E F G H I J K L M N a0 P Q R T U S)) (cCond (fun x y A B C D E F G H I J K L M N O P Q R T U S => pIf O (x A B C D E F G H I J K L M N O P Q R T U S) (y A B C D E F G H I J K L M N O P Q R T U S)) (cSeq (cReg fun kn A B C D E F G H I J K L M N O P Q R T U S => kn A B C D E F G H I J K L M N O P Q R .sn (.i .i64 4) S) cRet) cSkip)) (cSeq (cReg fun kn A B C D E F G H I J K L M N O P Q R T U S => pFa 0 D (fun a0 => pLd a0 S (fun a1 => pBsl [(.i .i64 0)] 1 [(0, 1, a1)] S (fun a2 S => kn A B C D E F G H I J K L M N O P Q a2 T U S)))) (cSeq (cSeq (cReg fun kn A B C D E F G H I J K L M N O P Q R T U S => kn A B C D E F G H I J K L M N O (.i .i64 0) Q R T U S) I2) (cSeq (cReg fun kn A B C D E F G H I J K L M N O P Q R T U S => kn A B C D E F G H I J K L M N O P Q R R (.i .i64 0) S) cRet))))))))))))
theorem C1026_eq (f13 : Gn 1) (f1064 : Gn 2) (f1071 : Gn 3) (f1072 : Gn 3) : C1026 f13 f1064 f1071 f1072 = H1026_ f13 (cBlock 0 (cLoop (L1026_0 f1064))) (cBlock 2 (cLoop (L1026_2 f1071 f1072))) := by rfl
-- p0 p1  | A B v2 D E F G H I J K L M N O P Q R T U
section
variable (f1064 : Gn 2) (K_ : Fn 20) (kx : Nat → Fn 20) (kr : Fn 20) (A B C D E F G H I J K L M N O P Q R_ T U d1 lv n q q0 q1 w e m d h_ i_ j_ nw : V) (z : Bool) (S : St)
  (g1 : ∀ c, pFa 1 D c = c d1) (g2 : ∀ c, pLd d1 S c = c lv) (g3 : ∀ c, pLen lv c = c n)
include g1 g2 g3
theorem q_end (h1 : ∀ c, pLss G n c = c (.b false)) : L1026_0 f1064 K_ kx kr A B C D E F G H I J K L M N O P Q R_ T U S = kx 0 A B C D E F G (.b false) I J K L M N O P Q R_ T U S := by
  simp only [L1026_0, cSeq, cReg, cCond, cBlock, cSkip, cExit, cRet,  g1, g2, g3, h1, ifF]
variable (h1 : ∀ c, pLss G n c = c (.b true)) (h2 : ∀ c, pIdx 2 lv G c = c q) (h3 : ∀ c, pFa 0 q c = c q0) (h4 : ∀ c, pLd q0 S c = c w) (h5 : ∀ k, f1064 A w S k = k e S)
include h1 h2 h3 h4 h5
theorem q_err (h6 : ∀ c, pNeq e (nn 0) c = c (.b true)) : L1026_0 f1064 K_ kx kr A B C D E F G H I J K L M N O P Q R_ T U S = kr A B C D E F G (.b true) e (.b true) K L M N O P Q R_ .sn e S := by
  simp only [L1026_0, cSeq, cReg, cCond, cBlock, cSkip, cExit, cRet,  g1, g2, g3, h1, h2, h3, h4, h5, h6, ifT]
variable (h6 : ∀ c, pNeq e (nn 0) c = c (.b false)) (h7 : ∀ c, pFa 1 q c = c q1) (h8 : ∀ c, pLd q1 S c = c m)
include h6 h7 h8
theorem q_lo (h9 : ∀ c, pLss m (nn 1) c = c (.b true)) : L1026_0 f1064 K_ kx kr A B C D E F G H I J K L M N O P Q R_ T U S = kr A B C D E F G (.b true) e (.b false) (.b true) L M N O P Q R_ .sn (nn 3) S := by
  simp only [L1026_0, cSeq, cReg, cCond, cBlock, cSkip, cExit, cRet,  g1, g2, g3, h1, h2, h3, h4, h5, h6, h7, h8, h9, pGd_tf, pGd_uf, pPick_t, ifT, ifF]
theorem q_hi (h9 : ∀ c, pLss m (nn 1) c = c (.b false)) (h10 : ∀ c, pGtr m (nn 64) c = c (.b true)) : L1026_0 f1064 K_ kx kr A B C D E F G H I J K L M N O P Q R_ T U S = kr A B C D E F G (.b true) e (.b false) (.b true) L M N O P Q R_ .sn (nn 3) S := by
  simp only [L1026_0, cSeq, cReg, cCond, cBlock, cSkip, cExit, cRet,  g1, g2, g3, h1, h2, h3, h4, h5, h6, h7, h8, h9, h10, pGd_ff, pPick_f, ifT, ifF]
variable (h9 : ∀ c, pLss m (nn 1) c = c (.b false)) (h10 : ∀ c, pGtr m (nn 64) c = c (.b false)) (h11 : ∀ c, pLen w c = c nw) (h12 : ∀ c, pSub nw (nn 1) c = c d) (h13 : ∀ c, pMul m d c = c h_) (h14 : ∀ c, pAdd M h_ c = c i_) (h15 : ∀ c, pAdd G (nn 1) c = c j_)
include h9 h10 h11 h12 h13 h14 h15
theorem q_goT (hO : L = .b true) : L1026_0 f1064 K_ kx kr A B C D E F G H I J K L M N O P Q R_ T U S = K_ A B C D E F j_ (.b true) e (.b false) (.b false) (.b true) i_ N O P Q R_ T U S := by
  subst hO
  simp only [L1026_0, cSeq, cReg, cCond, cBlock, cSkip, cExit, cRet,  g1, g2, g3, h1, h2, h3, h4, h5, h6, h7, h8, h9, h10, h11, h12, h13, h14, h15, pGd_ff, pGd_tf, pGd_uf, pPick_f, pPick_t, ifT, ifF]
theorem q_goF (hO : L = .b false) (h16 : ∀ c, pEql nw (nn 0) c = c (.b z)) : L1026_0 f1064 K_ kx kr A B C D E F G H I J K L M N O P Q R_ T U S = K_ A B C D E F j_ (.b true) e (.b false) (.b false) (.b z) i_ N O P Q R_ T U S := by
  subst hO
  simp only [L1026_0, cSeq, cReg, cCond, cBlock, cSkip, cExit, cRet,  g1, g2, g3, h1, h2, h3, h4, h5, h6, h7, h8, h9, h10, h11, h12, h13, h14, h15, h16, pGd_ff, pPick_f, ifT, ifF]
end
section
variable (f1071 f1072 : Gn 3) (K_ : Fn 20) (kx : Nat → Fn 20) (kr : Fn 20) (A B C D E F G H I J K L M N O P Q R_ T U d1 lv n q q0 q1 w m x r j_ : V) (S S1 S2 : St)
  (g1 : ∀ c, pFa 1 D c = c d1) (g2 : ∀ c, pLd d1 S c = c lv) (g3 : ∀ c, pLen lv c = c n)
include g1 g2 g3
theorem o2_end (h1 : ∀ c, pLss P n c = c (.b false)) : L1026_2 f1071 f1072 K_ kx kr A B C D E F G H I J K L M N O P Q R_ T U S = kx 2 A B C D E F G H I J K L M N O P (.b false) R_ T U S := by
  simp only [L1026_2, cSeq, cReg, cCond, cBlock, cSkip, cExit, cRet,  g1, g2, g3, h1, ifF]
theorem o2_go (h1 : ∀ c, pLss P n c = c (.b true)) (h2 : ∀ c, pIdx 2 lv P c = c q) (h3 : ∀ c, pFa 0 q c = c q0) (h4 : ∀ c, pLd q0 S c = c w) (h5 : ∀ c, pFa 1 q c = c q1) (h6 : ∀ c, pLd q1 S c = c m) (h7 : ∀ k, pDraw (f1072 A w m) S k = k x S1) (h8 : ∀ k, pDraw (f1071 A R_ x) S1 k = k r S2) (h9 : ∀ c, pAdd P (nn 1) c = c j_) :
    L1026_2 f1071 f1072 K_ kx kr A B C D E F G H I J K L M N O P Q R_ T U S = K_ A B C D E F G H I J K L M N O j_ (.b true) r T U S2 := by
  simp only [L1026_2, cSeq, cReg, cCond, cBlock, cSkip, cExit, cRet,  g1, g2, g3, h1, h2, h3, h4, h5, h6, h7, h8, h9, ifT]
end
section
variable (f13 : Gn 1) (I0 I2 : CS 20) (K_ : Fn 20) (kx : Nat → Fn 20) (kr : Fn 20) (A B C D E F G H I J K L M N O P Q R_ T U b b0 b1 u lv n r s g7 g8 g9 g10 g11 dd t1 t2 : V) (z : Bool) (k : Cont) (S S0 S1 S4 : St)
  (hkr : kr = fun A B C D E F G H I J K L M N O P Q R_ T U S => k (.tu [T, U]) S)
  (h1 : ∀ k, pBox B S k = k b S1)
include hkr h1
theorem r_np (h2 : ∀ k, f13 A S1 k = k (.b false) S1) : H1026_ f13 I0 I2 K_ kx kr A B C D E F G H I J K L M N O P Q R_ T U S = k (.tu [.sn, nn 7]) S1 := by
  simp only [H1026_, cSeq, cReg, cCond, cBlock, cSkip, cExit, cRet,  h1, h2, hkr, pNot_f, ifT]
variable (h2 : ∀ k, f13 A S1 k = k (.b true) S1) (h3 : ∀ c, pFa 0 b c = c b0) (h4 : ∀ c, pLd b0 S1 c = c u)
include h2 h3 h4
theorem r_neg (h5 : ∀ c, pLss u (nn 0) c = c (.b true)) : H1026_ f13 I0 I2 K_ kx kr A B C D E F G H I J K L M N O P Q R_ T U S = k (.tu [.sn, nn 1]) S1 := by
  simp only [H1026_, cSeq, cReg, cCond, cBlock, cSkip, cExit, cRet,  h1, h2, h3, h4, h5, hkr, pNot_t, pGd_tf, pGd_uf, pPick_t, ifT, ifF]
variable (h5 : ∀ c, pLss u (nn 0) c = c (.b false))
include h5
theorem r_big (h6 : ∀ c, pGeq u A c = c (.b true)) : H1026_ f13 I0 I2 K_ kx kr A B C D E F G H I J K L M N O P Q R_ T U S = k (.tu [.sn, nn 1]) S1 := by
  simp only [H1026_, cSeq, cReg, cCond, cBlock, cSkip, cExit, cRet,  h1, h2, h3, h4, h5, h6, hkr, pNot_t, pGd_ff, pPick_f, ifT, ifF]
variable (h6 : ∀ c, pGeq u A c = c (.b false)) (h7 : ∀ c, pFa 1 b c = c b1) (h8 : ∀ c, pLd b1 S1 c = c lv) (h9 : ∀ c, pLen lv c = c n)
include h6 h7 h8 h9
theorem r_many (h10 : ∀ c, pGtr n (nn 256) c = c (.b true)) : H1026_ f13 I0 I2 K_ kx kr A B C D E F G H I J K L M N O P Q R_ T U S = k (.tu [.sn, nn 5]) S1 := by
  simp only [H1026_, cSeq, cReg, cCond, cBlock, cSkip, cExit, cRet,  h1, h2, h3, h4, h5, h6, h7, h8, h9, h10, hkr, pNot_t, pGd_ff, pPick_f, ifT, ifF]
variable (h10 : ∀ c, pGtr n (nn 256) c = c (.b false)) (h11 : ∀ c, pEql u (nn 0) c = c (.b z))
include h10 h11
theorem r_scan (hL : ∀ (kn : Fn 20) (kx : Nat → Fn 20), I0 kn kx kr A B (.b false) b (.b false) (.b false) (nn 0) H I J K (.b z) (nn 0) N O P Q R_ .sn (nn 0) S1 = k s S1) : H1026_ f13 I0 I2 K_ kx kr A B C D E F G H I J K L M N O P Q R_ T U S = k s S1 := by
  subst hkr
  simp only [H1026_, cSeq, cReg, cCond, cBlock, cSkip, cExit, cRet,  h1, h2, h3, h4, h5, h6, h7, h8, h9, h10, h11, hL, pNot_t, pGd_ff, pPick_f, ifF]
theorem r_zero (hL : ∀ (kn : Fn 20) (kx : Nat → Fn 20) (kr : Fn 20), I0 kn kx kr A B (.b false) b (.b false) (.b false) (nn 0) H I J K (.b z) (nn 0) N O P Q R_ .sn (nn 0) S1 = kn A B (.b false) b (.b false) (.b false) g7 g8 g9 g10 g11 (.b true) dd N O P Q R_ .sn (nn 0) S1) : H1026_ f13 I0 I2 K_ kx kr A B C D E F G H I J K L M N O P Q R_ T U S = k (.tu [.sn, nn 0]) S1 := by
  subst hkr
  simp only [H1026_, cSeq, cReg, cCond, cBlock, cSkip, cExit, cRet,  h1, h2, h3, h4, h5, h6, h7, h8, h9, h10, h11, hL, pNot_t, pGd_ff, pPick_f, ifT, ifF]
variable (hL : ∀ (kn : Fn 20) (kx : Nat → Fn 20) (kr : Fn 20), I0 kn kx kr A B (.b false) b (.b false) (.b false) (nn 0) H I J K (.b z) (nn 0) N O P Q R_ .sn (nn 0) S1 = kn A B (.b false) b (.b false) (.b false) g7 g8 g9 g10 g11 (.b false) dd N O P Q R_ .sn (nn 0) S1)
include hL
theorem r_large (h12 : ∀ c, pGtr dd (nn 64) c = c (.b true)) : H1026_ f13 I0 I2 K_ kx kr A B C D E F G H I J K L M N O P Q R_ T U S = k (.tu [.sn, nn 4]) S1 := by
  subst hkr
  simp only [H1026_, cSeq, cReg, cCond, cBlock, cSkip, cExit, cRet,  h1, h2, h3, h4, h5, h6, h7, h8, h9, h10, h11, h12, hL, pNot_t, pGd_ff, pPick_f, ifT, ifF]
theorem r_go (h12 : ∀ c, pGtr dd (nn 64) c = c (.b false)) (h13 : ∀ k : Cont, pBsl [nn 0] 1 [(0, 1, u)] S1 k = k r S4)
    (hM : ∀ (kn : Fn 20) (kx : Nat → Fn 20) (kr : Fn 20), I2 kn kx kr A B (.b false) b (.b false) (.b false) g7 g8 g9 g10 g11 (.b false) dd (.b false) (.b false) (nn 0) Q r .sn (nn 0) S4 = kn A B (.b false) b (.b false) (.b false) g7 g8 g9 g10 g11 (.b false) dd (.b false) (.b false) t1 t2 s .sn (nn 0) S0) : H1026_ f13 I0 I2 K_ kx kr A B C D E F G H I J K L M N O P Q R_ T U S = k (.tu [s, nn 0]) S0 := by
  subst hkr
  simp only [H1026_, cSeq, cReg, cCond, cBlock, cSkip, cExit, cRet,  h1, h2, h3, h4, h5, h6, h7, h8, h9, h10, h11, h12, h13, hL, hM, pNot_t, pGd_ff, pPick_f, ifF]
end
theorem mul_m (a b : Nat) (c : V → R) : pMul (nn a) (nn b) c = c (nn ((a * b) % 18446744073709551616)) := by rw [pMul_i]; rfl
theorem add_m (a b : Nat) (c : V → R) : pAdd (nn a) (nn b) c = c (nn ((a + b) % 18446744073709551616)) := by rw [pAdd_i]; rfl
theorem sub_one {n : Nat} (hn : n < 4611686018427387905) : ∃ x, (∀ c : V → R, pSub (nn n) (nn 1) c = c (nn x)) ∧ (n ≠ 0 → x = n - 1) := by
  cases n with
  | zero => exact ⟨_, sub_01, fun h => absurd rfl h⟩
  | succ n => exact ⟨n, fun c => by rw [sub_n (by omega) (by omega)]; rfl, fun _ => rfl⟩
theorem rloop0 {p : Nat} (hp : p < 18446744073709551616) {lv d1 : V} {ws : List Rw} (hn : ws.length ≤ 256) (hs : ∀ r ∈ ws, r.l.length ≤ 80) (hl : LRow S lv ws) (hr : ROK S ws) (B C D E F N O P Q R_ T U : V) (g1 : ∀ c, pFa 1 D c = c d1) (g2 : ∀ c, pLd d1 S c = c lv) : ∀ (Fu i d : Nat) (z : Bool) (H I J K : V), i ≤ ws.length → ws.length < Fu + i → (z = false → d + 4160 * (ws.length - i) ≤ 4000000) →
    (scan p (ws.drop i) ≠ 0 ∧ ∀ (kx : Nat → Fn 20) (k : Cont), loopN (L1026_0 F1064) kx (fun A B C D E F G H I J K L M N O P Q R_ T U S => k (.tu [T, U]) S) Fu (nn p) B C D E F (nn i) H I J K (.b z) (nn d) N O P Q R_ T U S = k (.tu [.sn, nn (scan p (ws.drop i))]) S) ∨
    (scan p (ws.drop i) = 0 ∧ ∃ H2 I2 J2 K2 d2, ((z || anyE (ws.drop i)) = false → d2 = d + degS (ws.drop i)) ∧ ∀ (kx : Nat → Fn 20) (kr : Fn 20), loopN (L1026_0 F1064) kx kr Fu (nn p) B C D E F (nn i) H I J K (.b z) (nn d) N O P Q R_ T U S = kx 0 (nn p) B C D E F (nn ws.length) H2 I2 J2 K2 (.b (z || anyE (ws.drop i))) (nn d2) N O P Q R_ T U S)
  | 0, i, d, z, H, I, J, K, a1, a2, a3 => by omega
  | Fu + 1, i, d, z, H, I, J, K, a1, a2, a3 => by
    have g3 : ∀ c, pLen lv c = c (nn ws.length) := fun c => hl.len (by omega) c
    by_cases hi : i < ws.length
    · obtain ⟨r, hri⟩ : ∃ r, ws[i]? = some r := ⟨_, List.getElem?_eq_getElem hi⟩
      have hmem := List.mem_of_getElem? hri
      have hd := drop_rw hri
      rw [hd]
      obtain ⟨q, q0, q1, y1, y2, y3, y4, y5, y6⟩ := hl.at_ (by omega) hri
      obtain ⟨hrow, hw, hm⟩ := hr r hmem
      have hlen := hs r hmem
      have z3 := fun k => f1064_ok hp hrow (by omega) hw k
      have h1 : ∀ c, pLss (nn i) (nn ws.length) c = c (.b true) := fun c => by rw [lss_n (by omega) (by omega), decide_eq_true hi]
      by_cases hc : chk p r.l ≠ 0
      · have e3 : scan p (r :: ws.drop (i + 1)) = chk p r.l := by simp only [scan]; rw [if_pos hc]
        rw [e3]
        refine .inl ⟨hc, fun kx k => ?_⟩
        rw [loopN_succ, q_err (g1 := g1) (g2 := g2) (g3 := g3) (h1 := h1) (h2 := y1) (h3 := y3) (h4 := y4) (h5 := z3) (h6 := fun c => by rw [neq_n, decide_eq_false hc]; rfl)]
      · have hc0 : chk p r.l = 0 := by omega
        rw [hc0] at z3
        have g9 : ∀ c, pNeq (nn 0) (nn 0) c = c (.b false) := fun c => by rfl
        have hl65 := (chk_len hc0).1
        by_cases hbm : r.m < 1 ∨ 64 < r.m
        · have e3 : scan p (r :: ws.drop (i + 1)) = 3 := by simp only [scan]; rw [if_neg hc, if_pos hbm]
          rw [e3]
          refine .inl ⟨by decide, fun kx k => ?_⟩
          rw [loopN_succ]
          by_cases hlo : r.m < 1 ∨ 9223372036854775808 ≤ r.m
          · rw [q_lo (g1 := g1) (g2 := g2) (g3 := g3) (h1 := h1) (h2 := y1) (h3 := y3) (h4 := y4) (h5 := z3) (h6 := g9) (h7 := y5) (h8 := y6) (h9 := fun c => by rw [lss_s hm (by omega), decide_eq_true hlo])]
          · rw [q_hi (g1 := g1) (g2 := g2) (g3 := g3) (h1 := h1) (h2 := y1) (h3 := y3) (h4 := y4) (h5 := z3) (h6 := g9) (h7 := y5) (h8 := y6) (h9 := fun c => by rw [lss_s hm (by omega), decide_eq_false hlo]) (h10 := fun c => by rw [gtr_s hm (by omega), decide_eq_true (by omega)])]
        · have g12 : ∀ c, pLss (nn r.m) (nn 1) c = c (.b false) := fun c => by rw [lss_s hm (by omega), decide_eq_false (by omega)]
          have g13 : ∀ c, pGtr (nn r.m) (nn 64) c = c (.b false) := fun c => by rw [gtr_s hm (by omega), decide_eq_false (by omega)]
          have e3 : scan p (r :: ws.drop (i + 1)) = scan p (ws.drop (i + 1)) := by simp only [scan]; rw [if_neg hc, if_neg hbm]
          have eO : (z || anyE (r :: ws.drop (i + 1))) = ((z || decide (r.l.length = 0)) || anyE (ws.drop (i + 1))) := by simp only [anyE, Bool.or_assoc]
          have hmul : r.m * (r.l.length - 1) ≤ 64 * 65 := Nat.mul_le_mul (by omega) (by omega)
          obtain ⟨x, x1, x2⟩ := sub_one (n := r.l.length) (by omega)
          obtain ⟨d3, w1, w2⟩ : ∃ d3, (∀ c, pAdd (nn d) (nn ((r.m * x) % 18446744073709551616)) c = c (nn d3)) ∧ ((z || decide (r.l.length = 0)) = false → d3 = d + r.m * (r.l.length - 1)) := by
            refine ⟨_, fun c => add_m _ _ c, fun hz => ?_⟩
            rw [Bool.or_eq_false_iff] at hz
            have h0 : r.l.length ≠ 0 := of_decide_eq_false hz.2
            have := a3 hz.1
            rw [x2 h0, Nat.mod_eq_of_lt (show r.m * (r.l.length - 1) < 18446744073709551616 by omega), Nat.mod_eq_of_lt (by omega)]
          rw [e3, eO]
          have step : ∀ (kx : Nat → Fn 20) (kr : Fn 20), loopN (L1026_0 F1064) kx kr (Fu + 1) (nn p) B C D E F (nn i) H I J K (.b z) (nn d) N O P Q R_ T U S = loopN (L1026_0 F1064) kx kr Fu (nn p) B C D E F (nn (i + 1)) (.b true) (nn 0) (.b false) (.b false) (.b (z || decide (r.l.length = 0))) (nn d3) N O P Q R_ T U S := fun kx kr => by
            rw [loopN_succ]
            cases z with
            | true => rw [q_goT (g1 := g1) (g2 := g2) (g3 := g3) (h1 := h1) (h2 := y1) (h3 := y3) (h4 := y4) (h5 := z3) (h6 := g9) (h7 := y5) (h8 := y6) (h9 := g12) (h10 := g13) (h11 := fun c => hrow.len (by omega) c) (h12 := x1) (h13 := fun c => mul_m _ _ c) (h14 := w1) (h15 := fun c => add_n (by omega) c) (hO := rfl)]; rfl
            | false => rw [q_goF (z := decide (r.l.length = 0)) (g1 := g1) (g2 := g2) (g3 := g3) (h1 := h1) (h2 := y1) (h3 := y3) (h4 := y4) (h5 := z3) (h6 := g9) (h7 := y5) (h8 := y6) (h9 := g12) (h10 := g13) (h11 := fun c => hrow.len (by omega) c) (h12 := x1) (h13 := fun c => mul_m _ _ c) (h14 := w1) (h15 := fun c => add_n (by omega) c) (hO := rfl) (h16 := fun c => eql_n _ _ c)]; rfl
          simp only [step]
          rcases rloop0 hp hn hs hl hr B C D E F N O P Q R_ T U g1 g2 Fu (i + 1) d3 (z || decide (r.l.length = 0)) (.b true) (nn 0) (.b false) (.b false) (by omega) (by omega) (fun hz => by
            have hz2 := hz
            rw [Bool.or_eq_false_iff] at hz
            have := a3 hz.1
            rw [w2 hz2]; omega) with w3 | ⟨w3, H2, I2, J2, K2, d2, w4, w5⟩
          · exact .inl w3
          · refine .inr ⟨w3, H2, I2, J2, K2, d2, fun hz => ?_, w5⟩
            rw [w4 hz]
            rw [Bool.or_eq_false_iff] at hz
            rw [w2 hz.1]; simp only [degS]; omega
    · have : i = ws.length := by omega
      subst this
      rw [List.drop_length]
      refine .inr ⟨rfl, .b false, I, J, K, d, fun _ => rfl, fun kx kr => ?_⟩
      rw [loopN_succ, q_end (g1 := g1) (g2 := g2) (g3 := g3) (h1 := fun c => by rw [lss_n (by omega) (by omega), decide_eq_false (by omega)])]
      simp only [anyE, Bool.or_false]
def prodR (p : Nat) : List Rw → List Nat → List Nat
  | [], o => o
  | r :: ws, o => prodR p ws (mulT p o (powL p r.l r.m))
theorem mulP_len (p : Nat) (o P : List Nat) (m : Nat) : (mulT p o (powL p P m)).length ≤ o.length + m * (P.length - 1) := by
  have h1 := mulT_len p o (powL p P m)
  have h2 := powL_len p (P := P) m
  omega
theorem rloop2 {p : Nat} (h1 : 1 < p) (hp : p ≤ 65536) {lv d1 : V} {ws : List Rw} (hn : ws.length ≤ 256) (hs : ∀ r ∈ ws, r.l.length ≤ 80 ∧ Lt p r.l ∧ r.m ≤ 64) (B C D E F G H I J K L M N O T U : V) (g1 : ∀ c, pFa 1 D c = c d1) : ∀ (Fu i : Nat) (vo Q : V) (o : List Nat) (S : St), SOK S → LRow S lv ws → ROK S ws → (∀ S2, Stp S S2 → ∀ c, pLd d1 S2 c = c lv) → Row S vo o → Lt p o → o.length + degS (ws.drop i) ≤ 100000 → i ≤ ws.length → ws.length < Fu + i →
    ∃ Q2 S' v2, Stp S S' ∧ Row S' v2 (prodR p (ws.drop i) o) ∧ ∀ (kx : Nat → Fn 20) (kr : Fn 20), loopN (L1026_2 F1071 F1072) kx kr Fu (nn p) B C D E F G H I J K L M N O (nn i) Q vo T U S = kx 2 (nn p) B C D E F G H I J K L M N O (nn ws.length) Q2 v2 T U S'
  | 0, i, vo, Q, o, S, ok, hl, hr, hb, ho, lo, ll, a1, a2 => by omega
  | Fu + 1, i, vo, Q, o, S, ok, hl, hr, hb, ho, lo, ll, a1, a2 => by
    have g3 : ∀ c, pLen lv c = c (nn ws.length) := fun c => hl.len (by omega) c
    by_cases hi : i < ws.length
    · obtain ⟨r, hri⟩ : ∃ r, ws[i]? = some r := ⟨_, List.getElem?_eq_getElem hi⟩
      have hmem := List.mem_of_getElem? hri
      have hd := drop_rw hri
      rw [hd] at ll ⊢
      simp only [degS] at ll
      obtain ⟨q, q0, q1, y1, y2, y3, y4, y5, y6⟩ := hl.at_ (by omega) hri
      obtain ⟨hrow, hw, hm⟩ := hr r hmem
      obtain ⟨s1, s2, s3⟩ := hs r hmem
      obtain ⟨T1, x, t1, t2, t3⟩ := f1072_ok (S := S.lock) (m := r.m) ok.lock h1 hp hrow.lock (s2.sm hp) (by omega) (by omega)
      have st1 := Stp.unl ok t1
      have hx : Row (S.unl T1) x (powL p r.l r.m) := t2
      have hpl := powL_len p (P := r.l) r.m
      have hml := mulP_len p o r.l r.m
      obtain ⟨T2, v3, t4, t5, t6⟩ := f1071_ok (S := (S.unl T1).lock) st1.ok.lock (by omega) hp (st1.row ok ho).lock (lo.sm hp) hx.lock ((powL_lt h1 r.l r.m).sm hp) (by omega) (by omega)
      have st2 := Stp.unl st1.ok t4
      have st := st1.trans st2
      have hr3 : Row ((S.unl T1).unl T2) v3 (mulT p o (powL p r.l r.m)) := t5
      obtain ⟨Q2, S4, v4, st4, hr4, z4⟩ := rloop2 h1 hp hn hs B C D E F G H I J K L M N O T U g1 Fu (i + 1) v3 (.b true) (mulT p o (powL p r.l r.m)) ((S.unl T1).unl T2) st.ok (hl.stp ok st) (hr.stp ok st) (fun S3 s => hb S3 (st.trans s)) hr3 (mulT_lt (by omega) _ _) (by omega) (by omega) (by omega)
      refine ⟨Q2, S4, v4, st.trans st4, hr4, fun kx kr => ?_⟩
      rw [loopN_succ, o2_go (g1 := g1) (g2 := hb S (.refl ok)) (g3 := g3) (h1 := fun c => by rw [lss_n (by omega) (by omega), decide_eq_true hi]) (h2 := y1) (h3 := y3) (h4 := y4) (h5 := y5) (h6 := y6) (h7 := fun k => pDraw_stp t3 k) (h8 := fun k => pDraw_stp t6 k) (h9 := fun c => add_n (by omega) c)]
      exact z4 kx kr
    · have : i = ws.length := by omega
      subst this
      rw [List.drop_length]
      refine ⟨.b false, S, vo, .refl ok, ho, fun kx kr => ?_⟩
      rw [loopN_succ, o2_end (g1 := g1) (g2 := hb S (.refl ok)) (g3 := g3) (h1 := fun c => by rw [lss_n (by omega) (by omega), decide_eq_false (by omega)])]
def outR (p uu : Nat) (ws : List Rw) : List Nat := open Classical in if fullP p uu ws then prodR p ws [uu] else []
theorem f1026_ok (ok : SOK S) {p uu : Nat} (hp : p < 18446744073709551616) (hu : uu < 18446744073709551616) {lv : V} {ws : List Rw} (hl : LRow S lv ws) (hr : ROK S ws) (hs : ∀ r ∈ ws, r.l.length ≤ 80) (hn : ws.length ≤ 9223372036854775807) :
    ∃ S' v, Stp S S' ∧ Row S' v (outR p uu ws) ∧ ∀ k, F1026 (nn p) (.ag [nn uu, lv]) S k = k (.tu [v, nn (errP p uu ws)]) S' := by
  have st1 := Stp.new ok [nn uu, lv]
  have hb : (S.new [nn uu, lv]).h.get S.nx = some ⟨S.cnt, [nn uu, lv]⟩ := St.new_get _ _
  have h1 : ∀ k : Cont, pBox (.ag [nn uu, lv]) S k = k (.p S.nx 0) (S.new [nn uu, lv]) := fun k => pBox_ag _ S k
  have z2 : ∀ k, F13 (nn p) (S.new [nn uu, lv]) k = k (.b (pB p)) (S.new [nn uu, lv]) := fun k => f13_ok hp _ k
  have h3 : ∀ c, pFa 0 (.p S.nx 0) c = c (.p S.nx 0) := fun c => pFa_eq _ _ _ c
  have h7 : ∀ c, pFa 1 (.p S.nx 0) c = c (.p S.nx 1) := fun c => pFa_eq _ _ _ c
  have h4 : ∀ c, pLd (.p S.nx 0) (S.new [nn uu, lv]) c = c (nn uu) := fun c => pLd_eq hb (by rfl) c
  have h8 : ∀ S2, Stp (S.new [nn uu, lv]) S2 → ∀ c, pLd (.p S.nx 1) S2 c = c lv := fun S2 s c => pLd_eq (s.get st1.ok hb) (by rfl) c
  have hl1 := hl.stp ok st1
  have hr1 := hr.stp ok st1
  have h9 : ∀ c, pLen lv c = c (nn ws.length) := fun c => hl1.len hn c
  have h8' := h8 _ (.refl st1.ok)
  have ok1 := st1.ok
  have h14 : ∀ k : Cont, pBsl [nn 0] 1 [(0, 1, nn uu)] (S.new [nn uu, lv]) k = k (.sl (S.new [nn uu, lv]).nx 0 1 1) ((S.new [nn uu, lv]).new [nn uu]) := fun k => pBsl1_eq (cellsK_i _ _) _ k
  have hro := row_one (S.new [nn uu, lv]) ok1 uu
  have st5 := Stp.new ok1 [nn uu]
  generalize (S.new [nn uu, lv]).nx = nx5 at h14 hro
  generalize S.new [nn uu, lv] = S1 at *
  unfold F1026 G1026
  rw [C1026_eq]
  by_cases hpb : pB p = true
  case neg =>
    have hf : pB p = false := Bool.eq_false_iff.2 hpb
    rw [hf] at z2
    refine ⟨S1, .sn, st1, ?_, fun k => ?_⟩
    · rw [outR, if_neg (fun h => hpb h.1)]; rfl
    · rw [errP, if_neg hpb]
      rw [r_np (k := k) (h1 := h1) (h2 := z2) (hkr := rfl)]
  rw [hpb] at z2
  have hpl := pB_lt hpb
  by_cases hup : uu < p
  case neg =>
    refine ⟨S1, .sn, st1, ?_, fun k => ?_⟩
    · rw [outR, if_neg (fun h => hup h.2.1)]; rfl
    · rw [errP, if_pos hpb, if_neg hup]
      by_cases hneg : uu < 0 ∨ 9223372036854775808 ≤ uu
      · rw [r_neg (k := k) (h1 := h1) (h2 := z2) (h3 := h3) (h4 := h4) (hkr := rfl) (h5 := fun c => by rw [lss_s hu (by omega), decide_eq_true hneg])]
      · rw [r_big (k := k) (h1 := h1) (h2 := z2) (h3 := h3) (h4 := h4) (hkr := rfl) (h5 := fun c => by rw [lss_s hu (by omega), decide_eq_false hneg]) (h6 := fun c => by rw [geq_s hu (by omega), decide_eq_true (by omega)])]
  have h5 : ∀ c, pLss (nn uu) (nn 0) c = c (.b false) := fun c => by rw [lss_s hu (by omega), decide_eq_false (by omega)]
  have h6 : ∀ c, pGeq (nn uu) (nn p) c = c (.b false) := fun c => by rw [geq_s hu (by omega), decide_eq_false (by omega)]
  by_cases h256 : 256 < ws.length
  · refine ⟨S1, .sn, st1, ?_, fun k => ?_⟩
    · rw [outR, if_neg (fun h => by have := h.2.2.1; omega)]; rfl
    · rw [errP, if_pos hpb, if_pos hup, if_pos h256]
      rw [r_many (k := k) (h1 := h1) (h2 := z2) (h3 := h3) (h4 := h4) (h5 := h5) (h6 := h6) (h7 := h7) (h8 := h8') (h9 := h9) (h10 := fun c => by rw [gtr_n (by omega) (by omega), decide_eq_true h256]) (hkr := rfl)]
  have h10 : ∀ c, pGtr (nn ws.length) (nn 256) c = c (.b false) := fun c => by rw [gtr_n (by omega) (by omega), decide_eq_false h256]
  have h11 : ∀ c, pEql (nn uu) (nn 0) c = c (.b (decide (uu = 0))) := fun c => eql_n _ _ c
  rcases rloop0 hp (show ws.length ≤ 256 by omega) hs hl1 hr1 (.ag [nn uu, lv]) (.b false) (.p S.nx 0) (.b false) (.b false) .other .other .other .other .other .sn (nn 0) h7 h8' 1000000 0 0 (decide (uu = 0)) .other .other .other .other (by omega) (by omega) (fun _ => by omega) with ⟨w1, w3⟩ | ⟨w1, H2, I2, J2, K2, d2, w2, w3⟩
  · have w1 : scan p ws ≠ 0 := w1
    refine ⟨S1, .sn, st1, ?_, fun k => ?_⟩
    · rw [outR, if_neg (fun h => w1 h.2.2.2.1)]; rfl
    · rw [errP, if_pos hpb, if_pos hup, if_neg h256, if_pos w1]
      rw [r_scan (k := k) (h1 := h1) (h2 := z2) (h3 := h3) (h4 := h4) (h5 := h5) (h6 := h6) (h7 := h7) (h8 := h8') (h9 := h9) (h10 := h10) (h11 := h11) (hkr := rfl) (hL := fun kn kx => by
        obtain ⟨kx', e1, e2⟩ := block_loop_at 0 (L1026_0 F1064) kn kx (fun A B C D E F G H I J K L M N O P Q R_ T U S => k (.tu [T, U]) S)
        rw [e2]; exact w3 kx' k)]
      rfl
  · have w1 : scan p ws = 0 := w1
    have w2 : (decide (uu = 0) || anyE ws) = false → d2 = 0 + degS ws := w2
    have w3 : ∀ (kx : Nat → Fn 20) (kr : Fn 20), loopN (L1026_0 F1064) kx kr 1000000 (nn p) (.ag [nn uu, lv]) (.b false) (.p S.nx 0) (.b false) (.b false) (nn 0) .other .other .other .other (.b (decide (uu = 0))) (nn 0) .other .other .other .other .other .sn (nn 0) S1 = kx 0 (nn p) (.ag [nn uu, lv]) (.b false) (.p S.nx 0) (.b false) (.b false) (nn ws.length) H2 I2 J2 K2 (.b (decide (uu = 0) || anyE ws)) (nn d2) .other .other .other .other .other .sn (nn 0) S1 := fun kx kr => w3 kx kr
    have hso := scan_ok w1
    by_cases hz : (decide (uu = 0) || anyE ws) = true
    · refine ⟨S1, .sn, st1, ?_, fun k => ?_⟩
      · rw [outR, if_neg (fun h => by have := h.2.2.2.2.1; rw [hz] at this; cases this)]; rfl
      · rw [errP, if_pos hpb, if_pos hup, if_neg h256, if_neg (fun h => h w1), if_pos hz]
        rw [r_zero (k := k) (h1 := h1) (h2 := z2) (h3 := h3) (h4 := h4) (h5 := h5) (h6 := h6) (h7 := h7) (h8 := h8') (h9 := h9) (h10 := h10) (h11 := h11) (hkr := rfl) (hL := fun kn kx kr => by
          obtain ⟨kx', e1, e2⟩ := block_loop_at 0 (L1026_0 F1064) kn kx kr
          rw [e2, ← e1, w3 kx' kr, hz])]
    · have hz : (decide (uu = 0) || anyE ws) = false := Bool.eq_false_iff.2 hz
      have ed := w2 hz
      rw [Nat.zero_add] at ed
      have hL : ∀ (kn : Fn 20) (kx : Nat → Fn 20) (kr : Fn 20), cBlock 0 (cLoop (L1026_0 F1064)) kn kx kr (nn p) (.ag [nn uu, lv]) (.b false) (.p S.nx 0) (.b false) (.b false) (nn 0) .other .other .other .other (.b (decide (uu = 0))) (nn 0) .other .other .other .other .other .sn (nn 0) S1 = kn (nn p) (.ag [nn uu, lv]) (.b false) (.p S.nx 0) (.b false) (.b false) (nn ws.length) H2 I2 J2 K2 (.b false) (nn d2) .other .other .other .other .other .sn (nn 0) S1 := fun kn kx kr => by
        obtain ⟨kx', e1, e2⟩ := block_loop_at 0 (L1026_0 F1064) kn kx kr
        rw [e2, ← e1, w3 kx' kr, hz]
      have hdb : degS ws ≤ 4000000 := by
        have key : ∀ ws : List Rw, (∀ r ∈ ws, r.l.length ≤ 65 ∧ Lt p r.l ∧ Trimd r.l ∧ 1 ≤ r.m ∧ r.m ≤ 64) → degS ws ≤ 4160 * ws.length := fun ws => by
          induction ws with
          | nil => intro _; simp [degS]
          | cons r ws ih =>
            intro h
            have h1 := ih (fun s hs => h s (by simp [hs]))
            obtain ⟨h2, _, _, _, h3⟩ := h r (by simp)
            have h4 : r.m * (r.l.length - 1) ≤ 64 * 65 := Nat.mul_le_mul (by omega) (by omega)
            simp only [degS, List.length_cons]; omega
        have := key ws hso
        omega
      by_cases h64 : 64 < degS ws
      · refine ⟨S1, .sn, st1, ?_, fun k => ?_⟩
        · rw [outR, if_neg (fun h => by have := h.2.2.2.2.2; omega)]; rfl
        · rw [errP, if_pos hpb, if_pos hup, if_neg h256, if_neg (fun h => h w1), if_neg (by rw [hz]; simp), if_pos h64]
          rw [r_large (k := k) (h1 := h1) (h2 := z2) (h3 := h3) (h4 := h4) (h5 := h5) (h6 := h6) (h7 := h7) (h8 := h8') (h9 := h9) (h10 := h10) (h11 := h11) (hkr := rfl) (hL := hL) (h12 := fun c => by rw [ed, gtr_n (by omega) (by omega), decide_eq_true h64])]
      · have s05 := st1.trans st5
        obtain ⟨Q2, S5, v5, st6, hr5, z5⟩ := rloop2 (p := p) (by omega) (by omega) (show ws.length ≤ 256 by omega) (fun r hr => ⟨hs r hr, (hso r hr).2.1, (hso r hr).2.2.2.2⟩) (.ag [nn uu, lv]) (.b false) (.p S.nx 0) (.b false) (.b false) (nn ws.length) H2 I2 J2 K2 (.b false) (nn d2) (.b false) (.b false) .sn (nn 0) h7 1000000 0 (.sl nx5 0 1 1) .other [uu] (S1.new [nn uu]) st5.ok (hl.stp ok s05) (hr.stp ok s05) (fun S2 s => h8 S2 (st5.trans s)) hro (fun x hx => by rw [List.mem_singleton] at hx; omega) (by show 1 + degS ws ≤ 100000; omega) (by omega) (by omega)
        have hr5 : Row S5 v5 (prodR p ws [uu]) := hr5
        refine ⟨S5, v5, s05.trans st6, ?_, fun k => ?_⟩
        · rw [outR, if_pos ⟨hpb, hup, by omega, w1, hz, by omega⟩]; exact hr5
        · have e0 : errP p uu ws = 0 := by rw [errP, if_pos hpb, if_pos hup, if_neg h256, if_neg (fun h => h w1), if_neg (by rw [hz]; simp), if_neg h64]
          rw [e0]
          rw [r_go (k := k) (h1 := h1) (h2 := z2) (h3 := h3) (h4 := h4) (h5 := h5) (h6 := h6) (h7 := h7) (h8 := h8') (h9 := h9) (h10 := h10) (h11 := h11) (hkr := rfl) (hL := hL) (h12 := fun c => by rw [ed, gtr_n (by omega) (by omega), decide_eq_false h64]) (h13 := h14) (hM := fun kn kx kr => by
            obtain ⟨kx', e1, e2⟩ := block_loop_at 2 (L1026_2 F1071 F1072) kn kx kr
            rw [e2, ← e1]; exact z5 kx' kr)]
end
end Go.AM
