import Derived.Test.YtmknclgamadphaaM1PolymodReduces
import Derived.Laws.BitsAllLaws
import Derived.Lib.Strings
namespace Go.Proofs.Ytmknclgamadphaa.MPolymodReduces
open Go Go.RowKit Go.Proofs.Ytmknclgamadphaa.PPolymodReduces Go.Proofs.YtmknclgamadphaaW.PrintWords Go.Proofs.YtmknclgamadphaaW.PrintLast Go.Proofs.YtmknclgamadphaaW.PrintMore
set_option linter.unusedVariables false
set_option linter.unusedSimpArgs false
theorem vl_set {B : Nat} : ∀ (m : Nat) (l : List Int) (y : Int), m < l.length → 0 ≤ co l m → 0 ≤ y → vl B (l.set m (co l m + y)) = vl B l + y.toNat * B ^ m := by
  intro m
  induction m with
  | zero =>
    intro l y hm h0 hy
    cases l with
    | nil => simp at hm
    | cons a l =>
      rw [co_zero] at h0 ⊢
      show (a + y).toNat + B * vl B l = a.toNat + B * vl B l + y.toNat * B ^ 0
      rw [Nat.pow_zero]
      omega
  | succ m ih =>
    intro l y hm h0 hy
    cases l with
    | nil => simp at hm
    | cons a l =>
      rw [co_succ] at h0 ⊢
      show a.toNat + B * vl B (l.set m (co l m + y)) = a.toNat + B * vl B l + y.toNat * B ^ (m + 1)
      have e : B * (y.toNat * B ^ m) = y.toNat * B ^ (m + 1) := by rw [Nat.pow_succ, Nat.mul_comm B, Nat.mul_assoc]
      rw [ih l y (by simpa using hm) h0 hy, Nat.mul_add, e, Nat.add_assoc]
theorem wd_set {B : Nat} {l : List Int} (h : Wd B l) {m : Nat} {y : Int} (hy : 0 ≤ y ∧ y < (B : Int)) : Wd B (l.set m y) := fun i => by
  rw [co_set]
  split
  · exact hy
  · exact h i
theorem wd_replicate {B : Nat} (hB : 0 < B) (n : Nat) : Wd B (List.replicate n 0) := fun i => by rw [co_replicate]; omega
theorem vl_replicate {B : Nat} (n : Nat) : vl B (List.replicate n 0) = 0 := (vl_ext _ [] fun i => by rw [co_replicate, co_nil]).trans rfl
theorem pow64 : (18446744073709551616 : Nat) = 256 ^ 8 := rfl
theorem digit_low {V W k m s : Nat} (hV : V = W * 256 ^ (k + 1)) (hk : k = 8 * m + s) (hs : s < 8) : V / 18446744073709551616 ^ m % 18446744073709551616 = (W % 256 ^ (7 - s)) * 256 ^ (s + 1) := by
  rw [pow64, ← Nat.pow_mul, hV, hk, show 8 * m + s + 1 = (s + 1) + 8 * m from by omega, Nat.pow_add, ← Nat.mul_assoc, Nat.mul_div_cancel _ (Nat.pow_pos (by omega))]
  have : (256 : Nat) ^ 8 = 256 ^ (7 - s) * 256 ^ (s + 1) := by rw [← Nat.pow_add]; congr 1; omega
  rw [this, Nat.mul_mod_mul_right]
theorem or_add (a b j : Nat) (h : b < 2 ^ j) : (a * 2 ^ j ||| b) = a * 2 ^ j + b := by
  have := Nat.shiftLeft_add_eq_or_of_lt h a
  rw [Nat.shiftLeft_eq] at this
  exact this.symm
theorem shl_nat (x s : Nat) (hs : s ≤ 64) (h : x * 2 ^ s < 18446744073709551616) : shl .u64 (x : Int) (s : Int) = ((x * 2 ^ s : Nat) : Int) := by
  unfold shl
  rw [Int.toNat_natCast, show min s (IntKind.bits .u64) = s from Nat.min_eq_left hs]
  show ((x : Int) * 2 ^ s) % 18446744073709551616 = _
  have e : ((x : Int) * 2 ^ s) = ((x * 2 ^ s : Nat) : Int) := by norm_cast
  rw [e]
  omega
theorem shr_nat64 (x : Nat) (j : Nat) (hj : j ≤ 64) : shr .u64 (x : Int) (j : Int) = ((x / 2 ^ j : Nat) : Int) := by
  unfold shr
  rw [Int.toNat_natCast, show min j (IntKind.bits .u64) = j from Nat.min_eq_left hj]
  norm_cast
theorem wrapu {x : Int} (h0 : 0 ≤ x) (h1 : x < 18446744073709551616) : IntKind.u64.wrap x = x := by
  show x % 18446744073709551616 = x
  omega
theorem ex_trim_loop {l : List Int} (hl : l.length ≤ 1000000000) : ∀ n : Nat, n ≤ l.length → trimZ l = trimZ (l.take n) → Ev (fun k => exact_trim.l0 k l (n : Int)) (trimZ l) := by
  intro n
  induction n with
  | zero =>
    intro _ h
    refine Ev.succ ?_
    simp only [exact_trim.l0]
    refine Ev.neg (by omega) (Ev.pos (by omega) (Ev.pos (by omega) (Ev.con ?_)))
    rw [h]; rfl
  | succ n ih =>
    intro hn h
    refine Ev.succ ?_
    simp only [exact_trim.l0]
    rw [show ((n + 1 : Nat) : Int) - 1 = (n : Int) from by omega, w64 (x := (n : Int)) (by omega) (by omega)]
    refine Ev.pos (by omega) (Ev.pos (by omega) (Ev.pos (by omega) ?_))
    rw [rd_co, Int.toNat_natCast]
    by_cases hz : co l n = 0
    · refine Ev.pos hz (ih (by omega) (h.trans (trimZ_ext fun i => ?_)))
      rw [co_take, co_take]
      by_cases hi : i < n
      · rw [if_pos (by omega), if_pos hi]
      · by_cases hi2 : i = n
        · rw [hi2, if_pos (by omega), if_neg (by omega), hz]
        · rw [if_neg (by omega), if_neg hi]
    · have ht : Tr (l.take (n + 1)) := tr_of_last (.inr (by rw [List.length_take, Nat.min_eq_left hn, Nat.add_sub_cancel, co_take, if_pos (by omega)]; exact hz))
      exact Ev.neg hz (Ev.pos (by omega) (Ev.pos (by omega) (Ev.con (by rw [h, ht]; rfl))))
theorem ex_trim_is {l : List Int} (hl : l.length ≤ 1000000000) : Ev (fun k => exact_trim.f k l) (trimZ l) := ex_trim_loop hl _ (Nat.le_refl _) (by rw [List.take_length])
theorem two8 (j : Nat) : (2 : Nat) ^ (8 * j) = 256 ^ j := by rw [show (256 : Nat) = 2 ^ 8 from rfl, ← Nat.pow_mul]
theorem byte_lt {b s : Nat} (hb : b < 256) : b * 256 ^ s < 256 ^ (s + 1) := by
  rw [Nat.pow_succ, Nat.mul_comm (256 ^ s)]
  exact Nat.mul_lt_mul_of_pos_right hb (Nat.pow_pos (by decide))
theorem word_lt {T b s : Nat} (hb : b < 256) (hs : s < 8) (hT : T < 256 ^ (7 - s)) : T * 256 ^ (s + 1) + b * 256 ^ s < 18446744073709551616 := by
  have h8 : (T + 1) * 256 ^ (s + 1) ≤ 256 ^ (7 - s) * 256 ^ (s + 1) := Nat.mul_le_mul_right _ hT
  rw [← Nat.pow_add, show 7 - s + (s + 1) = 8 from by omega, Nat.add_mul, Nat.one_mul] at h8
  exact Nat.lt_of_lt_of_le (Nat.add_lt_add_left (byte_lt hb) _) h8
theorem word_or {T b s : Nat} (hb : b < 256) (hs : s < 8) (hT : T < 256 ^ (7 - s)) :
    Go.bits .or .u64 ((T * 256 ^ (s + 1) : Nat) : Int) (shl .u64 (IntKind.u64.wrap (b : Int)) ((8 * s : Nat) : Int)) = ((T * 256 ^ (s + 1) : Nat) : Int) + ((b * 256 ^ s : Nat) : Int) := by
  have h := word_lt hb hs hT
  have h1 : b * 256 ^ s < 18446744073709551616 := Nat.lt_of_le_of_lt (Nat.le_add_left _ _) h
  have h2 : T * 256 ^ (s + 1) < 18446744073709551616 := Nat.lt_of_le_of_lt (Nat.le_add_right _ _) h
  rw [wrapu (by omega) (by omega), shl_nat b (8 * s) (by omega) (by rw [two8]; exact h1), two8, u64_or_nat _ _ h2 h1, ← two8 (s + 1), or_add _ _ _ (by rw [two8]; exact byte_lt hb)]
  exact Int.natCast_add _ _
theorem words_e1 {i d n : Nat} (hi : i + (d + 1) = n) (hs : n ≤ 100000) : wrap64 ((wrap64 ((n : Int) - 1)) - (i : Int)) = (d : Int) := by
  rw [w64 (x := (n : Int) - 1) (by omega) (by omega), w64 (x := (n : Int) - 1 - (i : Int)) (by omega) (by omega)]; omega
theorem words_e2 {d m s : Nat} (hk : d = 8 * m + s) (hs : s < 8) (hd : d + 1 ≤ 100000) : wrap64 (Int.tdiv (d : Int) 8) = (m : Int) := by
  rw [Int.tdiv_eq_ediv_of_nonneg (by omega), show (d : Int) / 8 = (m : Int) from by omega, w64 (by omega) (by omega)]
theorem words_e3 {d m s : Nat} (hk : d = 8 * m + s) (hs : s < 8) : wrap64 (8 * (Int.tmod (d : Int) 8)) = ((8 * s : Nat) : Int) := by
  have e5 : Int.tmod (d : Int) 8 = (s : Int) := by rw [Int.tmod_eq_emod_of_nonneg (Int.natCast_nonneg d)]; omega
  rw [e5, w64 (x := 8 * (s : Int)) (by omega) (by omega)]; omega
theorem words_loop {e : ByteArray} (hs : e.size ≤ 100000) {L : Nat} (hL : L = (e.size + 7) / 8) : ∀ (d i : Nat) (x : List Int), i + d = e.size → x.length = L → Wd 18446744073709551616 x → vl 18446744073709551616 x = numB e i * 256 ^ d →
    ∃ y, Ev (fun k => exact_words.l0 k e x (e.size : Int) (i : Int)) (trimZ y) ∧ y.length = L ∧ Wd 18446744073709551616 y ∧ vl 18446744073709551616 y = nb e := by
  intro d
  induction d with
  | zero =>
    intro i x hi hx hw hv
    obtain rfl : i = e.size := by omega
    rw [Nat.pow_zero, Nat.mul_one] at hv
    refine ⟨x, Ev.succ ?_, hx, hw, hv⟩
    simp only [exact_words.l0]
    exact Ev.neg (by omega) (Ev.bind (ex_trim_is (by omega)) (Ev.con rfl))
  | succ d ih =>
    intro i x hi hx hw hv
    obtain ⟨m, s, hk, hs8⟩ : ∃ m s, d = 8 * m + s ∧ s < 8 := ⟨d / 8, d % 8, by omega, by omega⟩
    have hm : m < x.length := by omega
    have hb := bt_range e (i : Int)
    obtain ⟨b, hbe⟩ : ∃ b : Nat, bt e (i : Int) = (b : Int) := ⟨(bt e (i : Int)).toNat, by omega⟩
    have hb256 : b < 256 := by omega
    have e1' := words_e1 hi hs
    have e2 := words_e2 hk hs8 (Nat.le_trans (Nat.le_trans (Nat.le_add_left _ _) (Nat.le_of_eq hi)) hs)
    have e3 := words_e3 hk hs8
    have hd := vl_digit (by decide) m x hw
    rw [digit_low hv hk hs8] at hd
    have hT : numB e i % 256 ^ (7 - s) < 256 ^ (7 - s) := Nat.mod_lt _ (Nat.pow_pos (by decide))
    have hlt := word_lt hb256 hs8 hT
    have hor := word_or hb256 hs8 hT
    have hdl := (hw m).1
    have hsumI : co x m + ((b * 256 ^ s : Nat) : Int) < ((18446744073709551616 : Nat) : Int) := by
      rw [hd, ← Int.natCast_add]
      exact Int.ofNat_lt.2 hlt
    have hnn : (0 : Int) ≤ ((b * 256 ^ s : Nat) : Int) := Int.natCast_nonneg _
    have hval : vl 18446744073709551616 x + b * 256 ^ s * 18446744073709551616 ^ m = numB e (i + 1) * 256 ^ d := by
      rw [hv, pow64, ← Nat.pow_mul]
      show numB e i * 256 ^ (d + 1) + b * 256 ^ s * 256 ^ (8 * m) = (numB e i * 256 + (bt e (i : Int)).toNat) * 256 ^ d
      rw [hbe, Int.toNat_natCast, Nat.mul_assoc b, ← Nat.pow_add, show s + 8 * m = d from by omega, Nat.add_mul, Nat.mul_assoc, Nat.pow_succ, Nat.mul_comm (256 ^ d) 256]
    obtain ⟨y, y1, y2⟩ := ih (i + 1) (x.set m (co x m + ((b * 256 ^ s : Nat) : Int))) (by omega) (by rw [List.length_set]; exact hx) (wd_set hw ⟨Int.add_nonneg hdl hnn, hsumI⟩) (by
      rw [vl_set m x _ hm hdl hnn, Int.toNat_natCast]
      exact hval)
    refine ⟨y, Ev.succ ?_, y2⟩
    simp only [exact_words.l0]
    rw [e1', e2, e3, w64 (x := (i : Int) + 1) (by omega) (by omega), Int.toNat_natCast, hbe, rd_co, Int.toNat_natCast, hd, hor, ← hd]
    clear hd hT hlt hor hdl hsumI hnn hval hv hw ih e1' e2 e3 y2 hbe
    exact Ev.pos (by omega) (Ev.pos (by omega) (Ev.pos (by omega) (Ev.pos (by omega) (Ev.pos (by omega) (Ev.pos (by omega) y1)))))
theorem words_is {e : ByteArray} (hs : e.size ≤ 100000) : ∃ w, Ev (fun k => exact_words.f k e) w ∧ Tr w ∧ Wd 18446744073709551616 w ∧ vl 18446744073709551616 w = nb e ∧ w.length ≤ (e.size + 7) / 8 := by
  obtain ⟨y, y1, y2, y3, y4⟩ := words_loop hs rfl e.size 0 (List.replicate ((e.size + 7) / 8) 0) (Nat.zero_add _) (List.length_replicate) (wd_replicate (by omega) _) (by rw [vl_replicate]; show 0 = 0 * _; exact (Nat.zero_mul _).symm)
  refine ⟨trimZ y, ?_, tr_trimZ y, y3.trimZ, by rw [vl_trimZ, y4], Nat.le_trans (trimZ_len y) (by omega)⟩
  have e1 : wrap64 (Int.tdiv (wrap64 ((e.size : Int) + 7)) 8) = (((e.size + 7) / 8 : Nat) : Int) := by
    rw [w64 (x := (e.size : Int) + 7) (by omega) (by omega), Int.tdiv_eq_ediv_of_nonneg (by omega), w64 (by omega) (by omega)]; omega
  unfold exact_words.f
  rw [e1, Int.toNat_natCast]
  exact Ev.pos (by omega) (Ev.pos (by omega) y1)
def p8 (k : Nat) : Nat := 256 ^ k
theorem p8_zero : p8 0 = 1 := rfl
theorem p8_succ (k : Nat) : p8 (k + 1) = p8 k * 256 := Nat.pow_succ ..
theorem p8_pos (k : Nat) : 0 < p8 k := Nat.pow_pos (by decide)
theorem p8_add (j k : Nat) : p8 (j + k) = p8 j * p8 k := Nat.pow_add _ _ _
theorem p8_64 (m : Nat) : 18446744073709551616 ^ m = p8 (8 * m) := by rw [pow64, ← Nat.pow_mul]; rfl
def By (l : List Int) : Prop := ∀ i, 0 ≤ co l i ∧ co l i < 256
theorem numB_be {bl : List Int} {V : Nat} (hb : By bl) (h : ∀ j, j < bl.length → co bl (bl.length - 1 - j) = ((V / p8 j % 256 : Nat) : Int)) (hV : V < p8 bl.length) : ∀ i, i ≤ bl.length → numB (strOfNums bl) i = V / p8 (bl.length - i) := by
  intro i
  induction i with
  | zero => intro _; rw [Nat.sub_zero, Nat.div_eq_of_lt hV]; rfl
  | succ i ih =>
    intro hi
    show numB (strOfNums bl) i * 256 + (bt (strOfNums bl) (i : Int)).toNat = _
    have h1 := h (bl.length - 1 - i) (by omega)
    rw [show bl.length - 1 - (bl.length - 1 - i) = i from by omega] at h1
    rw [ih (by omega), bt_strOfNums hb i, h1, Int.toNat_natCast, show bl.length - i = (bl.length - (i + 1)) + 1 from by omega, p8_succ, ← Nat.div_div_eq_div_mul, show bl.length - 1 - i = bl.length - (i + 1) from by omega]
    exact Nat.div_add_mod' _ 256
theorem nb_be {bl : List Int} {V : Nat} (hb : By bl) (h : ∀ j, j < bl.length → co bl (bl.length - 1 - j) = ((V / p8 j % 256 : Nat) : Int)) (hV : V < p8 bl.length) : nb (strOfNums bl) = V := by
  have := numB_be hb h hV bl.length (Nat.le_refl _)
  rw [Nat.sub_self, p8_zero, Nat.div_one] at this
  unfold nb
  rw [strOfNums_size]
  exact this
theorem digit_byte (X : Nat) {s : Nat} (hs : s < 8) : X % 18446744073709551616 / p8 s % 256 = X / p8 s % 256 := by
  have h1 : (18446744073709551616 : Nat) = p8 s * p8 (8 - s) := by rw [← p8_add, show s + (8 - s) = 8 from by omega]; rfl
  have h2 : p8 (8 - s) = p8 (7 - s) * 256 := by rw [← p8_succ]; congr 1; omega
  rw [h1, Nat.mod_mul_right_div_self, Nat.mod_mod_of_dvd _ ⟨p8 (7 - s), by rw [h2, Nat.mul_comm]⟩]
theorem co_drop (l : List Int) (z i : Nat) : co (l.drop z) i = co l (z + i) := by simp [co, List.getElem?_drop]
theorem pack_skip {bl : List Int} {V : Nat} (hl : bl.length ≤ 1000000) (hb : By bl) (h : ∀ j, j < bl.length → co bl (bl.length - 1 - j) = ((V / p8 j % 256 : Nat) : Int)) (h0 : 0 < V) :
    ∀ (d z : Nat), z + d = bl.length → V < p8 (bl.length - z) → ∃ e, Ev (fun k => exact_pack.l2 k bl (z : Int)) e ∧ Nf e ∧ nb e = V ∧ e.size ≤ bl.length := by
  intro d
  induction d with
  | zero =>
    intro z hz hV
    rw [show bl.length - z = 0 from by omega, p8_zero] at hV
    omega
  | succ d ih =>
    intro z hz hV
    have hc := h (bl.length - 1 - z) (by omega)
    rw [show bl.length - 1 - (bl.length - 1 - z) = z from by omega] at hc
    have hlt : V / p8 (bl.length - 1 - z) < 256 := Nat.div_lt_of_lt_mul (by rw [← p8_succ, show bl.length - 1 - z + 1 = bl.length - z from by omega]; exact hV)
    rw [Nat.mod_eq_of_lt hlt] at hc
    by_cases hz0 : co bl z = 0
    · obtain ⟨e, e1, e2⟩ := ih (z + 1) (by omega) (by
        have : V / p8 (bl.length - 1 - z) = 0 := by omega
        rw [show bl.length - (z + 1) = bl.length - 1 - z from by omega]
        have hp : 0 < p8 (bl.length - 1 - z) := p8_pos _
        exact (Nat.div_eq_zero_iff_lt hp).1 this)
      refine ⟨e, Ev.succ ?_, e2⟩
      simp only [exact_pack.l2]
      rw [rd_co, Int.toNat_natCast, w64 (x := (z : Int) + 1) (by omega) (by omega)]
      exact Ev.pos (by omega) (Ev.pos (by omega) (Ev.pos hz0 e1))
    · have hb2 : By (bl.drop z) := fun i => by rw [co_drop]; exact hb _
      have hl2 : (bl.drop z).length = bl.length - z := List.length_drop
      refine ⟨strOfNums (bl.drop z), Ev.succ ?_, ?_, ?_, by rw [strOfNums_size, hl2]; omega⟩
      · simp only [exact_pack.l2]
        rw [rd_co, Int.toNat_natCast]
        exact Ev.pos (by omega) (Ev.pos (by omega) (Ev.neg hz0 (Ev.pos (by omega) (Ev.con rfl))))
      · intro _
        have := bt_strOfNums hb2 0
        rw [show ((0 : Nat) : Int) = 0 from rfl] at this
        rw [this, co_drop, Nat.add_zero]
        exact hz0
      · refine nb_be hb2 (fun j hj => ?_) (by rw [hl2]; exact hV)
        rw [co_drop, hl2, show z + (bl.length - z - 1 - j) = bl.length - 1 - j from by rw [hl2] at hj; omega]
        exact h j (by omega)
theorem pack_word {t : List Int} {V n i : Nat} (hn : t.length = n) (hnl : n ≤ 10000) (ht : ∀ m, m < n → co t m = ((V / 18446744073709551616 ^ m % 18446744073709551616 : Nat) : Int)) (hi : i < n) {Q : ByteArray → Prop}
    (next : ∀ x : List Int, x.length = 8 * n → By x → (∀ j, j < 8 * (i + 1) → co x (8 * n - 1 - j) = ((V / p8 j % 256 : Nat) : Int)) → ∃ e, Ev (fun k => exact_pack.l0 k x t (n : Int) ((i : Int) + 1)) e ∧ Q e) :
    ∀ (d s : Nat) (x : List Int), s + d = 8 → x.length = 8 * n → By x → (∀ j, j < 8 * i + s → co x (8 * n - 1 - j) = ((V / p8 j % 256 : Nat) : Int)) → ∃ e, Ev (fun k => exact_pack.l1 k x (i : Int) (co t i) t (n : Int) (i : Int) (s : Int)) e ∧ Q e := by
  intro d
  induction d with
  | zero =>
    intro s x hs hx hb h
    obtain ⟨e, e1, e2⟩ := next x hx hb (fun j hj => h j (by omega))
    refine ⟨e, Ev.succ ?_, e2⟩
    simp only [exact_pack.l1]
    rw [w64 (x := (i : Int) + 1) (by omega) (by omega)]
    exact Ev.neg (by omega) e1
  | succ d ih =>
    intro s x hs hx hb h
    have hbyte : (shr .u64 (co t i) ((8 * s : Nat) : Int)) % 256 = ((V / p8 (8 * i + s) % 256 : Nat) : Int) := by
      have h1 := digit_byte (V / p8 (8 * i)) (s := s) (by omega)
      rw [Nat.div_div_eq_div_mul, ← p8_add] at h1
      rw [ht i hi, shr_nat64 _ _ (by omega), two8, p8_64, ← h1]
      rfl
    obtain ⟨e, e1, e2⟩ := ih (s + 1) (x.set (8 * n - 1 - (8 * i + s)) ((V / p8 (8 * i + s) % 256 : Nat) : Int)) (by omega) (by rw [List.length_set]; exact hx) (fun j => by
      rw [co_set]
      split
      · have := Nat.mod_lt (V / p8 (8 * i + s)) (show 256 > 0 by omega); omega
      · exact hb j) (fun j hj => by
      rw [co_set]
      by_cases hjj : j = 8 * i + s
      · rw [if_pos ⟨by omega, by omega⟩, hjj]
      · rw [if_neg (by omega)]
        exact h j (by omega))
    have ei : wrap64 ((wrap64 ((wrap64 ((x.length : Int) - 1)) - (wrap64 (8 * (i : Int))))) - (s : Int)) = ((8 * n - 1 - (8 * i + s) : Nat) : Int) := by
      rw [w64 (x := (x.length : Int) - 1) (by omega) (by omega), w64 (x := 8 * (i : Int)) (by omega) (by omega), w64 (x := (x.length : Int) - 1 - 8 * (i : Int)) (by omega) (by omega), w64 (by omega) (by omega)]; omega
    refine ⟨e, Ev.succ ?_, e2⟩
    simp only [exact_pack.l1]
    rw [ei, w64 (x := 8 * (s : Int)) (by omega) (by omega), show 8 * (s : Int) = ((8 * s : Nat) : Int) from by omega, hbyte, Int.toNat_natCast, w64 (x := (s : Int) + 1) (by omega) (by omega)]
    exact Ev.pos (by omega) (Ev.pos (by omega) (Ev.pos (by omega) (Ev.pos (by omega) e1)))
theorem pack_rows {t : List Int} {V n : Nat} (hn : t.length = n) (hnl : n ≤ 10000) (ht : ∀ m, m < n → co t m = ((V / 18446744073709551616 ^ m % 18446744073709551616 : Nat) : Int)) (h0 : 0 < V) (hV : V < p8 (8 * n)) :
    ∀ (d i : Nat) (x : List Int), i + d = n → x.length = 8 * n → By x → (∀ j, j < 8 * i → co x (8 * n - 1 - j) = ((V / p8 j % 256 : Nat) : Int)) → ∃ e, Ev (fun k => exact_pack.l0 k x t (n : Int) (i : Int)) e ∧ Nf e ∧ nb e = V ∧ e.size ≤ 8 * n := by
  intro d
  induction d with
  | zero =>
    intro i x hi hx hb h
    obtain ⟨e, e1, e2, e3, e4⟩ := pack_skip (bl := x) (V := V) (by omega) hb (fun j hj => by rw [hx] at hj ⊢; exact h j (by omega)) h0 x.length 0 (Nat.zero_add _) (by rw [Nat.sub_zero, hx]; exact hV)
    refine ⟨e, Ev.succ ?_, e2, e3, by omega⟩
    simp only [exact_pack.l0]
    exact Ev.neg (by omega) e1
  | succ d ih =>
    intro i x hi hx hb h
    obtain ⟨e, e1, e2⟩ := pack_word hn hnl ht (i := i) (by omega) (Q := fun e => Nf e ∧ nb e = V ∧ e.size ≤ 8 * n) (fun x hx hb h => ih (i + 1) x (by omega) hx hb h) 8 0 x (Nat.zero_add _) hx hb (fun j hj => h j (by omega))
    refine ⟨e, Ev.succ ?_, e2⟩
    simp only [exact_pack.l0]
    rw [rd_co, Int.toNat_natCast]
    exact Ev.pos (by omega) (Ev.pos (by omega) (Ev.pos (by omega) e1))
theorem pack_is {l : List Int} (hw : Wd 18446744073709551616 l) (hl : l.length ≤ 10000) : ∃ e, Ev (fun k => exact_pack.f k l) e ∧ Nf e ∧ nb e = vl 18446744073709551616 l ∧ e.size ≤ 8 * l.length := by
  have hT := ex_trim_is (l := l) (by omega)
  have htl := trimZ_len l
  by_cases h0 : trimZ l = []
  · refine ⟨⟨#[]⟩, ?_, fun h => absurd h (by decide), ?_, Nat.zero_le _⟩
    · unfold exact_pack.f
      exact Ev.bind hT (Ev.pos (by rw [h0]; rfl) (Ev.con rfl))
    · rw [← vl_trimZ, h0]; rfl
  · have hlen := List.length_pos_iff.2 h0
    have hwt := hw.trimZ
    have hlt := vl_lt (by omega) _ hwt
    rw [p8_64] at hlt
    have hpos : 0 < vl 18446744073709551616 (trimZ l) := Nat.pos_of_ne_zero fun h => h0 ((vl_zero_iff (by omega) (tr_trimZ l) hwt).1 h)
    obtain ⟨e, e1, e2, e3, e4⟩ := pack_rows (t := trimZ l) (V := vl 18446744073709551616 (trimZ l)) rfl (by omega) (fun m _ => vl_digit (by omega) m _ hwt) hpos hlt (trimZ l).length 0 (List.replicate (8 * (trimZ l).length) 0) (Nat.zero_add _) (List.length_replicate) (fun i => by rw [co_replicate]; omega) (fun j hj => by omega)
    refine ⟨e, ?_, e2, by rw [e3, vl_trimZ], by omega⟩
    unfold exact_pack.f
    refine Ev.bind hT (Ev.neg (by omega) ?_)
    rw [w64 (x := 8 * ((trimZ l).length : Int)) (by omega) (by omega), show (8 * ((trimZ l).length : Int)).toNat = 8 * (trimZ l).length from by omega]
    exact Ev.pos (by omega) (Ev.pos (by omega) e1)
def lenT : ByteArray := ⟨#[0, 1, 2, 2, 3, 3, 3, 3, 4, 4, 4, 4, 4, 4, 4, 4, 5, 5, 5, 5, 5, 5, 5, 5, 5, 5, 5, 5, 5, 5, 5, 5, 6, 6, 6, 6, 6, 6, 6, 6, 6, 6, 6, 6, 6, 6, 6, 6, 6, 6, 6, 6, 6, 6, 6, 6, 6, 6, 6, 6, 6, 6, 6, 6, 7, 7, 7, 7, 7, 7, 7, 7, 7, 7, 7, 7, 7, 7, 7, 7, 7, 7, 7, 7, 7, 7, 7, 7, 7, 7, 7, 7, 7, 7, 7, 7, 7, 7, 7, 7, 7, 7, 7, 7, 7, 7, 7, 7, 7, 7, 7, 7, 7, 7, 7, 7, 7, 7, 7, 7, 7, 7, 7, 7, 7, 7, 7, 7, 8, 8, 8, 8, 8, 8, 8, 8, 8, 8, 8, 8, 8, 8, 8, 8, 8, 8, 8, 8, 8, 8, 8, 8, 8, 8, 8, 8, 8, 8, 8, 8, 8, 8, 8, 8, 8, 8, 8, 8, 8, 8, 8, 8, 8, 8, 8, 8, 8, 8, 8, 8, 8, 8, 8, 8, 8, 8, 8, 8, 8, 8, 8, 8, 8, 8, 8, 8, 8, 8, 8, 8, 8, 8, 8, 8, 8, 8, 8, 8, 8, 8, 8, 8, 8, 8, 8, 8, 8, 8, 8, 8, 8, 8, 8, 8, 8, 8, 8, 8, 8, 8, 8, 8, 8, 8, 8, 8, 8, 8, 8, 8, 8, 8, 8, 8, 8, 8, 8, 8, 8, 8, 8, 8, 8, 8, 8, 8]⟩
theorem lenT_is : ∀ i : Fin 256, bt lenT ((i.val : Nat) : Int) ≤ 8 ∧ 0 ≤ bt lenT ((i.val : Nat) : Int) ∧ i.val < 2 ^ (bt lenT ((i.val : Nat) : Int)).toNat ∧ (0 < i.val → 1 ≤ bt lenT ((i.val : Nat) : Int)) := by decide +kernel
theorem len_lt {i : Nat} (h : i < 256) : ∃ n : Nat, bt lenT (i : Int) = (n : Int) ∧ n ≤ 8 ∧ i < 2 ^ n ∧ (0 < i → 1 ≤ n) := by
  obtain ⟨h1, h2, h3, h4⟩ := lenT_is ⟨i, h⟩
  exact ⟨(bt lenT (i : Int)).toNat, (Int.toNat_of_nonneg h2).symm, by simp only at h1 h2; omega, h3, fun h0 => by have := h4 h0; simp only at this h2; omega⟩
theorem len_j0 (k : Nat) (x0 x2 : Int) : bits_Len64.j0 (k + 1) x0 x2 = (if x0 ≥ 65536 then (if (x0 / 65536) ≥ 256 then (if 0 ≤ (((x0 / 65536) / 256) % 256) then (if (((x0 / 65536) / 256) % 256) < 256 then (some (wrap64 ((wrap64 ((wrap64 (x2 + 16)) + 8)) + (wrap64 (bt lenT (((x0 / 65536) / 256) % 256)))))) else (none)) else (none)) else (if 0 ≤ ((x0 / 65536) % 256) then (if ((x0 / 65536) % 256) < 256 then (some (wrap64 ((wrap64 (x2 + 16)) + (wrap64 (bt lenT ((x0 / 65536) % 256)))))) else (none)) else (none))) else (if x0 ≥ 256 then (if 0 ≤ ((x0 / 256) % 256) then (if ((x0 / 256) % 256) < 256 then (some (wrap64 ((wrap64 (x2 + 8)) + (wrap64 (bt lenT ((x0 / 256) % 256)))))) else (none)) else (none)) else (if 0 ≤ ((x0) % 256) then (if ((x0) % 256) < 256 then (some (wrap64 (x2 + (wrap64 (bt lenT ((x0) % 256)))))) else (none)) else (none)))) := rfl
theorem Len64_is {y : Nat} (h0 : 0 < y) (h1 : y < 65536) : ∃ L : Nat, Ev (fun k => bits_Len64.f k (y : Int)) (L : Int) ∧ 1 ≤ L ∧ L ≤ 16 ∧ y < 2 ^ L := by
  unfold bits_Len64.f
  by_cases hb : y ≥ 256
  · obtain ⟨n, n1, n2, n3, n4⟩ := len_lt (i := y / 256) (by omega)
    refine ⟨8 + n, Ev.neg (by omega) (Ev.succ ?_), by omega, by omega, ?_⟩
    · simp only [len_j0]
      rw [show ((y : Int) / 256) % 256 = ((y / 256 : Nat) : Int) from by omega]
      refine Ev.neg (by omega) (Ev.pos (by omega) (Ev.pos (by omega) (Ev.pos (by omega) (Ev.con ?_))))
      rw [n1, w64 (x := (0 : Int) + 8) (by omega) (by omega), w64 (x := (n : Int)) (by omega) (by omega), w64 (by omega) (by omega)]
      congr 1
    · rw [Nat.pow_add]
      omega
  · obtain ⟨n, n1, n2, n3, n4⟩ := len_lt (i := y) (by omega)
    refine ⟨n, Ev.neg (by omega) (Ev.succ ?_), n4 h0, by omega, n3⟩
    simp only [len_j0]
    rw [show (y : Int) % 256 = ((y : Nat) : Int) from by omega]
    refine Ev.neg (by omega) (Ev.neg (by omega) (Ev.pos (by omega) (Ev.pos (by omega) (Ev.con ?_))))
    rw [n1, w64 (x := (n : Int)) (by omega) (by omega), w64 (by omega) (by omega), Int.zero_add]
theorem div_core {y hi lo T c E : Nat} (hTc : T * c = E) (hc : 0 < c) (hE : 0 < E) (hy : 0 < y) : ((hi * (c * E) + lo / T) % (y * c) * E + lo % T * c) % (y * c) * E / (c * E) = (hi * (E * E) + lo) % y := by
  have e1 : (hi * (c * E) + lo / T) * T + lo % T = hi * (E * E) + lo := by
    have h1 := Nat.div_add_mod lo T
    have h2 : hi * (c * E) * T = hi * (E * E) := by
      rw [Nat.mul_assoc, Nat.mul_assoc c, Nat.mul_comm E T, ← Nat.mul_assoc c, Nat.mul_comm c T, hTc]
    rw [Nat.add_mul, h2, Nat.mul_comm (lo / T)]
    omega
  generalize hU : hi * (c * E) + lo / T = U at *
  generalize hN : hi * (E * E) + lo = N at *
  have hyc : 0 < y * c := Nat.mul_pos hy hc
  have e2 : N * c = U * E + lo % T * c := by rw [← e1, Nat.add_mul, Nat.mul_assoc, hTc]
  have e3 : N * c % (y * c) = (U % (y * c) * E + lo % T * c) % (y * c) := by
    rw [e2]
    have h3 := Nat.div_add_mod U (y * c)
    have h4 : U * E + lo % T * c = (U % (y * c) * E + lo % T * c) + (y * c) * (U / (y * c) * E) := by
      have : U * E = (y * c) * (U / (y * c)) * E + U % (y * c) * E := by rw [← Nat.add_mul, h3]
      rw [this, Nat.mul_assoc (y * c)]
      omega
    rw [h4, Nat.add_mul_mod_self_left]
  rw [← e3, Nat.mul_mod_mul_right, Nat.mul_assoc, Nat.mul_div_cancel _ (Nat.mul_pos hc hE)]
theorem wrap_rng (x : Int) : 0 ≤ IntKind.u64.wrap x ∧ IntKind.u64.wrap x < 18446744073709551616 := by
  rw [IntKind.wrap_u64]
  omega
theorem emod_sub_ {M E U P r U1 : Int} (hU : U = P + r) (h0 : 0 ≤ r * E + U1) (h1 : r * E + U1 < M) : ((U * E % M + U1) % M - P * E % M) % M = r * E + U1 := by
  have e : U * E + (U1 - P * E) = r * E + U1 := by rw [hU, Int.add_mul]; omega
  rw [← Int.sub_emod, Int.add_sub_assoc, Int.emod_add_emod, e]
  exact Int.emod_eq_of_lt h0 h1
theorem wrap_sub {U P r U1 : Nat} (hU : U = P + r) (hr : r < 4294967296) (h1 : U1 < 4294967296) :
    IntKind.u64.wrap ((IntKind.u64.wrap ((IntKind.u64.wrap ((U : Int) * 4294967296)) + (U1 : Int))) - (IntKind.u64.wrap ((P : Int) * 4294967296))) = (r : Int) * 4294967296 + (U1 : Int) := by
  rw [IntKind.wrap_u64, IntKind.wrap_u64, IntKind.wrap_u64, IntKind.wrap_u64]
  exact emod_sub_ (by omega) (by omega) (by omega)
theorem div_tail {U y1 U1 s q1 : Nat} {x16 : Int} (hy1 : 0 < y1) (hyE : y1 < 4294967296) (hs : s ≤ 64) (hU : U < y1 * 4294967296) (hU1 : U1 < 4294967296) (hq : q1 = U / y1) :
    ∃ q : Int, Ev (fun k => bits_Div64.l0 k ((y1 * 4294967296 : Nat) : Int) (s : Int) (y1 : Int) 0 (U : Int) (U1 : Int) 0 (q1 : Int) x16) (q, (((U % y1 * 4294967296 + U1) % y1 * 4294967296 / 2 ^ s : Nat) : Int)) ∧ 0 ≤ q ∧ q < 18446744073709551616 := by
  have hr1 := Nat.mod_lt U hy1
  have hq1 : q1 < 4294967296 := by rw [hq]; exact Nat.div_lt_of_lt_mul hU
  have hd1 : U = q1 * y1 + U % y1 := by rw [hq, Nat.mul_comm]; exact (Nat.div_add_mod U y1).symm
  generalize hu : U % y1 * 4294967296 + U1 = u
  have huE : u < y1 * 4294967296 := by
    have : (U % y1 + 1) * 4294967296 ≤ y1 * 4294967296 := Nat.mul_le_mul_right _ hr1
    omega
  have hr0 := Nat.mod_lt u hy1
  have hq0 : u / y1 < 4294967296 := Nat.div_lt_of_lt_mul huE
  have hd0 : u = u / y1 * y1 + u % y1 := by rw [Nat.mul_comm]; exact (Nat.div_add_mod u y1).symm
  generalize hP : q1 * y1 = P at *
  have eY : ((y1 * 4294967296 : Nat) : Int) = (y1 : Int) * 4294967296 := Int.natCast_mul _ _
  have ePY : (q1 : Int) * ((y1 * 4294967296 : Nat) : Int) = (P : Int) * 4294967296 := by
    rw [← hP, eY, Int.natCast_mul, Int.mul_assoc]
  have eun : IntKind.u64.wrap ((IntKind.u64.wrap ((IntKind.u64.wrap ((U : Int) * 4294967296)) + (U1 : Int))) - (IntKind.u64.wrap ((q1 : Int) * ((y1 * 4294967296 : Nat) : Int)))) = (u : Int) := by
    rw [ePY, wrap_sub hd1 (by omega) hU1, ← hu, Int.natCast_add, Int.natCast_mul]
    rfl
  have etd : IntKind.u64.wrap (Int.tdiv (u : Int) (y1 : Int)) = ((u / y1 : Nat) : Int) := by
    rw [Int.tdiv_eq_ediv_of_nonneg (Int.natCast_nonneg u), ← Int.natCast_ediv, wrapu (Int.natCast_nonneg _) (by omega)]
  generalize hq0' : u / y1 = q0 at *
  generalize hR : u % y1 = r0 at *
  generalize hP0 : q0 * y1 = P0 at *
  have ePY0 : (q0 : Int) * ((y1 * 4294967296 : Nat) : Int) = (P0 : Int) * 4294967296 := by
    rw [← hP0, eY, Int.natCast_mul, Int.mul_assoc]
  have efin : IntKind.u64.wrap ((IntKind.u64.wrap ((IntKind.u64.wrap ((u : Int) * 4294967296)) + (0 : Int))) - (IntKind.u64.wrap ((q0 : Int) * ((y1 * 4294967296 : Nat) : Int)))) = ((r0 * 4294967296 : Nat) : Int) := by
    have := wrap_sub (U1 := 0) hd0 (by omega) (by omega)
    rw [ePY0, Int.natCast_mul]
    exact this.trans (Int.add_zero _)
  have hz : ∀ (a b : Int), decide ((IntKind.u64.wrap (a * 0)) > IntKind.u64.wrap b) = false := fun a b => by
    have := (wrap_rng b).1
    rw [Int.mul_zero]
    exact decide_eq_false (by show ¬ (IntKind.u64.wrap b < 0 % 18446744073709551616); omega)
  refine ⟨IntKind.u64.wrap ((IntKind.u64.wrap ((q1 : Int) * 4294967296)) + (q0 : Int)), Ev.succ ?_, (wrap_rng _).1, (wrap_rng _).2⟩
  · simp only [bits_Div64.l0]
    rw [hz]
    refine Ev.neg (by omega) (Ev.succ ?_)
    simp only [bits_Div64.j1]
    refine Ev.neg (by decide) (Ev.succ ?_)
    simp only [bits_Div64.j2]
    rw [eun, etd]
    refine Ev.neg (by omega) (Ev.succ ?_)
    simp only [bits_Div64.l1]
    rw [hz]
    refine Ev.neg (by omega) (Ev.succ ?_)
    simp only [bits_Div64.j4]
    rw [efin, shr_nat64 _ _ hs]
    exact Ev.neg (by decide) (Ev.pos (Int.natCast_nonneg s) (Ev.con rfl))
theorem shl_mod {lo s L : Nat} (hL : L + s = 64) : shl .u64 (lo : Int) (s : Int) = ((lo % 2 ^ L * 2 ^ s : Nat) : Int) := by
  unfold shl
  rw [Int.toNat_natCast, show min s (IntKind.bits .u64) = s from Nat.min_eq_left (by show s ≤ 64; omega), IntKind.wrap_u64]
  have e : (lo : Int) * 2 ^ s = ((lo * 2 ^ s : Nat) : Int) := by norm_cast
  have e2 : (18446744073709551616 : Nat) = 2 ^ L * 2 ^ s := by rw [← Nat.pow_add, hL]
  rw [e, show (18446744073709551616 : Int) = ((18446744073709551616 : Nat) : Int) from rfl, ← Int.natCast_emod, e2, Nat.mul_mod_mul_right]
theorem LeadingZeros_is {y : Nat} (h0 : 0 < y) (h1 : y < 65536) : ∃ L s : Nat, Ev (fun k => bits_LeadingZeros64.f k (y : Int)) (s : Int) ∧ L + s = 64 ∧ 1 ≤ L ∧ L ≤ 16 ∧ y < 2 ^ L := by
  obtain ⟨L, l1, l2, l3, l4⟩ := Len64_is h0 h1
  refine ⟨L, 64 - L, ?_, by omega, l2, l3, l4⟩
  unfold bits_LeadingZeros64.f
  refine Ev.bind l1 (Ev.con ?_)
  rw [w64 (by omega) (by omega)]
  congr 1
  omega
theorem Div64_is {y lo hi : Nat} (hy0 : 0 < y) (hy : y < 65536) (hhi : hi < y) (hlo : lo < 18446744073709551616) :
    ∃ q : Int, Ev (fun k => bits_Div64.f k (hi : Int) (lo : Int) (y : Int)) (q, (((hi * 18446744073709551616 + lo) % y : Nat) : Int)) ∧ 0 ≤ q ∧ q < 18446744073709551616 := by
  unfold bits_Div64.f
  by_cases h0 : hi = 0
  · subst h0
    refine ⟨IntKind.u64.wrap (Int.tdiv (lo : Int) (y : Int)), Ev.neg (by omega) (Ev.neg (by omega) (Ev.pos rfl (Ev.con ?_))), (wrap_rng _).1, (wrap_rng _).2⟩
    rw [Nat.zero_mul, Nat.zero_add, Int.tmod_eq_emod_of_nonneg (Int.natCast_nonneg lo), ← Int.natCast_emod]
  · obtain ⟨L, s, l1, l2, l3, l4, l5⟩ := LeadingZeros_is hy0 hy
    obtain ⟨c, hc⟩ : ∃ c, c = 2 ^ (32 - L) := ⟨_, rfl⟩
    have hc0 : 0 < c := by rw [hc]; exact Nat.pow_pos (by decide)
    have hTc : 2 ^ L * c = 4294967296 := by rw [hc, ← Nat.pow_add, show L + (32 - L) = 32 from by omega]
    have hs2 : 2 ^ s = c * 4294967296 := by rw [hc, show (4294967296 : Nat) = 2 ^ 32 from rfl, ← Nat.pow_add]; congr 1; omega
    have hM : (18446744073709551616 : Nat) = 4294967296 * 4294967296 := rfl
    have hT0 : 0 < 2 ^ L := Nat.pow_pos (by decide)
    generalize hT : 2 ^ L = T at *
    have hycE : y * c < 4294967296 := by rw [← hTc]; exact Nat.mul_lt_mul_of_pos_right l5 hc0
    have hY : y * (c * 4294967296) = (y * c) * 4294967296 := (Nat.mul_assoc _ _ _).symm
    have hYlt : y * 2 ^ s < 18446744073709551616 := by rw [hs2, hY, hM]; exact Nat.mul_lt_mul_of_pos_right hycE (by decide)
    have hHlt : hi * 2 ^ s < 18446744073709551616 := Nat.lt_of_le_of_lt (Nat.mul_le_mul_right _ (Nat.le_of_lt hhi)) hYlt
    have hloT : lo / T < 2 ^ s := Nat.div_lt_of_lt_mul (by rw [hs2, ← Nat.mul_assoc, hTc]; exact hlo)
    have hU : hi * 2 ^ s + lo / T < y * 2 ^ s := by
      have : (hi + 1) * 2 ^ s ≤ y * 2 ^ s := Nat.mul_le_mul_right _ hhi
      rw [Nat.add_mul, Nat.one_mul] at this
      omega
    have hU64 : hi * 2 ^ s + lo / T < 18446744073709551616 := Nat.lt_trans hU hYlt
    have hl0 : lo % T * c < 4294967296 := by rw [← hTc]; exact Nat.mul_lt_mul_of_pos_right (Nat.mod_lt _ hT0) hc0
    have eA : shl .u64 (y : Int) (s : Int) = (((y * c) * 4294967296 : Nat) : Int) := by rw [shl_nat y s (by omega) hYlt, hs2, hY]
    have eB : (((y * c) * 4294967296 : Nat) : Int) / 4294967296 = ((y * c : Nat) : Int) := by rw [Int.natCast_mul]; exact Int.mul_ediv_cancel _ (by decide)
    have eC : ∀ a : Nat, a < 4294967296 → Go.bits .and .u64 ((a * 4294967296 : Nat) : Int) 4294967295 = 0 := fun a ha => by
      have h := bits_mask .u64 64 (by decide) (fun m h2 h3 => by rw [IntKind.wrap_u64]; exact Int.emod_eq_of_lt h2 h3) 32 (by decide) ((a * 4294967296 : Nat) : Int) (Int.natCast_nonneg _) (by
        have : a * 4294967296 < 4294967296 * 4294967296 := Nat.mul_lt_mul_of_pos_right ha (by decide)
        exact_mod_cast this)
      rw [show (2 : Int) ^ 32 - 1 = 4294967295 from rfl] at h
      rw [h, Int.natCast_mul]
      exact Int.mul_emod_left _ _
    have eD : shl .u64 (hi : Int) (s : Int) = ((hi * 2 ^ s : Nat) : Int) := shl_nat hi s (by omega) hHlt
    have eF : IntKind.u64.wrap (64 - (s : Int)) = (L : Int) := by rw [IntKind.wrap_u64]; omega
    have eS : IntKind.u64.wrap (s : Int) = (s : Int) := by rw [IntKind.wrap_u64]; omega
    have eG : shr .u64 (lo : Int) (L : Int) = ((lo / T : Nat) : Int) := by rw [shr_nat64 _ _ (by omega), hT]
    have eH : Go.bits .or .u64 ((hi * 2 ^ s : Nat) : Int) ((lo / T : Nat) : Int) = ((hi * 2 ^ s + lo / T : Nat) : Int) := by
      rw [u64_or_nat _ _ hHlt (Nat.lt_of_le_of_lt (Nat.le_add_left _ _) hU64), or_add _ _ _ hloT]
    have eI : shl .u64 (lo : Int) (s : Int) = (((lo % T * c) * 4294967296 : Nat) : Int) := by rw [shl_mod l2, hT, hs2, Nat.mul_assoc]
    have eJ : (((lo % T * c) * 4294967296 : Nat) : Int) / 4294967296 = ((lo % T * c : Nat) : Int) := by rw [Int.natCast_mul (lo % T * c)]; exact Int.mul_ediv_cancel _ (by decide)
    have hUy : hi * 2 ^ s + lo / T < (y * c) * 4294967296 := by rw [← hY, ← hs2]; exact hU
    have eq1 : IntKind.u64.wrap (Int.tdiv ((hi * 2 ^ s + lo / T : Nat) : Int) ((y * c : Nat) : Int)) = (((hi * 2 ^ s + lo / T) / (y * c) : Nat) : Int) := by
      have h2 : (hi * 2 ^ s + lo / T) / (y * c) < 4294967296 := Nat.div_lt_of_lt_mul hUy
      rw [Int.tdiv_eq_ediv_of_nonneg (Int.natCast_nonneg _), ← Int.natCast_ediv, IntKind.wrap_u64]
      exact Int.emod_eq_of_lt (Int.natCast_nonneg _) (by clear eA eB eC eD eF eS eG eH eI eJ; omega)
    obtain ⟨q, q1, q2, q3⟩ := div_tail (y1 := y * c) (s := s) (U1 := lo % T * c) (U := hi * 2 ^ s + lo / T) (x16 := IntKind.u64.wrap (((hi * 2 ^ s + lo / T : Nat) : Int) - (IntKind.u64.wrap ((((hi * 2 ^ s + lo / T) / (y * c) : Nat) : Int) * ((y * c : Nat) : Int))))) (Nat.mul_pos hy0 hc0) hycE (by omega) hUy hl0 rfl
    have hfin : ((hi * 2 ^ s + lo / T) % (y * c) * 4294967296 + lo % T * c) % (y * c) * 4294967296 / 2 ^ s = (hi * 18446744073709551616 + lo) % y := by
      rw [hs2, hM]
      exact div_core hTc hc0 (by decide) hy0
    rw [hfin] at q1
    refine ⟨q, Ev.neg (by omega) (Ev.neg (by omega) (Ev.neg (by omega) (Ev.bind l1 ?_))), q2, q3⟩
    simp only [eS, eF, eA, eB, eD, eG, eH, eI, eJ, eC _ hycE, eC _ hl0, eq1]
    have hyc0 : ((y * c : Nat) : Int) ≠ 0 := by have := Nat.mul_pos hy0 hc0; exact fun h => by have := Int.natCast_eq_zero.1 h; omega
    exact Ev.pos (Int.natCast_nonneg _) (Ev.pos (Int.natCast_nonneg _) (Ev.neg hyc0 q1))
abbrev B64 : Nat := 18446744073709551616
theorem B64_pos : 0 < B64 := by decide
theorem vl_drop {B : Nat} {a : List Int} {i : Nat} (hi : i < a.length) : vl B (a.drop i) = (co a i).toNat + B * vl B (a.drop (i + 1)) := by
  rw [List.drop_eq_getElem_cons hi]
  show (a[i]).toNat + _ = _
  congr 2
  simp [co, hi]
theorem vl_one {B : Nat} (x : Int) : vl B [x] = x.toNat := by show x.toNat + B * 0 = _; rw [Nat.mul_zero, Nat.add_zero]
theorem wd_one {B : Nat} (hB : 0 < B) {x : Int} (h0 : 0 ≤ x) (h1 : x < (B : Int)) : Wd B [x] := Wd.cons h0 h1 (wd_nil hB)
theorem tr_one {x : Int} (h : x ≠ 0) : Tr [x] := tr_of_last (.inr h)
theorem one_word {w : List Int} (hw : Wd B64 w) (ht : Tr w) (hv : vl B64 w < B64) (h0 : vl B64 w ≠ 0) : w = [((vl B64 w : Nat) : Int)] :=
  vl_inj B64_pos ht (tr_one (by omega)) hw (wd_one B64_pos (Int.natCast_nonneg _) (Int.ofNat_lt.2 hv)) (by rw [vl_one, Int.toNat_natCast])
theorem no_word {w : List Int} (hw : Wd B64 w) (ht : Tr w) (hv : vl B64 w = 0) : w = [] := (vl_zero_iff (by decide) ht hw).1 hv
theorem compare_one {a : List Int} (ha : Wd B64 a) (hl : a.length ≤ 100000) (p : Nat) : ∃ c : Int, Ev (fun k => exact_compareWords.f k a [(p : Int)]) c ∧ (c < 0 ↔ a = [] ∨ ∃ x, a = [x] ∧ x < (p : Int)) := by
  unfold exact_compareWords.f
  by_cases h1 : a.length = 1
  · obtain ⟨x, rfl⟩ : ∃ x, a = [x] := by
      match a, h1 with
      | [x], _ => exact ⟨x, rfl⟩
    have hl0 : wrap64 ((([x] : List Int).length : Int) - 1) = ((0 : Nat) : Int) := by rw [w64 (by simp) (by simp)]; rfl
    rw [hl0]
    have hend : Ev (fun k => exact_compareWords.l0 k [x] [(p : Int)] (-1)) 0 := by
      refine Ev.succ ?_
      simp only [exact_compareWords.l0]
      exact Ev.neg (by omega) (Ev.con rfl)
    by_cases hx : x = (p : Int)
    · refine ⟨0, Ev.pos (by simp) (Ev.succ ?_), ?_⟩
      · simp only [exact_compareWords.l0]
        refine Ev.pos (by omega) (Ev.pos (by omega) (Ev.pos (by simp) (Ev.pos (by simp) (Ev.pos hx ?_))))
        rw [w64 (by omega) (by omega)]
        exact hend
      · constructor
        · intro h; omega
        · rintro (h | ⟨y, h, hy⟩)
          · cases h
          · injection h with h; omega
    · by_cases hlt : x < (p : Int)
      · refine ⟨-1, Ev.pos (by simp) (Ev.succ ?_), ⟨fun _ => .inr ⟨x, rfl, hlt⟩, fun _ => by omega⟩⟩
        simp only [exact_compareWords.l0]
        exact Ev.pos (by omega) (Ev.pos (by omega) (Ev.pos (by simp) (Ev.pos (by simp) (Ev.neg hx (Ev.pos hlt (Ev.con rfl))))))
      · refine ⟨1, Ev.pos (by simp) (Ev.succ ?_), ?_⟩
        · simp only [exact_compareWords.l0]
          exact Ev.pos (by omega) (Ev.pos (by omega) (Ev.pos (by simp) (Ev.pos (by simp) (Ev.neg hx (Ev.neg hlt (Ev.con rfl))))))
        · constructor
          · intro h; omega
          · rintro (h | ⟨y, h, hy⟩)
            · cases h
            · injection h with h; omega
  · by_cases h0 : a = []
    · subst h0
      exact ⟨-1, Ev.neg (by simp) (Ev.pos (by simp) (Ev.con rfl)), ⟨fun _ => .inl rfl, fun _ => by omega⟩⟩
    · have := List.length_pos_iff.2 h0
      refine ⟨1, Ev.neg (by simp; omega) (Ev.neg (by simp; omega) (Ev.con rfl)), ?_⟩
      constructor
      · intro h; omega
      · rintro (h | ⟨y, h, hy⟩)
        · exact absurd h h0
        · rw [h] at h1; exact absurd rfl h1
theorem mod_step (v B x p : Nat) : (v % p * B + x) % p = (x + B * v) % p := by
  rw [Nat.add_mod, Nat.mod_mul_mod, ← Nat.add_mod, Nat.add_comm, Nat.mul_comm]
theorem divide_loop {a : List Int} (ha : Wd B64 a) (hl : a.length ≤ 100000) {p : Nat} (hp0 : 0 < p) (hp : p < 65536) :
    ∀ (i : Nat) (q : List Int), i ≤ a.length → q.length = a.length → Wd B64 q → ∃ y, Ev (fun k => exact_divide.l0 k a [(p : Int)] q ((vl B64 (a.drop i) % p : Nat) : Int) ((i : Int) - 1)) (trimZ y, trimZ [((vl B64 a % p : Nat) : Int)]) ∧ Wd B64 y ∧ y.length = a.length := by
  intro i
  induction i with
  | zero =>
    intro q _ hq hw
    refine ⟨q, Ev.succ ?_, hw, hq⟩
    simp only [exact_divide.l0]
    rw [List.drop_zero]
    exact Ev.neg (by omega) (Ev.bind (ex_trim_is (by omega)) (Ev.bind (ex_trim_is (by simp)) (Ev.con rfl)))
  | succ i ih =>
    intro q hi hq hw
    have hai := ha i
    obtain ⟨x, hx⟩ : ∃ x : Nat, co a i = (x : Int) := ⟨(co a i).toNat, (Int.toNat_of_nonneg hai.1).symm⟩
    have hx64 : x < 18446744073709551616 := by
      have := hai.2
      rw [hx] at this
      exact Int.ofNat_lt.1 this
    obtain ⟨d, d1, d2, d3⟩ := Div64_is (y := p) (lo := x) (hi := vl B64 (a.drop (i + 1)) % p) hp0 hp (Nat.mod_lt _ hp0) hx64
    have hval : (vl B64 (a.drop (i + 1)) % p * 18446744073709551616 + x) % p = vl B64 (a.drop i) % p := by
      rw [vl_drop (i := i) hi, hx, Int.toNat_natCast]
      exact mod_step _ _ _ _
    rw [hval] at d1
    obtain ⟨y, y1, y2⟩ := ih (q.set i d) (by omega) (by rw [List.length_set]; exact hq) (wd_set hw ⟨d2, d3⟩)
    refine ⟨y, Ev.succ ?_, y2⟩
    simp only [exact_divide.l0]
    rw [show ((i + 1 : Nat) : Int) - 1 = (i : Int) from by omega, rd_co, rd_co, Int.toNat_natCast, hx, show co [(p : Int)] (0 : Int).toNat = (p : Int) from rfl, w64 (x := (i : Int) - 1) (by omega) (by omega)]
    exact Ev.pos (by omega) (Ev.pos (by omega) (Ev.pos (by omega) (Ev.pos (by simp) (Ev.bind d1 (Ev.pos (by omega) y1)))))
theorem divide_is {a : List Int} (ha : Wd B64 a) (ht : Tr a) (hl : a.length ≤ 100000) {p : Nat} (hp0 : 0 < p) (hp : p < 65536) :
    ∃ q r, Ev (fun k => exact_divide.f k a [(p : Int)]) (q, r) ∧ Wd B64 q ∧ q.length ≤ a.length ∧ Wd B64 r ∧ r.length ≤ 1 ∧ vl B64 r = vl B64 a % p := by
  obtain ⟨c, c1, c2⟩ := compare_one ha hl p
  unfold exact_divide.f
  by_cases hc : c < 0
  · refine ⟨[], a, Ev.bind c1 (Ev.pos hc (Ev.con rfl)), wd_nil B64_pos, Nat.zero_le _, ha, ?_, ?_⟩
    · rcases c2.1 hc with h | ⟨x, h, _⟩ <;> rw [h] <;> simp
    · rcases c2.1 hc with h | ⟨x, h, hx⟩
      · rw [h]; show 0 = 0 % p; rw [Nat.zero_mod]
      · have h0 := ha 0
        rw [h, co_zero] at h0
        rw [h, vl_one, Nat.mod_eq_of_lt (by omega)]
  · obtain ⟨y, y1, y2, y3⟩ := divide_loop ha hl hp0 hp a.length (List.replicate a.length 0) (Nat.le_refl _) List.length_replicate (wd_replicate B64_pos _)
    have hr : vl B64 a % p < p := Nat.mod_lt _ hp0
    have hrl := trimZ_len [((vl B64 a % p : Nat) : Int)]
    refine ⟨trimZ y, trimZ [((vl B64 a % p : Nat) : Int)], Ev.bind c1 (Ev.neg hc (Ev.pos (by simp) (Ev.pos (by omega) (Ev.pos (by omega) ?_)))), y2.trimZ, by rw [← y3]; exact trimZ_len y, Wd.trimZ (wd_one B64_pos (Int.natCast_nonneg _) (Int.ofNat_lt.2 (Nat.lt_of_lt_of_le (Nat.lt_trans hr hp) (by decide)))), hrl, by rw [vl_trimZ, vl_one, Int.toNat_natCast]⟩
    rw [List.drop_length, show vl B64 [] % p = 0 from Nat.zero_mod p] at y1
    rw [Int.toNat_natCast, w64 (x := (a.length : Int) - 1) (by omega) (by omega)]
    exact y1
theorem NatDivMod_is {e b : ByteArray} (he : e.size ≤ 10000) (hb : b.size ≤ 1000) {p : Nat} (hp0 : 0 < p) (hp : p < 65536) (hbp : nb b = p) :
    ∃ q r, Ev (fun k => exact_NatDivMod.f k e b) (q, r) ∧ q.size ≤ e.size + 7 ∧ Nf r ∧ r.size ≤ 8 ∧ nb r = nb e % p := by
  obtain ⟨w, w1, w2, w3, w4, w5⟩ := words_is (e := e) (by omega)
  obtain ⟨v, v1, v2, v3, v4, v5⟩ := words_is (e := b) (by omega)
  rw [hbp] at v4
  have hv := one_word v3 v2 (by rw [v4]; exact Nat.lt_of_lt_of_le hp (by decide)) (by rw [v4]; omega)
  rw [show vl B64 v = p from v4] at hv
  subst hv
  obtain ⟨q, r, d1, d2, d3, d4, d5, d6⟩ := divide_is w3 w2 (by omega) hp0 hp
  obtain ⟨qe, q1, q2, q3, q4⟩ := pack_is d2 (by omega)
  obtain ⟨re, r1, r2, r3, r4⟩ := pack_is d4 (by omega)
  refine ⟨qe, re, ?_, by omega, r2, by omega, by rw [r3, d6, w4]⟩
  unfold exact_NatDivMod.f
  exact Ev.bind w1 (Ev.bind v1 (Ev.bind d1 (Ev.bind q1 (Ev.bind r1 (Ev.con rfl)))))
theorem Add64_is {x y c : Int} (hx : 0 ≤ x ∧ x < 18446744073709551616) (hy : 0 ≤ y ∧ y < 18446744073709551616) (hc : 0 ≤ c ∧ c ≤ 1) : ∃ s d : Int, bits_Add64.f x y c = some (s, d) ∧ (0 ≤ s ∧ s < 18446744073709551616) ∧ (0 ≤ d ∧ d ≤ 1) :=
  ⟨_, _, if_pos ⟨hx.1, hy.1, hc.1, hc.2⟩, by omega, by omega⟩
theorem NatAdd_loop {x y : List Int} (hx : Wd B64 x) (hy : Wd B64 y) (hl : x.length ≤ 5000) : ∀ (d i : Nat) (o : List Int) (c : Int), i + d = x.length → o.length = x.length + 1 → Wd B64 o → (0 ≤ c ∧ c ≤ 1) → ∃ e, Ev (fun k => exact_NatAdd.l0 k x y o c (x.length : Int) (i : Int)) e := by
  intro d
  induction d with
  | zero =>
    intro i o c hi ho hw hc
    obtain ⟨e, e1, _⟩ := pack_is (l := o.set x.length c) (wd_set hw ⟨hc.1, by have := hc.2; show c < ((18446744073709551616 : Nat) : Int); omega⟩) (by rw [List.length_set]; omega)
    refine ⟨e, Ev.succ ?_⟩
    simp only [exact_NatAdd.l0]
    rw [Int.toNat_natCast]
    exact Ev.neg (by omega) (Ev.pos (by omega) (Ev.pos (by omega) (Ev.bind e1 (Ev.con rfl))))
  | succ d ih =>
    intro i o c hi ho hw hc
    have hxi : 0 ≤ co x i ∧ co x i < 18446744073709551616 := hx i
    have hyi : 0 ≤ co y i ∧ co y i < 18446744073709551616 := hy i
    by_cases hiy : (i : Int) < (y.length : Int)
    · obtain ⟨s, t, a1, a2, a3⟩ := Add64_is hxi hyi hc
      obtain ⟨e, e1⟩ := ih (i + 1) (o.set i s) t (by omega) (by rw [List.length_set]; exact ho) (wd_set hw a2) a3
      refine ⟨e, Ev.succ ?_⟩
      simp only [exact_NatAdd.l0]
      rw [rd_co, rd_co, Int.toNat_natCast, w64 (x := (i : Int) + 1) (by omega) (by omega)]
      exact Ev.pos (by omega) (Ev.pos hiy (Ev.pos (by omega) (Ev.pos (by omega) (Ev.cbind a1 (Ev.pos (by omega) e1)))))
    · obtain ⟨s, t, a1, a2, a3⟩ := Add64_is (y := 0) hxi ⟨by omega, by omega⟩ hc
      obtain ⟨e, e1⟩ := ih (i + 1) (o.set i s) t (by omega) (by rw [List.length_set]; exact ho) (wd_set hw a2) a3
      refine ⟨e, Ev.succ ?_⟩
      simp only [exact_NatAdd.l0]
      rw [rd_co, Int.toNat_natCast, w64 (x := (i : Int) + 1) (by omega) (by omega)]
      exact Ev.pos (by omega) (Ev.neg hiy (Ev.pos (by omega) (Ev.pos (by omega) (Ev.cbind a1 (Ev.pos (by omega) e1)))))
theorem NatAdd_ex {a b : ByteArray} (ha : a.size ≤ 20000) (hb : b.size ≤ 20000) : ∃ e, Ev (fun k => exact_NatAdd.f k a b) e := by
  obtain ⟨w, w1, w2, w3, w4, w5⟩ := words_is (e := a) (by omega)
  obtain ⟨v, v1, v2, v3, v4, v5⟩ := words_is (e := b) (by omega)
  have hj : ∀ x y : List Int, Wd B64 x → Wd B64 y → x.length ≤ 5000 → ∃ e, Ev (fun k => exact_NatAdd.j0 k x y) e := fun x y hx hy hl => by
    obtain ⟨e, e1⟩ := NatAdd_loop hx hy hl x.length 0 (List.replicate (x.length + 1) 0) 0 (Nat.zero_add _) List.length_replicate (wd_replicate B64_pos _) ⟨by omega, by omega⟩
    refine ⟨e, Ev.succ ?_⟩
    simp only [exact_NatAdd.j0]
    rw [w64 (x := (x.length : Int) + 1) (by omega) (by omega), show ((x.length : Int) + 1).toNat = x.length + 1 from by omega]
    exact Ev.pos (by omega) (Ev.pos (by omega) e1)
  unfold exact_NatAdd.f
  by_cases hlt : (w.length : Int) < (v.length : Int)
  · obtain ⟨e, e1⟩ := hj v w v3 w3 (by omega)
    exact ⟨e, Ev.bind w1 (Ev.bind v1 (Ev.pos hlt e1))⟩
  · obtain ⟨e, e1⟩ := hj w v w3 v3 (by omega)
    exact ⟨e, Ev.bind w1 (Ev.bind v1 (Ev.neg hlt e1))⟩
theorem NatOf_is {p : Nat} (hp : p < 18446744073709551616) : ∃ e, Ev (fun k => exact_NatOf.f k (p : Int)) e ∧ Nf e ∧ nb e = p ∧ e.size ≤ 8 := by
  obtain ⟨e, e1, e2, e3, e4⟩ := pack_is (l := [(p : Int)]) (wd_one B64_pos (Int.natCast_nonneg _) (Int.ofNat_lt.2 hp)) (by simp)
  refine ⟨e, ?_, e2, by rw [e3]; exact vl_one _, e4⟩
  unfold exact_NatOf.f
  exact Ev.bind e1 (Ev.con rfl)
theorem NatSub_is {b r : ByteArray} (hb : b.size ≤ 1000) (hr : r.size ≤ 1000) {p t : Nat} (hp : p < 65536) (ht0 : 0 < t) (htp : t < p) (hbp : nb b = p) (hrt : nb r = t) :
    ∃ e, Ev (fun k => exact_NatSub.f k b r) e ∧ Nf e ∧ nb e = p - t ∧ e.size ≤ 8 := by
  obtain ⟨w, w1, w2, w3, w4, w5⟩ := words_is (e := b) (by omega)
  obtain ⟨v, v1, v2, v3, v4, v5⟩ := words_is (e := r) (by omega)
  rw [hbp] at w4
  rw [hrt] at v4
  have hw := one_word w3 w2 (by rw [show vl B64 w = p from w4]; exact Nat.lt_of_lt_of_le hp (by decide)) (by rw [show vl B64 w = p from w4]; omega)
  have hv := one_word v3 v2 (by rw [show vl B64 v = t from v4]; exact Nat.lt_of_lt_of_le (Nat.lt_trans htp hp) (by decide)) (by rw [show vl B64 v = t from v4]; omega)
  rw [show vl B64 w = p from w4] at hw
  rw [show vl B64 v = t from v4] at hv
  subst hw hv
  have hpt : p - t < B64 := Nat.lt_of_lt_of_le (Nat.lt_of_le_of_lt (Nat.sub_le _ _) hp) (by decide)
  obtain ⟨e, e1, e2, e3, e4⟩ := pack_is (l := [((p - t : Nat) : Int)]) (wd_one B64_pos (Int.natCast_nonneg _) (Int.ofNat_lt.2 hpt)) (by simp)
  have hs : bits_Sub64.f (p : Int) (t : Int) 0 = some (((p - t : Nat) : Int), 0) := by
    unfold bits_Sub64.f
    rw [if_pos (by omega)]
    congr 2
    · omega
    · rw [if_neg (by omega)]
  refine ⟨e, ?_, e2, by rw [e3]; exact vl_one _, e4⟩
  unfold exact_NatSub.f
  refine Ev.bind w1 (Ev.bind v1 (Ev.succ ?_))
  simp only [exact_NatSub.l0]
  refine Ev.pos (by simp) (Ev.pos (by simp) (Ev.pos (by omega) (Ev.pos (by simp) (Ev.cbind hs (Ev.succ ?_)))))
  simp only [exact_NatSub.l0]
  refine Ev.neg (by rw [w64 (by omega) (by omega)]; simp) (Ev.bind e1 (Ev.con rfl))
def rv (neg : Bool) (N p : Nat) : Nat := if neg = true ∧ N % p ≠ 0 then p - N % p else N % p
theorem rv_lt {neg : Bool} {N p : Nat} (hp : 0 < p) : rv neg N p < p := by
  have := Nat.mod_lt N hp
  unfold rv
  split <;> omega
theorem IntMake_ex (s : Bool) (e : ByteArray) : ∃ t, exact_IntMake.f s e = some (t, e) := by
  unfold exact_IntMake.f
  cases s
  · exact ⟨_, if_neg (by decide)⟩
  · exact ⟨_, if_pos rfl⟩
theorem nf_nil_iff {r : ByteArray} (h : Nf r) : r.toList = [] ↔ nb r = 0 := by
  rw [toList_nil]
  constructor
  · exact nb_zero
  · intro h0
    refine Nat.eq_zero_of_not_pos fun hp => ?_
    have := nb_pos h hp
    omega
theorem IntDivMod_is {e b : ByteArray} {neg : Bool} (he : e.size ≤ 10000) (hb : b.size ≤ 1000) {p : Nat} (hp0 : 0 < p) (hp : p < 65536) (hbp : nb b = p) :
    ∃ s q r, Ev (fun k => exact_IntDivMod.f k neg e false b) (s, q, false, r) ∧ r.size ≤ 8 ∧ nb r = rv neg (nb e) p := by
  obtain ⟨q, r, d1, d2, d3, d4, d5⟩ := NatDivMod_is he hb hp0 hp hbp
  have hm := Nat.mod_lt (nb e) hp0
  have hplain : nb e % p = rv neg (nb e) p → ∃ s, Ev (fun k => exact_IntDivMod.j0 k q r false neg e false b) (s, q, false, r) := fun _ => by
    obtain ⟨t, ht⟩ := IntMake_ex (neg != false) q
    refine ⟨t, Ev.succ ?_⟩
    simp only [exact_IntDivMod.j0]
    exact Ev.neg (by decide) (Ev.cbind ht (Ev.con rfl))
  unfold exact_IntDivMod.f
  by_cases hn : neg = true ∧ nb e % p ≠ 0
  · obtain ⟨o, o1, o2, o3, o4⟩ := NatOf_is (p := 1) (by decide)
    obtain ⟨a, a1⟩ := NatAdd_ex (a := q) (b := o) (by omega) (by omega)
    obtain ⟨u, u1, u2, u3, u4⟩ := NatSub_is (b := b) (r := r) hb (by omega) hp (Nat.pos_of_ne_zero hn.2) hm hbp d5
    obtain ⟨t, ht⟩ := IntMake_ex (neg != false) a
    have hr : (r.toList != ([] : List UInt8)) = true := by
      rw [bne_iff_ne]
      intro h
      exact hn.2 (by rw [← d5]; exact (nf_nil_iff d3).1 h)
    refine ⟨t, a, u, Ev.bind d1 (Ev.pos hn.1 ?_), u4, by rw [u3]; unfold rv; rw [if_pos hn]⟩
    show Ev (fun k => exact_IntDivMod.j0 k q r (r.toList != ([] : List UInt8)) neg e false b) _
    rw [hr]
    refine Ev.succ ?_
    simp only [exact_IntDivMod.j0]
    exact Ev.pos (by trivial) (Ev.bind o1 (Ev.bind a1 (Ev.bind u1 (Ev.cbind ht (Ev.con rfl)))))
  · have hrv : rv neg (nb e) p = nb e % p := if_neg hn
    obtain ⟨t, ht⟩ := hplain hrv.symm
    refine ⟨t, q, r, Ev.bind d1 ?_, d4, by rw [d5, hrv]⟩
    by_cases hneg : neg = true
    · refine Ev.pos hneg ?_
      have h0 : nb e % p = 0 := Classical.byContradiction fun h => hn ⟨hneg, h⟩
      have hr : (r.toList != ([] : List UInt8)) = false := by
        rw [bne_eq_false_iff_eq]
        exact (nf_nil_iff d3).2 (by rw [d5]; exact h0)
      show Ev (fun k => exact_IntDivMod.j0 k q r (r.toList != ([] : List UInt8)) neg e false b) _
      rw [hr]
      exact ht
    · exact Ev.neg hneg ht
theorem IntOf_is {p : Nat} (hp : p < 65536) : ∃ e, Ev (fun k => exact_IntOf.f k (p : Int)) (false, e) ∧ Nf e ∧ nb e = p ∧ e.size ≤ 8 := by
  obtain ⟨e, e1, e2⟩ := NatOf_is (p := p) (Nat.lt_of_lt_of_le hp (by decide))
  refine ⟨e, ?_, e2⟩
  unfold exact_IntOf.f
  refine Ev.neg (by omega) ?_
  rw [IntKind.wrap_u64, Int.emod_eq_of_lt (Int.natCast_nonneg _) (by omega)]
  exact Ev.bind e1 (Ev.con rfl)
theorem IntTo_is {r : ByteArray} (hr : r.size ≤ 1000) {t : Nat} (ht : t < 65536) (hrt : nb r = t) : Ev (fun k => exact_IntTo.f k false r) ((t : Int), true) := by
  obtain ⟨w, w1, w2, w3, w4, w5⟩ := words_is (e := r) (by omega)
  rw [hrt] at w4
  have hu : Ev (fun k => exact_NatUint.f k r) ((t : Int), true) := by
    unfold exact_NatUint.f
    refine Ev.bind w1 ?_
    by_cases h0 : t = 0
    · have hw := no_word w3 w2 (show vl B64 w = 0 from by rw [show vl B64 w = t from w4]; exact h0)
      subst hw h0
      exact Ev.neg (by simp) (Ev.pos rfl (Ev.con rfl))
    · have hw := one_word w3 w2 (by rw [show vl B64 w = t from w4]; exact Nat.lt_of_lt_of_le ht (by decide)) (by rw [show vl B64 w = t from w4]; exact h0)
      rw [show vl B64 w = t from w4] at hw
      subst hw
      exact Ev.neg (by simp) (Ev.neg (by simp) (Ev.pos (by simp) (Ev.con rfl)))
  unfold exact_IntTo.f
  refine Ev.bind hu (Ev.pos rfl (Ev.neg (by simp only; omega) (Ev.neg (by simp only; omega) (Ev.succ ?_))))
  simp only [exact_IntTo.j0]
  rw [w64 (x := (t : Int)) (by omega) (by omega)]
  exact Ev.neg (by decide) (Ev.neg (by decide) (Ev.con rfl))
def zE (neg : Bool) (e : ByteArray) : Int := if (0 < e.size ∧ bt e 0 = 0) ∨ (e.size = 0 ∧ neg = true) then 1 else if e.size > 1024 then 4 else 0
def natE (e : ByteArray) : Int := if 0 < e.size ∧ bt e 0 = 0 then 1 else if e.size > 1024 then 4 else 0
theorem natural_Check_is (e : ByteArray) : Ev (fun k => natural_Check.f k e) (natE e) := by
  have hj : ∀ b : Bool, (b = true ↔ 0 < e.size ∧ bt e 0 = 0) → Ev (fun k => natural_Check.j0 k e b) (natE e) := by
    intro b hb
    refine Ev.succ ?_
    simp only [natural_Check.j0]
    cases b
    · have hne : natE e = if e.size > 1024 then 4 else 0 := if_neg (fun h => by have := hb.2 h; cases this)
      rw [hne]
      refine Ev.neg (by decide) ?_
      by_cases h : (e.size : Int) > 1024
      · rw [if_pos (show e.size > 1024 by omega)]; exact Ev.pos h (Ev.con rfl)
      · rw [if_neg (show ¬ e.size > 1024 by omega)]; exact Ev.neg h (Ev.con rfl)
    · have hne : natE e = 1 := if_pos (hb.1 rfl)
      rw [hne]
      exact Ev.pos rfl (Ev.con rfl)
  unfold natural_Check.f
  by_cases h : (e.size : Int) > 0
  · refine Ev.pos h (Ev.pos (by omega) (hj _ ?_))
    rw [beq_iff_eq]
    exact ⟨fun x => ⟨by omega, x⟩, fun x => x.2⟩
  · exact Ev.neg h (hj false ⟨fun x => (by cases x), fun x => by omega⟩)
theorem integer_Check_is (neg : Bool) (e : ByteArray) : Ev (fun k => integer_Check.f k neg e) (zE neg e) := by
  unfold integer_Check.f
  refine Ev.bind (natural_Check_is e) ?_
  by_cases h1 : 0 < e.size ∧ bt e 0 = 0
  · have hn : natE e = 1 := if_pos h1
    have hz : zE neg e = 1 := if_pos (.inl h1)
    rw [hn, hz]
    exact Ev.pos rfl (Ev.con rfl)
  · have hn : natE e = if e.size > 1024 then 4 else 0 := if_neg h1
    have hn1 : natE e ≠ 1 := by rw [hn]; split <;> omega
    refine Ev.neg hn1 (Ev.cbind (by rfl) ?_)
    by_cases h0 : e.size = 0
    · have hl := (toList_nil e).2 h0
      have hn0 : natE e = 0 := by rw [hn, if_neg (by omega)]
      cases neg
      · have hz : zE false e = 0 := by
          unfold zE
          rw [if_neg (by rintro (h | ⟨_, h⟩); exact h1 h; cases h), if_neg (by omega)]
        rw [hz, hn0]
        refine Ev.neg ?_ (Ev.con rfl)
        rw [hl, show ((false, (⟨#[]⟩ : ByteArray)).snd.toList) = ([] : List UInt8) from (toList_nil _).2 rfl]
        decide
      · have hz : zE true e = 1 := if_pos (.inr ⟨h0, rfl⟩)
        rw [hz]
        refine Ev.pos ?_ (Ev.pos hl (Ev.con rfl))
        rfl
    · have hl : e.toList ≠ [] := fun h => h0 ((toList_nil e).1 h)
      have hz : zE neg e = natE e := by
        rw [hn]
        exact if_neg (by rintro (h | ⟨h, _⟩); exact h1 h; exact h0 h)
      rw [hz]
      by_cases hc : (!(neg == false) || !(e.toList == (⟨#[]⟩ : ByteArray).toList)) = true
      · exact Ev.pos hc (Ev.neg hl (Ev.con rfl))
      · exact Ev.neg hc (Ev.con rfl)
theorem ref02_Check_is (neg : Bool) (e : ByteArray) : galoisref02_Check.f neg e = some (zE neg e) := by
  have hv1 : galoisref01_Valid.f e = some (decide (¬ (0 < e.size ∧ bt e 0 = 0))) := by
    unfold galoisref01_Valid.f
    by_cases h0 : e.size = 0
    · rw [if_pos ((toList_nil e).2 h0), decide_eq_true (by omega)]
    · rw [if_neg (fun h => h0 ((toList_nil e).1 h)), if_pos (by omega)]
      congr 1
      rw [Bool.eq_iff_iff, bne_iff_ne, decide_eq_true_eq]
      constructor
      · intro h x; exact h x.2
      · intro h x; exact h ⟨by omega, x⟩
  have hv : galoisref02_Valid.f neg e = some (decide (¬ ((0 < e.size ∧ bt e 0 = 0) ∨ (e.size = 0 ∧ neg = true)))) := by
    unfold galoisref02_Valid.f
    rw [hv1, Option.bind_some]
    by_cases h1 : 0 < e.size ∧ bt e 0 = 0
    · rw [if_neg (by simp [h1]), decide_eq_false (fun h => h (.inl h1))]
    · rw [if_pos (decide_eq_true h1)]
      cases neg
      · rw [if_neg (by decide), decide_eq_true (by rintro (h | ⟨_, h⟩); exact h1 h; cases h)]
      · rw [if_pos rfl]
        congr 1
        rw [Bool.eq_iff_iff, bne_iff_ne, decide_eq_true_eq]
        constructor
        · rintro h (x | ⟨x, _⟩)
          · exact h1 x
          · exact h ((toList_nil e).2 x)
        · intro h x; exact h (.inr ⟨(toList_nil e).1 x, rfl⟩)
  have hf : galoisref02_Fits.f neg e = some (if e.size > 1024 then 4 else 0) := by
    unfold galoisref02_Fits.f galoisref01_Fits.f
    by_cases h : e.size > 1024
    · rw [if_pos (by omega), if_pos h]; rfl
    · rw [if_neg (by omega), if_neg h]; rfl
  unfold galoisref02_Check.f
  rw [hv, hf, Option.bind_some]
  by_cases h : (0 < e.size ∧ bt e 0 = 0) ∨ (e.size = 0 ∧ neg = true)
  · rw [if_neg (by simp only [decide_eq_true_eq]; exact fun x => x h), zE, if_pos h]
  · rw [if_pos (decide_eq_true h), zE, if_neg h]; rfl
theorem Of_loop {p : Int} (hp : Mo p) {c : List Int} (hl : c.length ≤ 100000) : ∀ (d i : Nat) (o : List Int), i + d = c.length → o.length = c.length → (∀ j, j < i → co o j = co c j % p) →
    Ev (fun k => polymod_Of.l0 k p o c (c.length : Int) (i : Int)) (if 65 < (ofF c.length fun j => co c j % p).length then ([], 4) else ((ofF c.length fun j => co c j % p), 0)) := by
  intro d
  induction d with
  | zero =>
    intro i o hi ho h
    refine Ev.succ ?_
    simp only [polymod_Of.l0]
    have ht : trimZ o = ofF c.length fun j => co c j % p := trimZ_ofF ho (fun j hj => h j (by omega))
    refine Ev.neg (by omega) (Ev.bind (Ev.con (trim_ev _ 0)) ?_)
    rw [ht]
    generalize (ofF c.length fun j => co c j % p) = r
    by_cases hr : 65 < r.length
    · rw [if_pos hr]
      exact Ev.bind (Ev.con (show polymod_bounded.f 0 r = some ([], 4) from if_pos (by omega))) (Ev.con rfl)
    · rw [if_neg hr]
      exact Ev.bind (Ev.con (show polymod_bounded.f 0 r = some (r, 0) from if_neg (by omega))) (Ev.con rfl)
  | succ d ih =>
    intro i o hi ho h
    refine Ev.succ ?_
    simp only [polymod_Of.l0]
    rw [rd_co, Int.toNat_natCast, w64 (x := (i : Int) + 1) (by omega) (by omega)]
    refine Ev.pos (by omega) (Ev.pos (by omega) (Ev.pos (by omega) (Ev.cbind (fp_Mod_is hp) (Ev.pos (by omega) ?_))))
    exact ih (i + 1) (o.set i (co c i % p)) (by omega) (by rw [List.length_set]; exact ho) (set_pref (by omega) rfl h)
theorem Of_is {p : Int} {c : List Int} (hl : c.length ≤ 100000) : Ev (fun k => polymod_Of.f k p c) (if pm p = true then (if 65 < (ofF c.length fun j => co c j % p).length then ([], 4) else ((ofF c.length fun j => co c j % p), 0)) else ([], 7)) := by
  unfold polymod_Of.f
  refine Ev.bind (polymod_prime_is p) ?_
  by_cases h : pm p = true
  · rw [if_pos h, if_pos h]
    refine Ev.pos rfl (Ev.pos (by omega) (Ev.pos (by omega) ?_))
    rw [Int.toNat_natCast]
    exact Of_loop (pm_iff.1 h).1 hl c.length 0 _ (Nat.zero_add _) List.length_replicate (fun j hj => by omega)
  · rw [if_neg h, if_neg h]
    exact Ev.neg (by decide) (Ev.con rfl)
theorem ref_Of_loop {p : Int} (hp : Mo p) {c : List Int} (hl : c.length ≤ 100000) : ∀ (d i : Nat) (o : List Int), i + d = c.length → o.length = i → (∀ j, j < i → co o j = co c j % p) →
    Ev (fun k => galoisref09_Of.l0 k p c o (i : Int)) (ofF c.length fun j => co c j % p) := by
  intro d
  induction d with
  | zero =>
    intro i o hi ho h
    refine Ev.succ ?_
    simp only [galoisref09_Of.l0]
    have ht : trimZ o = ofF c.length fun j => co c j % p := trimZ_ofF (by omega) (fun j hj => h j (by omega))
    rw [← ht]
    exact Ev.neg (by omega) (Ev.bind (ref_Trim_ev (by omega)) (Ev.con rfl))
  | succ d ih =>
    intro i o hi ho h
    refine Ev.succ ?_
    simp only [galoisref09_Of.l0]
    rw [rd_co, Int.toNat_natCast, w64 (x := (i : Int) + 1) (by omega) (by omega)]
    refine Ev.pos (by omega) (Ev.pos (by omega) (Ev.cbind (ref_Mod_is hp) (Ev.pos (by omega) ?_)))
    refine ih (i + 1) (o ++ [co c i % p]) (by omega) (by simp [ho]) (fun j hj => ?_)
    by_cases e : j = i
    · rw [e, ← ho]; simp [co]
    · rw [co_append_left (by omega), h j (by omega)]
theorem ref_Of_is {p : Int} (hp : Mo p) {c : List Int} (hl : c.length ≤ 100000) : Ev (fun k => galoisref09_Of.f k p c) (ofF c.length fun j => co c j % p) := by
  unfold galoisref09_Of.f
  exact ref_Of_loop hp hl c.length 0 [] (Nat.zero_add _) rfl (fun j hj => by omega)
def cf (f : List S72) (i : Nat) : S72 := f.getD i z72
theorem rd_cf (f : List S72) (i : Nat) : rd_T72 f (i : Int) = cf f i := by unfold rd_T72 cf; rw [Int.toNat_natCast]
theorem drop_cf {f : List S72} {i : Nat} (h : i < f.length) : f.drop i = cf f i :: f.drop (i + 1) := by
  rw [List.drop_eq_getElem_cons h]
  congr 1
  simp [cf, List.getD, h]
def fe : List S72 → Int
  | [] => 0
  | x :: l => if zE x.f0 x.f1 = 0 then fe l else zE x.f0 x.f1
def pE (f : List S72) : Int := if 65 < f.length then 4 else if fe f = 0 then (if 0 < f.length ∧ (cf f (f.length - 1)).f1.size = 0 then 1 else 0) else fe f
def rl (p : Int) (f : List S72) : List Int := ofF f.length fun j => ((rv (cf f j).f0 (nb (cf f j).f1) p.toNat : Nat) : Int)
theorem Reduce_vals {p : Int} (hp : Mo p) {f : List S72} (hl : f.length ≤ 1000) (hs : ∀ i, i < f.length → (cf f i).f1.size ≤ 10000) :
    ∀ (d i : Nat) (o : List Int), i + d = f.length → o.length = f.length → (∀ j, j < i → co o j = ((rv (cf f j).f0 (nb (cf f j).f1) p.toNat : Nat) : Int)) → Ev (fun k => polymod_Reduce.l1 k p o f (f.length : Int) (i : Int)) (rl p f, 0) := by
  have hlo := hp.lo; have hhi := hp.hi
  have hpn : ((p.toNat : Nat) : Int) = p := Int.toNat_of_nonneg (by omega)
  intro d
  induction d with
  | zero =>
    intro i o hi ho h
    refine Ev.succ ?_
    simp only [polymod_Reduce.l1]
    have ht : trimZ o = rl p f := trimZ_ofF ho (fun j hj => h j (by omega))
    exact Ev.neg (by omega) (Ev.bind (Ev.con (trim_ev _ 0)) (Ev.con (by rw [ht])))
  | succ d ih =>
    intro i o hi ho h
    obtain ⟨b, b1, b2, b3, b4⟩ := IntOf_is (p := p.toNat) (by omega)
    rw [hpn] at b1
    obtain ⟨s, q, r, r1, r2, r3⟩ := IntDivMod_is (e := (cf f i).f1) (b := b) (neg := (cf f i).f0) (hs i (by omega)) (by omega) (p := p.toNat) (by omega) (by omega) b3
    have hrv := rv_lt (neg := (cf f i).f0) (N := nb (cf f i).f1) (p := p.toNat) (by omega)
    have ht := IntTo_is (r := r) (t := rv (cf f i).f0 (nb (cf f i).f1) p.toNat) (by omega) (by omega) r3
    refine Ev.succ ?_
    simp only [polymod_Reduce.l1]
    rw [rd_cf, Int.toNat_natCast, w64 (x := (i : Int) + 1) (by omega) (by omega)]
    refine Ev.pos (by omega) (Ev.pos (by omega) (Ev.pos (by omega) (Ev.bind b1 (Ev.bind r1 (Ev.bind ht (Ev.pos (by omega) ?_))))))
    exact ih (i + 1) _ (by omega) (by rw [List.length_set]; exact ho) (set_pref (by omega) rfl h)
theorem Reduce_checks {p : Int} (hp : Mo p) {f : List S72} (hl : f.length ≤ 65) (hs : ∀ i, i < f.length → (cf f i).f1.size ≤ 10000) :
    ∀ (d i : Nat), i + d = f.length → Ev (fun k => polymod_Reduce.l0 k p f f (f.length : Int) (i : Int)) (if fe (f.drop i) = 0 then (if 0 < f.length ∧ (cf f (f.length - 1)).f1.size = 0 then ([], 1) else (rl p f, 0)) else ([], fe (f.drop i))) := by
  intro d
  induction d with
  | zero =>
    intro i hi
    obtain rfl : i = f.length := by omega
    rw [List.drop_length, show fe [] = 0 from rfl, if_pos rfl]
    have hj : ∀ b : Bool, (b = true ↔ 0 < f.length ∧ (cf f (f.length - 1)).f1.size = 0) → Ev (fun k => polymod_Reduce.j1 k p f b) (if 0 < f.length ∧ (cf f (f.length - 1)).f1.size = 0 then ([], 1) else (rl p f, 0)) := by
      intro b hb
      refine Ev.succ ?_
      simp only [polymod_Reduce.j1]
      cases b
      · rw [if_neg (fun h => by have := hb.2 h; cases this)]
        refine Ev.neg (by decide) (Ev.pos (by omega) (Ev.pos (by omega) ?_))
        rw [Int.toNat_natCast]
        exact Reduce_vals hp (by omega) hs f.length 0 _ (Nat.zero_add _) List.length_replicate (fun j hj => by omega)
      · rw [if_pos (hb.1 rfl)]
        exact Ev.pos rfl (Ev.con rfl)
    refine Ev.succ ?_
    simp only [polymod_Reduce.l0]
    refine Ev.neg (by omega) ?_
    by_cases h0 : (f.length : Int) > 0
    · refine Ev.pos h0 ?_
      rw [w64 (x := (f.length : Int) - 1) (by omega) (by omega), show (f.length : Int) - 1 = ((f.length - 1 : Nat) : Int) from by omega, rd_cf]
      refine Ev.pos (by omega) (Ev.pos (by omega) (hj _ ?_))
      rw [beq_iff_eq, toList_nil]
      exact ⟨fun h => ⟨by omega, h⟩, fun h => h.2⟩
    · exact Ev.neg h0 (hj false ⟨fun h => (by cases h), fun h => (by omega)⟩)
  | succ d ih =>
    intro i hi
    have hc := integer_Check_is (cf f i).f0 (cf f i).f1
    refine Ev.succ ?_
    simp only [polymod_Reduce.l0]
    rw [rd_cf, w64 (x := (i : Int) + 1) (by omega) (by omega), drop_cf (by omega)]
    refine Ev.pos (by omega) (Ev.pos (by omega) (Ev.pos (by omega) (Ev.bind hc ?_)))
    by_cases h0 : zE (cf f i).f0 (cf f i).f1 = 0
    · rw [show fe (cf f i :: f.drop (i + 1)) = fe (f.drop (i + 1)) from if_pos h0]
      exact Ev.pos h0 (ih (i + 1) (by omega))
    · rw [show fe (cf f i :: f.drop (i + 1)) = zE (cf f i).f0 (cf f i).f1 from if_neg h0, if_neg h0]
      exact Ev.neg h0 (Ev.con rfl)
theorem Reduce_is {p : Int} {f : List S72} (hs : ∀ i, i < f.length → (cf f i).f1.size ≤ 10000) : Ev (fun k => polymod_Reduce.f k p f) (if pm p = true then (if pE f = 0 then (rl p f, 0) else ([], pE f)) else ([], 7)) := by
  unfold polymod_Reduce.f
  refine Ev.bind (polymod_prime_is p) ?_
  by_cases h : pm p = true
  · rw [if_pos h, if_pos h]
    refine Ev.pos rfl ?_
    by_cases hl : (f.length : Int) > 65
    · have he : pE f = 4 := if_pos (by omega)
      rw [he]
      exact Ev.pos hl (Ev.con rfl)
    · refine Ev.neg hl (Ev.eq (Reduce_checks (pm_iff.1 h).1 (by omega) hs f.length 0 (Nat.zero_add _)) ?_)
      rw [List.drop_zero]
      have he : pE f = if fe f = 0 then (if 0 < f.length ∧ (cf f (f.length - 1)).f1.size = 0 then 1 else 0) else fe f := if_neg (by omega)
      rw [he]
      by_cases h1 : fe f = 0
      · rw [if_pos h1, if_pos h1]
        by_cases h2 : 0 < f.length ∧ (cf f (f.length - 1)).f1.size = 0
        · rw [if_pos h2, if_pos h2]; rfl
        · rw [if_neg h2, if_neg h2]; rfl
      · rw [if_neg h1, if_neg h1, if_neg h1]
  · rw [if_neg h, if_neg h]
    exact Ev.neg (by decide) (Ev.con rfl)
abbrev B32 : Nat := 4294967296
theorem B32_pos : 0 < B32 := by decide
theorem vl_append {B : Nat} : ∀ (l m : List Int), vl B (l ++ m) = vl B l + B ^ l.length * vl B m := by
  intro l m
  induction l with
  | nil => show vl B m = 0 + B ^ 0 * vl B m; rw [Nat.pow_zero, Nat.one_mul, Nat.zero_add]
  | cons a l ih =>
    show a.toNat + B * vl B (l ++ m) = a.toNat + B * vl B l + B ^ (l.length + 1) * vl B m
    rw [ih, Nat.mul_add, Nat.pow_succ, ← Nat.mul_assoc, Nat.mul_comm B (B ^ l.length), Nat.add_assoc]
theorem wd_append {B : Nat} {l m : List Int} (hl : Wd B l) (hm : Wd B m) : Wd B (l ++ m) := fun i => by
  by_cases h : i < l.length
  · rw [co_append_left h]; exact hl i
  · have : co (l ++ m) i = co m (i - l.length) := by simp [co, List.getElem?_append_right (by omega : l.length ≤ i)]
    rw [this]; exact hm _
theorem limb_step {e : ByteArray} {en st : Nat} (hen : en ≤ e.size) (hes : e.size ≤ 100000) {o : List Int} {Q : List Int → Prop}
    (next : ∀ D : Nat, numB e en = numB e st * p8 (en - st) + D → D < p8 (en - st) → ∃ w, Ev (fun k => galoisref01_limbs.l0 k e (o ++ [(D : Int)]) ((en : Int) - 4)) w ∧ Q w) (hol : o.length ≤ 1000000) (h4 : en ≤ st + 4) :
    ∀ (d i D : Nat), i + d = en → st ≤ i → numB e i = numB e st * p8 (i - st) + D → D < p8 (i - st) → ∃ w, Ev (fun k => galoisref01_limbs.l1 k e o (en : Int) (D : Int) (i : Int)) w ∧ Q w := by
  intro d
  induction d with
  | zero =>
    intro i D hi hs hv hD
    obtain rfl : i = en := by omega
    obtain ⟨w, w1, w2⟩ := next D hv hD
    refine ⟨w, Ev.succ ?_, w2⟩
    simp only [galoisref01_limbs.l1]
    rw [w64 (x := (i : Int) - 4) (by omega) (by omega)]
    exact Ev.neg (by omega) (Ev.pos (by omega) w1)
  | succ d ih =>
    intro i D hi hs hv hD
    have hb := bt_range e (i : Int)
    obtain ⟨b, hbe⟩ : ∃ b : Nat, bt e (i : Int) = (b : Int) := ⟨(bt e (i : Int)).toNat, by omega⟩
    have hp : p8 (i + 1 - st) = p8 (i - st) * 256 := by rw [← p8_succ]; congr 1; omega
    have hle : p8 (i - st) ≤ 16777216 := by
      have : i - st ≤ 3 := by omega
      have h2 : p8 (i - st) ≤ p8 3 := Nat.pow_le_pow_right (by decide) this
      exact h2
    obtain ⟨w, w1, w2⟩ := ih (i + 1) (D * 256 + b) (by omega) (by omega) (by
      show numB e i * 256 + (bt e (i : Int)).toNat = _
      rw [hbe, Int.toNat_natCast, hv, hp, Nat.add_mul, Nat.mul_assoc, Nat.add_assoc]) (by rw [hp]; omega)
    refine ⟨w, Ev.succ ?_, w2⟩
    simp only [galoisref01_limbs.l1]
    rw [hbe, IntKind.wrap_u64, IntKind.wrap_u64, IntKind.wrap_u64, Int.emod_eq_of_lt (a := (D : Int) * 256) (by omega) (by omega), Int.emod_eq_of_lt (a := (b : Int)) (by omega) (by omega), Int.emod_eq_of_lt (by omega) (by omega), w64 (x := (i : Int) + 1) (by omega) (by omega), show (D : Int) * 256 + (b : Int) = ((D * 256 + b : Nat) : Int) from by omega]
    exact Ev.pos (by omega) (Ev.pos (by omega) (Ev.pos (by omega) w1))
theorem limbs_rows {e : ByteArray} (hes : e.size ≤ 100000) : ∀ (n en : Nat) (o : List Int), en ≤ 4 * n → en ≤ e.size → Wd B32 o → o.length + n ≤ 900000 → vl B32 o + B32 ^ o.length * numB e en = nb e →
    ∃ w, Ev (fun k => galoisref01_limbs.l0 k e o (en : Int)) w ∧ Tr w ∧ Wd B32 w ∧ vl B32 w = nb e ∧ w.length ≤ o.length + n := by
  have hend : ∀ (o : List Int) (x : Int), x ≤ 0 → Wd B32 o → vl B32 o = nb e → ∃ w, Ev (fun k => galoisref01_limbs.l0 k e o x) w ∧ Tr w ∧ Wd B32 w ∧ vl B32 w = nb e ∧ w.length ≤ o.length := fun o x hx ho hv => by
    refine ⟨trimZ o, Ev.succ ?_, tr_trimZ o, ho.trimZ, by rw [vl_trimZ, hv], trimZ_len o⟩
    simp only [galoisref01_limbs.l0]
    exact Ev.neg (by omega) (Ev.bind (Ev.con (show galoisref01_trim.f 0 o = some (trimZ o) from rfl)) (Ev.con rfl))
  intro n
  induction n with
  | zero =>
    intro en o hn he ho hl hv
    obtain rfl : en = 0 := by omega
    rw [show numB e 0 = 0 from rfl, Nat.mul_zero, Nat.add_zero] at hv
    exact hend o _ (by omega) ho hv
  | succ n ih =>
    intro en o hn he ho hl hv
    by_cases h0 : en = 0
    · subst h0
      rw [show numB e 0 = 0 from rfl, Nat.mul_zero, Nat.add_zero] at hv
      obtain ⟨w, w1, w2, w3, w4, w5⟩ := hend o ((0 : Nat) : Int) (by omega) ho hv
      exact ⟨w, w1, w2, w3, w4, by omega⟩
    · have hst : mx 0 (wrap64 ((en : Int) - 4)) = ((en - 4 : Nat) : Int) := by
        rw [w64 (x := (en : Int) - 4) (by omega) (by omega)]; unfold mx; split <;> omega
      obtain ⟨w, w1, w2⟩ := limb_step (e := e) (en := en) (st := en - 4) he hes (o := o) (Q := fun w => Tr w ∧ Wd B32 w ∧ vl B32 w = nb e ∧ w.length ≤ o.length + (n + 1)) (fun D hD hlt => by
        have hDB : D < B32 := Nat.lt_of_lt_of_le hlt (show p8 (en - (en - 4)) ≤ p8 4 from Nat.pow_le_pow_right (by decide) (by omega))
        have hwd : Wd B32 (o ++ [(D : Int)]) := wd_append ho (wd_one B32_pos (Int.natCast_nonneg _) (Int.ofNat_lt.2 hDB))
        have hval : vl B32 (o ++ [(D : Int)]) = vl B32 o + B32 ^ o.length * D := by rw [vl_append, vl_one, Int.toNat_natCast]
        have hlen : (o ++ [(D : Int)]).length = o.length + 1 := by simp
        by_cases h4 : 4 < en
        · have hv2 : vl B32 (o ++ [(D : Int)]) + B32 ^ (o ++ [(D : Int)]).length * numB e (en - 4) = nb e := by
            rw [hval, hlen, ← hv, hD, show en - (en - 4) = 4 from by omega, show p8 4 = B32 from rfl, Nat.pow_succ, Nat.mul_add, Nat.mul_assoc, Nat.mul_comm (numB e (en - 4)) B32]
            omega
          obtain ⟨w, w1, w2, w3, w4, w5⟩ := ih (en - 4) _ (by omega) (by omega) hwd (by omega) hv2
          rw [show ((en - 4 : Nat) : Int) = (en : Int) - 4 from by omega] at w1
          exact ⟨w, w1, w2, w3, w4, by omega⟩
        · have hD2 : numB e en = D := by rw [hD, show en - 4 = 0 from by omega]; show 0 * _ + D = D; omega
          obtain ⟨w, w1, w2, w3, w4, w5⟩ := hend _ ((en : Int) - 4) (by omega) hwd (by rw [hval, ← hD2]; exact hv)
          exact ⟨w, w1, w2, w3, w4, by omega⟩) (by omega) (by omega) (en - (en - 4)) (en - 4) 0 (by omega) (Nat.le_refl _) (by rw [Nat.sub_self, p8_zero, Nat.mul_one, Nat.add_zero]) (by rw [Nat.sub_self, p8_zero]; omega)
      refine ⟨w, Ev.succ ?_, w2⟩
      simp only [galoisref01_limbs.l0]
      rw [hst]
      exact Ev.pos (by omega) w1
theorem limbs_is {e : ByteArray} (hes : e.size ≤ 100000) : ∃ w, Ev (fun k => galoisref01_limbs.f k e) w ∧ Tr w ∧ Wd B32 w ∧ vl B32 w = nb e ∧ w.length ≤ (e.size + 3) / 4 := by
  obtain ⟨w, w1, w2, w3, w4, w5⟩ := limbs_rows hes ((e.size + 3) / 4) e.size [] (by omega) (Nat.le_refl _) (wd_nil B32_pos) (by simp; omega) (by show 0 + B32 ^ 0 * numB e e.size = nb e; rw [Nat.pow_zero, Nat.one_mul, Nat.zero_add]; rfl)
  refine ⟨w, ?_, w2, w3, w4, by simpa using w5⟩
  unfold galoisref01_limbs.f
  exact w1
theorem nb_snoc {o : List Int} {b : Int} (ho : By o) (hb : 0 ≤ b ∧ b < 256) : nb (strOfNums (o ++ [b])) = nb (strOfNums o) * 256 + b.toNat := by
  have hB : By (o ++ [b]) := fun i => by
    by_cases h : i < o.length
    · rw [co_append_left h]; exact ho i
    · by_cases h2 : i = o.length
      · rw [h2]; simp [co]; omega
      · rw [co_ge (by simp; omega)]; omega
  have h1 : ∀ i, i ≤ o.length → numB (strOfNums (o ++ [b])) i = numB (strOfNums o) i := by
    intro i
    induction i with
    | zero => intro _; rfl
    | succ i ih =>
      intro hi
      show numB _ i * 256 + (bt _ (i : Int)).toNat = numB _ i * 256 + (bt _ (i : Int)).toNat
      rw [ih (by omega), bt_strOfNums hB, bt_strOfNums ho, co_append_left (by omega)]
  unfold nb
  rw [strOfNums_size, strOfNums_size, show (o ++ [b]).length = o.length + 1 from by simp]
  show numB _ o.length * 256 + (bt _ (o.length : Int)).toNat = _
  rw [h1 _ (Nat.le_refl _), bt_strOfNums hB]
  congr 2
  simp [co]
structure Bs (o : List Int) (V : Nat) : Prop where
  by_ : By o
  lead : o ≠ [] → co o 0 ≠ 0
  val : nb (strOfNums o) = V
theorem Bs.nil : Bs [] 0 := ⟨fun i => by rw [co_nil]; omega, fun h => absurd rfl h, rfl⟩
theorem Bs.nf {o : List Int} {V : Nat} (h : Bs o V) : Nf (strOfNums o) := fun hs => by
  have := bt_strOfNums h.by_ 0
  rw [show ((0 : Nat) : Int) = 0 from rfl] at this
  rw [this]
  rw [strOfNums_size] at hs
  exact h.lead (List.length_pos_iff.1 hs)
theorem Bs.zero {o : List Int} {V : Nat} (h : Bs o V) (ho : ¬ ((o.length : Int) > 0)) : o = [] ∧ V = 0 := by
  have e : o = [] := List.length_eq_zero_iff.1 (by omega)
  exact ⟨e, by rw [← h.val, e]; rfl⟩
theorem Bs.put {o : List Int} {V b : Nat} (h : Bs o V) (hb : b < 256) (h0 : (o.length : Int) > 0 ∨ 0 < b) : Bs (o ++ [(b : Int)]) (V * 256 + b) := by
  refine ⟨fun i => ?_, fun _ => ?_, by rw [nb_snoc h.by_ ⟨by omega, by omega⟩, h.val, Int.toNat_natCast]⟩
  · by_cases hi : i < o.length
    · rw [co_append_left hi]; exact h.by_ i
    · by_cases h2 : i = o.length
      · rw [h2]; simp [co]; omega
      · rw [co_ge (by simp; omega)]; omega
  · by_cases ho : o = []
    · rw [ho]
      show ((b : Nat) : Int) ≠ 0
      rw [ho] at h0
      simp at h0
      omega
    · rw [co_append_left (List.length_pos_iff.2 ho)]
      exact h.lead ho
theorem rpack_row {x : List Int} {V i : Nat} (hi : i < x.length) (hx : x.length ≤ 100000) {n : Nat} (hxi : co x i = (n : Int)) (hd : ∀ t, t < 4 → n / p8 t % 256 = V / p8 (4 * i + t) % 256) {Q : ByteArray → Prop}
    (next : ∀ o, Bs o (V / p8 (4 * i)) → o.length ≤ 4 * (x.length - i) → ∃ e, Ev (fun k => galoisref01_pack.l0 k x o ((i : Int) - 1)) e ∧ Q e) :
    ∀ (t : Nat) (o : List Int), t ≤ 4 → Bs o (V / p8 (4 * i + t)) → o.length + t ≤ 4 * (x.length - i) → ∃ e, Ev (fun k => galoisref01_pack.l1 k x o (i : Int) (8 * (t : Int) - 8)) e ∧ Q e := by
  intro t
  induction t with
  | zero =>
    intro o _ ho hl
    obtain ⟨e, e1, e2⟩ := next o ho (by omega)
    refine ⟨e, Ev.succ ?_, e2⟩
    simp only [galoisref01_pack.l1]
    rw [w64 (x := (i : Int) - 1) (by omega) (by omega)]
    exact Ev.neg (by omega) e1
  | succ t ih =>
    intro o ht ho hl
    have hb := hd t (by omega)
    have hlt : V / p8 (4 * i + t) % 256 < 256 := Nat.mod_lt _ (by decide)
    have hq : V / p8 (4 * i + t) = V / p8 (4 * i + (t + 1)) * 256 + V / p8 (4 * i + t) % 256 := by
      rw [← Nat.add_assoc, p8_succ, ← Nat.div_div_eq_div_mul]
      exact (Nat.div_add_mod' _ 256).symm
    generalize hbe : V / p8 (4 * i + t) % 256 = b at *
    have hsh : (shr .u64 (co x i) (8 * (t : Int))) % 256 = (b : Int) := by
      rw [hxi, show 8 * (t : Int) = ((8 * t : Nat) : Int) from by omega, shr_nat64 _ _ (by omega), two8, ← hb]
      rfl
    have e8 : 8 * ((t + 1 : Nat) : Int) - 8 = 8 * (t : Int) := by omega
    have e9 : wrap64 (8 * (t : Int) - 8) = 8 * (t : Int) - 8 := w64 (by omega) (by omega)
    by_cases h0 : (o.length : Int) > 0 ∨ 0 < b
    · have hp := ho.put hlt h0
      rw [← hq] at hp
      obtain ⟨e, e1, e2⟩ := ih (o ++ [(b : Int)]) (by omega) hp (by simp; omega)
      refine ⟨e, Ev.succ ?_, e2⟩
      simp only [galoisref01_pack.l1]
      rw [e8, rd_co, Int.toNat_natCast, hsh, e9]
      refine Ev.pos (by omega) (Ev.pos (by omega) (Ev.pos (by omega) (Ev.pos (by omega) ?_)))
      by_cases h1 : (o.length : Int) > 0
      · exact Ev.pos h1 (Ev.pos (by omega) e1)
      · exact Ev.neg h1 (Ev.pos (by omega) (Ev.pos (by omega) e1))
    · have h1 : ¬ (o.length : Int) > 0 := fun h => h0 (.inl h)
      have h2 : b = 0 := by omega
      obtain ⟨z1, z2⟩ := ho.zero h1
      obtain ⟨e, e1, e2⟩ := ih o (by omega) (by rw [hq, z2, h2, z1]; exact Bs.nil) (by omega)
      refine ⟨e, Ev.succ ?_, e2⟩
      simp only [galoisref01_pack.l1]
      rw [e8, rd_co, Int.toNat_natCast, hsh, e9]
      exact Ev.pos (by omega) (Ev.pos (by omega) (Ev.pos (by omega) (Ev.pos (by omega) (Ev.neg h1 (Ev.neg (by omega) e1)))))
theorem rpack_rows {x : List Int} {V : Nat} (hx : x.length ≤ 100000) (hd : ∀ i, i < x.length → ∃ n : Nat, co x i = (n : Int) ∧ ∀ t, t < 4 → n / p8 t % 256 = V / p8 (4 * i + t) % 256) :
    ∀ (i : Nat) (o : List Int), i ≤ x.length → Bs o (V / p8 (4 * i)) → o.length ≤ 4 * (x.length - i) → ∃ e, Ev (fun k => galoisref01_pack.l0 k x o ((i : Int) - 1)) e ∧ Nf e ∧ nb e = V ∧ e.size ≤ 4 * x.length := by
  intro i
  induction i with
  | zero =>
    intro o _ ho hl
    rw [Nat.mul_zero, p8_zero, Nat.div_one] at ho
    refine ⟨strOfNums o, Ev.succ ?_, ho.nf, ho.val, by rw [strOfNums_size]; omega⟩
    simp only [galoisref01_pack.l0]
    exact Ev.neg (by omega) (Ev.con rfl)
  | succ i ih =>
    intro o hi ho hl
    obtain ⟨n, n1, n2⟩ := hd i (by omega)
    obtain ⟨e, e1, e2⟩ := rpack_row (x := x) (V := V) (i := i) (by omega) hx n1 n2 (Q := fun e => Nf e ∧ nb e = V ∧ e.size ≤ 4 * x.length) (fun o ho hl => ih o (by omega) ho hl) 4 o (Nat.le_refl _) (by rw [show 4 * i + 4 = 4 * (i + 1) from by omega]; exact ho) (by omega)
    refine ⟨e, Ev.succ ?_, e2⟩
    simp only [galoisref01_pack.l0]
    rw [show ((i + 1 : Nat) : Int) - 1 = (i : Int) from by omega]
    exact Ev.pos (by omega) e1
theorem digit_byte32 (X : Nat) {s : Nat} (hs : s < 4) : X % 4294967296 / p8 s % 256 = X / p8 s % 256 := by
  have h1 : (4294967296 : Nat) = p8 s * p8 (4 - s) := by rw [← p8_add, show s + (4 - s) = 4 from by omega]; rfl
  have h2 : p8 (4 - s) = p8 (3 - s) * 256 := by rw [← p8_succ]; congr 1; omega
  rw [h1, Nat.mod_mul_right_div_self, Nat.mod_mod_of_dvd _ ⟨p8 (3 - s), by rw [h2, Nat.mul_comm]⟩]
theorem p8_32 (m : Nat) : B32 ^ m = p8 (4 * m) := by rw [show B32 = 256 ^ 4 from rfl, ← Nat.pow_mul]; rfl
theorem rpack_low {x : List Int} (hx : x.length ≤ 100000) (h0 : ∀ i, 0 ≤ co x i) : ∃ e, Ev (fun k => galoisref01_pack.f k x) e ∧ Nf e ∧ nb e = vl B32 (x.map (· % 4294967296)) ∧ e.size ≤ 4 * x.length := by
  have hm : ∀ i, co (x.map (· % 4294967296)) i = co x i % 4294967296 := fun i => by
    by_cases hi : i < x.length
    · simp [co, hi]
    · rw [co_ge (by simp; omega), co_ge (by omega)]; rfl
  have hw : Wd B32 (x.map (· % 4294967296)) := fun i => by rw [hm]; show 0 ≤ co x i % 4294967296 ∧ co x i % 4294967296 < ((4294967296 : Nat) : Int); omega
  have hlt := vl_lt B32_pos _ hw
  rw [p8_32, List.length_map] at hlt
  obtain ⟨e, e1, e2⟩ := rpack_rows (x := x) (V := vl B32 (x.map (· % 4294967296))) hx (fun i hi => by
    refine ⟨(co x i).toNat, (Int.toNat_of_nonneg (h0 i)).symm, fun t ht => ?_⟩
    have h1 := vl_digit B32_pos i _ hw
    rw [hm] at h1
    have h2 : (co x i).toNat % 4294967296 = vl B32 (x.map (· % 4294967296)) / p8 (4 * i) % 4294967296 := by
      rw [p8_32] at h1
      have := h0 i
      have h3 : (((co x i).toNat % 4294967296 : Nat) : Int) = co x i % 4294967296 := by rw [Int.natCast_emod, Int.toNat_of_nonneg this]; rfl
      rw [← h3] at h1
      exact Int.ofNat.inj h1
    rw [← digit_byte32 (co x i).toNat ht, h2, digit_byte32 _ ht, Nat.div_div_eq_div_mul, ← p8_add]) x.length [] (Nat.le_refl _) (by rw [Nat.div_eq_of_lt hlt]; exact Bs.nil) (by simp)
  refine ⟨e, ?_, e2⟩
  unfold galoisref01_pack.f
  rw [w64 (x := (x.length : Int) - 1) (by omega) (by omega)]
  exact e1
theorem rpack_is {x : List Int} (hx : x.length ≤ 100000) (hw : Wd B32 x) : ∃ e, Ev (fun k => galoisref01_pack.f k x) e ∧ Nf e ∧ nb e = vl B32 x ∧ e.size ≤ 4 * x.length := by
  obtain ⟨e, e1, e2, e3, e4⟩ := rpack_low hx (fun i => (hw i).1)
  refine ⟨e, e1, e2, ?_, e4⟩
  rw [e3]
  refine vl_ext _ _ fun i => ?_
  have hm : co (x.map (· % 4294967296)) i = co x i % 4294967296 := by
    by_cases hi : i < x.length
    · simp [co, hi]
    · rw [co_ge (by simp; omega), co_ge (by omega)]; rfl
  rw [hm]
  have := hw i
  exact Int.emod_eq_of_lt this.1 this.2
theorem vl_set' {B : Nat} : ∀ (m : Nat) (l : List Int) (y : Int), m < l.length → vl B (l.set m y) + (co l m).toNat * B ^ m = vl B l + y.toNat * B ^ m := by
  intro m
  induction m with
  | zero =>
    intro l y hm
    cases l with
    | nil => simp at hm
    | cons a l =>
      rw [co_zero, Nat.pow_zero, Nat.mul_one, Nat.mul_one]
      show y.toNat + B * vl B l + a.toNat = a.toNat + B * vl B l + y.toNat
      omega
  | succ m ih =>
    intro l y hm
    cases l with
    | nil => simp at hm
    | cons a l =>
      rw [co_succ]
      have h := ih l y (by simpa using hm)
      have h2 := congrArg (fun z => a.toNat + B * z) h
      simp only [Nat.mul_add, Nat.mul_left_comm B] at h2
      rw [Nat.pow_succ, Nat.mul_comm (B ^ m) B]
      show a.toNat + B * vl B (l.set m y) + (co l m).toNat * (B * B ^ m) = a.toNat + B * vl B l + y.toNat * (B * B ^ m)
      omega
theorem below_is {x : List Int} (hx : Wd B32 x) (hl : x.length ≤ 100000) {p : Nat} (hp0 : 0 < p) (hp : p < 65536) : Ev (fun k => galoisref01_below.f k x [(p : Int)]) (decide (vl B32 x < p)) := by
  unfold galoisref01_below.f
  refine Ev.cbind (show galoisref01_trim.f 0 x = some (trimZ x) from rfl) ?_
  have hw := hx.trimZ
  have ht := tr_trimZ x
  have htl := trimZ_len x
  rw [← vl_trimZ x]
  generalize trimZ x = t at *
  by_cases h1 : t.length = 1
  · obtain ⟨y, rfl⟩ : ∃ y, t = [y] := by
      match t, h1 with
      | [y], _ => exact ⟨y, rfl⟩
    have h0 := hw 0
    rw [co_zero] at h0
    have hl0 : wrap64 ((([y] : List Int).length : Int) - 1) = ((0 : Nat) : Int) := by rw [w64 (by simp) (by simp)]; rfl
    rw [hl0, vl_one]
    refine Ev.pos (by simp) (Ev.succ ?_)
    simp only [galoisref01_below.l0]
    refine Ev.pos (by omega) (Ev.pos (by omega) (Ev.pos (by simp) (Ev.pos (by simp) ?_)))
    show Ev (fun k => if y = (p : Int) then galoisref01_below.l0 k [y] [(p : Int)] (wrap64 (((0 : Nat) : Int) - 1)) else some (decide (y < (p : Int)))) _
    by_cases hy : y = (p : Int)
    · refine Ev.pos hy (Ev.succ ?_)
      simp only [galoisref01_below.l0]
      refine Ev.neg (by rw [w64 (by omega) (by omega)]; omega) (Ev.con ?_)
      rw [decide_eq_false (by omega)]
    · refine Ev.neg hy (Ev.con ?_)
      congr 1
      rw [decide_eq_decide]; omega
  · by_cases h0 : t = []
    · subst h0
      refine Ev.neg (by simp) (Ev.con ?_)
      rw [decide_eq_true (by simp), decide_eq_true (show vl B32 [] < p from hp0)]
    · have := List.length_pos_iff.2 h0
      refine Ev.neg (by simp; omega) (Ev.con ?_)
      rw [decide_eq_false (by simp; omega), decide_eq_false]
      intro hlt
      have := vl_len (B := B32) (by decide) ht hw (n := 1) (Nat.lt_of_lt_of_le (Nat.lt_trans hlt hp) (by decide))
      omega
theorem sub_digits {r0 r1 p g : Nat} (h0 : r0 < B32) (h1 : r1 < 65536) (hg : p * g ≤ r0 + B32 * r1) :
    ∃ a b : Nat, a < B32 ∧ b ≤ r1 ∧ a + B32 * b + p * g = r0 + B32 * r1 ∧
      ((r0 < p * g % B32 ∧ r0 + B32 - p * g % B32 = a ∧ r1 - (p * g / B32 + 1) = b ∧ p * g / B32 + 1 ≤ r1) ∨ (¬ r0 < p * g % B32 ∧ r0 - p * g % B32 = a ∧ r1 - p * g / B32 = b ∧ p * g / B32 ≤ r1)) := by
  generalize p * g = P at *
  have hd := Nat.div_add_mod P B32
  have hm : P % B32 < B32 := Nat.mod_lt _ B32_pos
  generalize P % B32 = lo at *
  generalize P / B32 = hi at *
  by_cases h : r0 < lo
  · refine ⟨r0 + B32 - lo, r1 - (hi + 1), ?_, by omega, ?_, .inl ⟨h, rfl, rfl, ?_⟩⟩ <;> simp only [B32] at * <;> omega
  · refine ⟨r0 - lo, r1 - hi, ?_, by omega, ?_, .inr ⟨h, rfl, rfl, ?_⟩⟩ <;> simp only [B32] at * <;> omega
theorem drop_set_ge (l : List Int) (m n : Nat) (y : Int) (h : n ≤ m) : (l.set m y).drop n = (l.drop n).set (m - n) y := by
  rw [List.drop_set, if_neg (by omega)]
theorem co_drop_ (l : List Int) (z i : Nat) : co (l.drop z) i = co l (z + i) := by simp [co, List.getElem?_drop]
theorem vl_two {l : List Int} {kk r0 r1 a b P : Nat} (hk : kk + 1 < l.length) (h0 : co l kk = (r0 : Int)) (h1 : co l (kk + 1) = (r1 : Int)) (h : a + B32 * b + P = r0 + B32 * r1) : vl B32 ((l.set kk (a : Int)).set (kk + 1) (b : Int)) + P * B32 ^ kk = vl B32 l := by
  have e1 := vl_set' (B := B32) kk l (a : Int) (by omega)
  have e2 := vl_set' (B := B32) (kk + 1) (l.set kk (a : Int)) (b : Int) (by rw [List.length_set]; exact hk)
  rw [co_set, if_neg (by omega), h1, Int.toNat_natCast, Int.toNat_natCast] at e2
  rw [h0, Int.toNat_natCast, Int.toNat_natCast] at e1
  have h2 := congrArg (fun z => z * B32 ^ kk) h
  simp only [Nat.add_mul] at h2
  have h3 : B32 * b * B32 ^ kk = b * B32 ^ (kk + 1) := by rw [Nat.pow_succ, Nat.mul_comm B32 b, Nat.mul_assoc, Nat.mul_comm B32]
  have h4 : B32 * r1 * B32 ^ kk = r1 * B32 ^ (kk + 1) := by rw [Nat.pow_succ, Nat.mul_comm B32 r1, Nat.mul_assoc, Nat.mul_comm B32]
  rw [h3, h4] at h2
  generalize vl B32 ((l.set kk (a : Int)).set (kk + 1) (b : Int)) = v2 at *
  generalize vl B32 (l.set kk (a : Int)) = v1 at *
  generalize r0 * B32 ^ kk = x0 at *
  generalize r1 * B32 ^ (kk + 1) = x1 at *
  generalize a * B32 ^ kk = x2 at *
  generalize b * B32 ^ (kk + 1) = x3 at *
  generalize P * B32 ^ kk = x4 at *
  omega
theorem and_low (x : Nat) (hx : x < 18446744073709551616) : Go.bits .and .u64 (x : Int) 4294967295 = ((x % B32 : Nat) : Int) := by
  have h := bits_mask .u64 64 (by decide) (fun m h2 h3 => by rw [IntKind.wrap_u64]; exact Int.emod_eq_of_lt h2 h3) 32 (by decide) (x : Int) (Int.natCast_nonneg _) (by omega)
  rw [show (2 : Int) ^ 32 - 1 = 4294967295 from rfl] at h
  rw [h]
  rfl
theorem ar1 {r1 bo : Nat} (h : bo ≤ r1) (h2 : r1 < 65536) : IntKind.u64.wrap ((r1 : Int) - (bo : Int)) = ((r1 - bo : Nat) : Int) := by rw [wrapu (by omega) (by omega)]; omega
theorem ar2 {r0 : Nat} (h : r0 < 4294967296) : IntKind.u64.wrap ((r0 : Int) + 4294967296) = ((r0 + 4294967296 : Nat) : Int) := by rw [wrapu (by omega) (by omega)]; omega
theorem ar3 {r0 lo a : Nat} (h : r0 < 4294967296) (hl : lo < 4294967296) (ha : r0 + 4294967296 - lo = a) : IntKind.u64.wrap (((r0 + 4294967296 : Nat) : Int) - (lo : Int)) = (a : Int) := by rw [wrapu (by omega) (by omega)]; omega
theorem ar4 {hi r1 : Nat} (h : hi + 1 ≤ r1) (h2 : r1 < 65536) : IntKind.u64.wrap ((hi : Int) + 1) = ((hi + 1 : Nat) : Int) := by rw [wrapu (by omega) (by omega)]; omega
theorem ar5 {r0 lo a : Nat} (h : r0 < 4294967296) (hl : ¬ r0 < lo) (ha : r0 - lo = a) : IntKind.u64.wrap ((r0 : Int) - (lo : Int)) = (a : Int) := by rw [wrapu (by omega) (by omega)]; omega
theorem dm_e1 {kk : Nat} (h : kk ≤ 100000) : wrap64 ((kk : Int) + 0) = (kk : Int) := by rw [w64 (by omega) (by omega), Int.add_zero]
theorem dm_e2 {kk : Nat} (h : kk ≤ 100000) : wrap64 ((kk : Int) + 1) = ((kk + 1 : Nat) : Int) := by rw [w64 (by omega) (by omega)]; rfl
theorem dm_sub {p kk r0 r1 g : Nat} (hp : p < 65536) {rest quo : List Int} (hw : Wd B32 rest) (hk : kk + 1 < rest.length) (hl : rest.length ≤ 100000) (h0 : co rest kk = (r0 : Int)) (h1 : co rest (kk + 1) = (r1 : Int)) (hr1 : r1 < 65536) (hg : p * g ≤ r0 + B32 * r1) {Q : ByteArray × ByteArray → Prop}
    (next : ∀ rest' : List Int, Wd B32 rest' → rest'.length = rest.length → vl B32 rest' + p * g * B32 ^ kk = vl B32 rest → vl B32 (rest'.drop kk) + p * g = vl B32 (rest.drop kk) → ∃ w, Ev (fun k => galoisref01_DivMod.l1 k [(p : Int)] 1 rest' quo (kk : Int)) w ∧ Q w) :
    ∃ w, Ev (fun k => galoisref01_DivMod.l2 k [(p : Int)] 1 rest quo (kk : Int) (g : Int) 0 0) w ∧ Q w := by
  have hr0 : r0 < B32 := by have := (hw kk).2; rw [h0] at this; exact Int.ofNat_lt.1 this
  obtain ⟨a, b, ha, hb, hab, hc⟩ := sub_digits hr0 hr1 hg
  have hpg : p * g < 18446744073709551616 := Nat.lt_of_le_of_lt hg (by simp only [B32] at *; omega)
  have hwd : Wd B32 ((rest.set kk (a : Int)).set (kk + 1) (b : Int)) := wd_set (wd_set hw ⟨Int.natCast_nonneg _, Int.ofNat_lt.2 ha⟩) ⟨Int.natCast_nonneg _, Int.ofNat_lt.2 (by simp only [B32] at *; omega)⟩
  have hdrop : ((rest.set kk (a : Int)).set (kk + 1) (b : Int)).drop kk = ((rest.drop kk).set 0 (a : Int)).set (0 + 1) (b : Int) := by
    rw [drop_set_ge _ _ _ _ (by omega), drop_set_ge _ _ _ _ (by omega), Nat.sub_self, Nat.add_sub_cancel_left]
  have hv1 := vl_two hk h0 h1 hab
  have hv2 := vl_two (l := rest.drop kk) (kk := 0) (r0 := r0) (r1 := r1) (by rw [List.length_drop]; omega) (by rw [co_drop_, Nat.add_zero]; exact h0) (by rw [co_drop_]; exact h1) hab
  rw [← hdrop, Nat.pow_zero, Nat.mul_one] at hv2
  obtain ⟨w, w1, w2⟩ := next _ hwd (by rw [List.length_set, List.length_set]) hv1 hv2
  have epg : IntKind.u64.wrap ((IntKind.u64.wrap ((rd [(p : Int)] 0) * (g : Int))) + 0) = ((p * g : Nat) : Int) := by
    rw [show rd [(p : Int)] 0 = (p : Int) from rfl, Int.add_zero, ← Int.natCast_mul, wrapu (Int.natCast_nonneg _) (Int.ofNat_lt.2 hpg), wrapu (Int.natCast_nonneg _) (Int.ofNat_lt.2 hpg)]
  have elow := and_low (p * g) hpg
  have ehi : ((p * g : Nat) : Int) / 4294967296 = ((p * g / B32 : Nat) : Int) := by rw [Int.natCast_ediv]; rfl
  have hkl : kk ≤ 100000 := Nat.le_trans (Nat.le_of_lt (Nat.lt_trans (Nat.lt_succ_self kk) hk)) hl
  have e1 := dm_e1 hkl
  have e2 := dm_e2 hkl
  have e3 : wrap64 (0 + 1) = 1 := w64 (by omega) (by omega)
  generalize hP : p * g = P at *
  -- the second round: the borrow is taken from the next digit
  have hlast : ∀ (t : List Int) (bo : Nat), t.length = rest.length → co t (kk + 1) = (r1 : Int) → bo ≤ r1 → t.set (kk + 1) ((r1 - bo : Nat) : Int) = (rest.set kk (a : Int)).set (kk + 1) (b : Int) → Ev (fun k => galoisref01_DivMod.l2 k [(p : Int)] 1 t quo (kk : Int) (g : Int) (bo : Int) 1) w := fun t bo ht hc hbo he => by
    refine Ev.succ ?_
    simp only [galoisref01_DivMod.l2]
    rw [e2, rd_co, Int.toNat_natCast, hc, ar1 hbo hr1, he]
    exact Ev.neg (by decide) (Ev.pos (Int.natCast_nonneg _) (Ev.pos (by rw [ht]; exact Int.ofNat_lt.2 hk) w1))
  refine ⟨w, Ev.succ ?_, w2⟩
  simp only [galoisref01_DivMod.l2]
  rw [epg, elow, ehi, e1, e3, rd_co, Int.toNat_natCast, h0]
  refine Ev.pos (by decide) (Ev.pos (by decide) (Ev.pos (by simp) (Ev.pos (Int.natCast_nonneg _) (Ev.pos (Int.ofNat_lt.2 (Nat.lt_trans (Nat.lt_succ_self kk) hk)) ?_))))
  have hset : ∀ y : Int, co (rest.set kk y) (kk + 1) = (r1 : Int) := fun y => by rw [co_set, if_neg (fun h => by have := h.1; omega)]; exact h1
  have hlB : P % B32 < B32 := Nat.mod_lt _ B32_pos
  rcases hc with ⟨c1, c2, c3, c4⟩ | ⟨c1, c2, c3, c4⟩
  · refine Ev.pos (Int.ofNat_lt.2 c1) (Ev.cbind rfl ?_)
    rw [ar2 hr0, rd_co, Int.toNat_natCast, co_set, if_pos ⟨rfl, Nat.lt_trans (Nat.lt_succ_self kk) hk⟩, ar3 hr0 hlB c2, ar4 c4 hr1, List.set_set]
    exact hlast _ _ (by rw [List.length_set]) (hset _) c4 (by rw [c3])
  · refine Ev.neg (fun h => c1 (Int.ofNat_lt.1 h)) ?_
    rw [ar5 hr0 c1 c2]
    exact hlast _ _ (by rw [List.length_set]) (hset _) c4 (by rw [c3])
theorem wd_drop {B : Nat} {l : List Int} (h : Wd B l) (n : Nat) : Wd B (l.drop n) := fun i => by rw [co_drop_]; exact h _
theorem two_low {l : List Int} {kk p : Nat} (hw : Wd B32 l) (hk : kk + 1 < l.length) (hp : p < 65536) (h : vl B32 (l.drop kk) < p * B32) : ∃ r0 r1 : Nat, co l kk = (r0 : Int) ∧ co l (kk + 1) = (r1 : Int) ∧ r0 < B32 ∧ r1 < 65536 ∧ vl B32 (l.drop kk) = r0 + B32 * r1 := by
  have h0 := hw kk
  have h1 := hw (kk + 1)
  obtain ⟨r0, e0⟩ : ∃ r : Nat, co l kk = (r : Int) := ⟨_, (Int.toNat_of_nonneg h0.1).symm⟩
  obtain ⟨r1, e1⟩ : ∃ r : Nat, co l (kk + 1) = (r : Int) := ⟨_, (Int.toNat_of_nonneg h1.1).symm⟩
  have v0 := vl_drop (B := B32) (a := l) (i := kk) (by omega)
  have v1 := vl_drop (B := B32) (a := l) (i := kk + 1) hk
  rw [e0, Int.toNat_natCast] at v0
  rw [e1, Int.toNat_natCast] at v1
  rw [e0] at h0
  have h02 := Int.ofNat_lt.1 h0.2
  generalize vl B32 (l.drop (kk + 1 + 1)) = t at *
  generalize vl B32 (l.drop (kk + 1)) = u at *
  generalize vl B32 (l.drop kk) = R at *
  clear h0 h1 hw
  have hu : u < p := by simp only [B32] at *; omega
  have ht : t = 0 := by simp only [B32] at *; omega
  refine ⟨r0, r1, e0, e1, h02, ?_, ?_⟩ <;> subst ht <;> simp only [B32] at * <;> omega
structure Dm (p m kk V : Nat) (rest quo : List Int) : Prop where
  rw_ : Wd B32 rest
  rl : rest.length = m + 1
  qw : Wd B32 quo
  ql : quo.length = m
  tot : vl B32 quo * p + vl B32 rest = V
  low : ∀ i, i < kk → co quo i = 0
  loc : (co quo kk).toNat * p + vl B32 (rest.drop kk) < p * B32
theorem dm_guess {R p : Nat} (hp : 0 < p) (h : ¬ R < p) : p * (max 1 (R / (p + 1))) ≤ R := by
  have h1 := Nat.div_mul_le_self R (p + 1)
  by_cases hc : 1 ≤ R / (p + 1)
  · rw [Nat.max_eq_right hc]
    generalize R / (p + 1) = g at *
    rw [Nat.mul_add, Nat.mul_one, Nat.mul_comm] at h1
    omega
  · rw [Nat.max_eq_left (by omega)]; omega
theorem dm_q {q g p R : Nat} (hp : 0 < p) (hl : q * p + R < p * B32) (hg : p * g ≤ R) : q + g < B32 := by
  refine Nat.lt_of_mul_lt_mul_left (a := p) ?_
  rw [Nat.mul_add, Nat.mul_comm p q]
  omega
theorem dm_guess_is {r0 r1 p R : Nat} (hr0 : r0 < B32) (hr1 : r1 < 65536) (hp : p < 65536) (hR : R = r0 + B32 * r1) :
    mx 1 (IntKind.u64.wrap (Int.tdiv (IntKind.u64.wrap ((IntKind.u64.wrap ((r1 : Int) * 4294967296)) + (r0 : Int))) (IntKind.u64.wrap ((p : Int) + 1)))) = ((max 1 (R / (p + 1)) : Nat) : Int) := by
  have hR2 : R < 18446744073709551616 := by simp only [B32] at *; omega
  rw [wrapu (x := (r1 : Int) * 4294967296) (by omega) (by omega), show (r1 : Int) * 4294967296 + (r0 : Int) = (R : Int) from by simp only [B32] at *; omega, wrapu (x := (R : Int)) (by omega) (by omega), wrapu (x := (p : Int) + 1) (by omega) (by omega), show (p : Int) + 1 = ((p + 1 : Nat) : Int) from rfl, ← Int.ofNat_tdiv]
  have hd : R / (p + 1) ≤ R := Nat.div_le_self _ _
  generalize R / (p + 1) = d at *
  rw [wrapu (x := (d : Int)) (by omega) (by omega)]
  unfold mx
  split <;> omega
theorem dm_e4 {kk : Nat} (h : kk ≤ 100000) : wrap64 (((kk + 1 : Nat) : Int) - 1) = (kk : Int) := by rw [w64 (by omega) (by omega)]; omega
theorem dm_e5 : wrap64 ((1 : Int) - 1) = 0 := w64 (by omega) (by omega)
theorem dm_e6 {p : Nat} (h : p < 65536) : IntKind.u64.wrap ((p : Int) + 1) = (p : Int) + 1 := wrapu (by omega) (by omega)
theorem dm_e7 {q g : Nat} (h : q + g < 4294967296) : IntKind.u64.wrap ((q : Int) + (g : Int)) = ((q + g : Nat) : Int) := by rw [wrapu (by omega) (by omega)]; rfl
theorem dm_e8 (p : Nat) : ¬ (p : Int) + 1 = 0 := by omega
theorem dm_inner {p m kk V : Nat} (hp0 : 0 < p) (hp : p < 65536) (hk : kk < m) (hm : m ≤ 90000) {Q : ByteArray × ByteArray → Prop}
    (next : ∀ rest quo, Dm p m kk V rest quo → vl B32 (rest.drop kk) < p → ∃ w, Ev (fun k => galoisref01_DivMod.l0 k [(p : Int)] 1 rest quo ((kk : Int) - 1)) w ∧ Q w) :
    ∀ (n : Nat) (rest quo : List Int), vl B32 (rest.drop kk) ≤ n → Dm p m kk V rest quo → ∃ w, Ev (fun k => galoisref01_DivMod.l1 k [(p : Int)] 1 rest quo (kk : Int)) w ∧ Q w := by
  intro n
  induction n using Nat.strongRecOn with
  | _ n ih =>
    intro rest quo hn hd
    have hlen := hd.rl
    have hdl : (rest.drop kk).length ≤ 100000 := by rw [List.length_drop, hlen]; clear ih hn; omega
    have hbel := below_is (wd_drop hd.rw_ kk) hdl hp0 hp
    have hkl : (kk : Int) ≤ (rest.length : Int) := by omega
    by_cases hlt : vl B32 (rest.drop kk) < p
    · obtain ⟨w, w1, w2⟩ := next rest quo hd hlt
      refine ⟨w, Ev.succ ?_, w2⟩
      simp only [galoisref01_DivMod.l1]
      rw [Int.toNat_natCast]
      rw [decide_eq_true hlt] at hbel
      refine Ev.pos (by omega) (Ev.pos hkl (Ev.bind hbel (Ev.pos rfl ?_)))
      rw [w64 (x := (kk : Int) - 1) (by omega) (by omega)]
      exact w1
    · have hloc := hd.loc
      obtain ⟨r0, r1, e0, e1, hr0, hr1, hR⟩ := two_low hd.rw_ (kk := kk) (by rw [hlen]; exact Nat.succ_lt_succ hk) hp (Nat.lt_of_le_of_lt (Nat.le_add_left _ _) hloc)
      obtain ⟨q, eq⟩ : ∃ q : Nat, co quo kk = (q : Int) := ⟨_, (Int.toNat_of_nonneg (hd.qw kk).1).symm⟩
      rw [eq, Int.toNat_natCast] at hloc
      have hguess := dm_guess hp0 hlt
      have egs := dm_guess_is hr0 hr1 hp hR
      obtain ⟨g, hg⟩ : ∃ g, max 1 (vl B32 (rest.drop kk) / (p + 1)) = g := ⟨_, rfl⟩
      rw [hg] at hguess egs
      have hg1 : 1 ≤ g := by rw [← hg]; exact Nat.le_max_left _ _
      clear hg
      have hq := dm_q hp0 hloc hguess
      have hpg : 1 ≤ p * g := Nat.mul_pos hp0 hg1
      obtain ⟨w, w1, w2⟩ := dm_sub (p := p) (kk := kk) (r0 := r0) (r1 := r1) (g := g) hp (rest := rest) (quo := quo.set kk ((q + g : Nat) : Int)) hd.rw_ (by omega) (by omega) e0 e1 hr1 (by rw [← hR]; exact hguess) (Q := Q) (fun rest' a1 a2 a3 a4 => by
        refine ih (vl B32 (rest'.drop kk)) (by omega) rest' _ (Nat.le_refl _) ⟨a1, by omega, wd_set hd.qw ⟨by omega, Int.ofNat_lt.2 hq⟩, by rw [List.length_set, hd.ql], ?_, fun i hi => by rw [co_set, if_neg (by omega)]; exact hd.low i hi, ?_⟩
        · have hs := vl_set' (B := B32) kk quo ((q + g : Nat) : Int) (by rw [hd.ql]; exact hk)
          rw [eq, Int.toNat_natCast, Int.toNat_natCast] at hs
          have ht := hd.tot
          have hs2 := congrArg (fun z => z * p) hs
          simp only [Nat.add_mul] at hs2
          have e3 : g * B32 ^ kk * p = p * g * B32 ^ kk := by rw [Nat.mul_comm (g * B32 ^ kk) p, Nat.mul_assoc]
          rw [e3] at hs2
          clear hs egs hguess hloc e3 hR
          generalize p * g * B32 ^ kk = y1 at *
          generalize q * B32 ^ kk * p = y2 at *
          generalize vl B32 (quo.set kk ((q + g : Nat) : Int)) * p = y3 at *
          generalize vl B32 quo * p = y4 at *
          generalize vl B32 rest = y5 at *
          generalize vl B32 rest' = y6 at *
          omega
        · rw [co_set, if_pos ⟨rfl, by rw [hd.ql]; exact hk⟩, Int.toNat_natCast, Nat.add_mul, Nat.mul_comm g p]
          omega)
      refine ⟨w, Ev.succ ?_, w2⟩
      simp only [galoisref01_DivMod.l1]
      rw [Int.toNat_natCast]
      rw [decide_eq_false hlt] at hbel
      refine Ev.pos (by omega) (Ev.pos hkl (Ev.bind hbel (Ev.neg (by decide) ?_)))
      have hk9 : kk ≤ 100000 := Nat.le_trans (Nat.le_of_lt hk) (Nat.le_trans hm (by decide))
      have f1 := dm_e2 hk9
      have f2 := dm_e4 hk9
      have f4 : rd [(p : Int)] 0 = (p : Int) := rfl
      have f5 := dm_e6 hp
      have f6 := dm_e7 hq
      rw [f1, f2, dm_e5, f4, rd_co, rd_co, rd_co, Int.toNat_natCast, Int.toNat_natCast, e0, e1, eq, egs, f6, f5]
      refine Ev.pos (Int.natCast_nonneg _) (Ev.pos (by rw [hlen]; exact Int.ofNat_lt.2 (Nat.succ_lt_succ hk)) (Ev.pos (Int.natCast_nonneg _) (Ev.pos (by rw [hlen]; exact Int.ofNat_lt.2 (Nat.lt_succ_of_lt hk)) (Ev.pos (Int.le_refl _) (Ev.pos (by simp) (Ev.neg (dm_e8 p) (Ev.pos (by rw [hd.ql]; exact Int.ofNat_lt.2 hk) w1)))))))
theorem dm_rows {p m V : Nat} (hp0 : 0 < p) (hp : p < 65536) (hm : m ≤ 90000) {Q : ByteArray × ByteArray → Prop}
    (next : ∀ rest quo, Wd B32 rest → rest.length = m + 1 → Wd B32 quo → quo.length = m → vl B32 quo * p + vl B32 rest = V → vl B32 rest < p → ∃ w, Ev (fun k => galoisref01_DivMod.l0 k [(p : Int)] 1 rest quo (-1)) w ∧ Q w) :
    ∀ (kk : Nat) (rest quo : List Int), kk < m → Dm p m kk V rest quo → ∃ w, Ev (fun k => galoisref01_DivMod.l1 k [(p : Int)] 1 rest quo (kk : Int)) w ∧ Q w := by
  intro kk
  induction kk with
  | zero =>
    intro rest quo hk hd
    exact dm_inner hp0 hp hk hm (fun rest quo hd hlt => next rest quo hd.rw_ hd.rl hd.qw hd.ql hd.tot (by rw [List.drop_zero] at hlt; exact hlt)) _ rest quo (Nat.le_refl _) hd
  | succ kk ih =>
    intro rest quo hk hd
    refine dm_inner hp0 hp hk hm (fun rest quo hd hlt => ?_) _ rest quo (Nat.le_refl _) hd
    obtain ⟨w, w1, w2⟩ := ih rest quo (by omega) ⟨hd.rw_, hd.rl, hd.qw, hd.ql, hd.tot, fun i hi => hd.low i (by omega), by
      rw [hd.low kk (by omega), vl_drop (by rw [hd.rl]; omega)]
      have hc := (hd.rw_ kk)
      obtain ⟨c, e⟩ : ∃ c : Nat, co rest kk = (c : Int) := ⟨_, (Int.toNat_of_nonneg hc.1).symm⟩
      rw [e] at hc
      have h2 := Int.ofNat_lt.1 hc.2
      rw [e, Int.toNat_natCast]
      generalize vl B32 (rest.drop (kk + 1)) = u at *
      clear hc ih next
      show (0 : Int).toNat * p + _ < _
      rw [show (0 : Int).toNat = 0 from rfl, Nat.zero_mul]
      simp only [B32] at *
      omega⟩
    refine ⟨w, Ev.succ ?_, w2⟩
    simp only [galoisref01_DivMod.l0]
    rw [show ((kk + 1 : Nat) : Int) - 1 = (kk : Int) from by omega]
    exact Ev.pos (by omega) w1
theorem DivMod01_is {a b : ByteArray} (ha : a.size ≤ 10000) (hb : b.size ≤ 1000) {p : Nat} (hp0 : 0 < p) (hp : p < 65536) (hbp : nb b = p) :
    ∃ q r, Ev (fun k => galoisref01_DivMod.f k a b) (q, r) ∧ Nf r ∧ nb r = nb a % p ∧ q.size ≤ 20000 ∧ r.size ≤ 20000 := by
  obtain ⟨x, x1, x2, x3, x4, x5⟩ := limbs_is (e := a) (by omega)
  obtain ⟨y, y1, y2, y3, y4, y5⟩ := limbs_is (e := b) (by omega)
  have hy : y = [(p : Int)] := by
    have h := vl_inj B32_pos y2 (tr_one (x := (p : Int)) (by omega)) y3 (wd_one B32_pos (by omega) (by simp only [B32]; omega)) (by rw [y4, vl_one, Int.toNat_natCast, hbp])
    exact h
  subst hy
  have hbn : ¬ b.toList = [] := fun h => by
    rw [toList_nil] at h
    rw [nb_zero h] at hbp
    omega
  have hrun : ∃ w, Ev (fun k => galoisref01_DivMod.l0 k [(p : Int)] 1 (x ++ [0]) (List.replicate x.length 0) ((x.length : Int) - 1)) w ∧ (Nf w.2 ∧ nb w.2 = nb a % p ∧ w.1.size ≤ 20000 ∧ w.2.size ≤ 20000) := by
    have next : ∀ rest quo, Wd B32 rest → rest.length = x.length + 1 → Wd B32 quo → quo.length = x.length → vl B32 quo * p + vl B32 rest = nb a → vl B32 rest < p → ∃ w, Ev (fun k => galoisref01_DivMod.l0 k [(p : Int)] 1 rest quo (-1)) w ∧ (Nf w.2 ∧ nb w.2 = nb a % p ∧ w.1.size ≤ 20000 ∧ w.2.size ≤ 20000) := fun rest quo a1 a2 a3 a4 a5 a6 => by
      obtain ⟨q, q1, q2, q3, q4⟩ := rpack_is (x := quo) (by omega) a3
      obtain ⟨r, r1, r2, r3, r4⟩ := rpack_is (x := rest) (by omega) a1
      refine ⟨(q, r), Ev.succ ?_, r2, ?_, by show q.size ≤ _; omega, by show r.size ≤ _; omega⟩
      · simp only [galoisref01_DivMod.l0]
        exact Ev.neg (by omega) (Ev.bind q1 (Ev.bind r1 (Ev.con rfl)))
      · show nb r = _
        rw [r3, ← a5, Nat.add_comm, Nat.add_mul_mod_self_right, Nat.mod_eq_of_lt a6]
    have hwx : Wd B32 (x ++ [0]) := wd_append x3 (wd_one B32_pos (by omega) (by simp only [B32]; omega))
    have hvx : vl B32 (x ++ [0]) = nb a := by rw [vl_append, vl_one, x4]; show _ + _ * 0 = _; rw [Nat.mul_zero, Nat.add_zero]
    by_cases hx : x.length = 0
    · obtain rfl : x = [] := List.length_eq_zero_iff.1 hx
      have hz : nb a = 0 := by rw [← x4]; rfl
      refine next [0] [] hwx rfl (wd_nil B32_pos) rfl ?_ ?_
      · rw [hz]; rw [hz] at hvx; rw [show vl B32 [0] = 0 from rfl, show vl B32 [] = 0 from rfl]; omega
      · rw [show vl B32 [0] = 0 from rfl]; exact hp0
    · obtain ⟨w, w1, w2⟩ := dm_rows (V := nb a) hp0 hp (m := x.length) (by omega) next (x.length - 1) (x ++ [0]) (List.replicate x.length 0) (by omega) ⟨hwx, by simp, wd_replicate B32_pos _, List.length_replicate, by rw [vl_replicate, Nat.zero_mul, Nat.zero_add, hvx], fun i _ => co_replicate _ _, by
        rw [co_replicate, vl_drop (by simp; omega), show x.length - 1 + 1 = x.length from by omega, List.drop_append_of_le_length (Nat.le_refl _), List.drop_length, List.nil_append, co_append_left (by omega)]
        have hc := x3 (x.length - 1)
        rw [show vl B32 [0] = 0 from rfl]
        show (0 : Int).toNat * p + _ < _
        rw [show (0 : Int).toNat = 0 from rfl, Nat.zero_mul]
        clear next hwx hvx x1 y1 hbp
        simp only [B32] at *
        omega⟩
      refine ⟨w, Ev.succ ?_, w2⟩
      simp only [galoisref01_DivMod.l0]
      rw [show ((x.length - 1 : Nat) : Int) = (x.length : Int) - 1 from by omega] at w1
      exact Ev.pos (by omega) w1
  obtain ⟨⟨q, r⟩, w1, w2, w3, w4, w5⟩ := hrun
  refine ⟨q, r, ?_, w2, w3, w4, w5⟩
  unfold galoisref01_DivMod.f
  have hmx : mx 0 (wrap64 ((wrap64 ((x.length : Int) - (([(p : Int)] : List Int).length : Int))) + 1)) = (x.length : Int) := by
    have e1 : (([(p : Int)] : List Int).length : Int) = 1 := rfl
    rw [e1, w64 (x := (x.length : Int) - 1) (by omega) (by omega), w64 (by omega) (by omega)]
    unfold mx
    split <;> omega
  refine Ev.neg hbn (Ev.bind x1 (Ev.bind y1 (Ev.pos (by omega) ?_)))
  rw [hmx, Int.toNat_natCast]
  refine Ev.pos (by omega) (Ev.pos (by omega) (Ev.cbind rfl ?_))
  rw [List.length_replicate, w64 (x := (x.length : Int) - 1) (by omega) (by omega)]
  exact w1
def hv : List UInt8 → Nat
  | [] => 0
  | a :: l => a.toNat * p8 l.length + hv l
theorem hv_snoc (l : List UInt8) (b : UInt8) : hv (l ++ [b]) = hv l * 256 + b.toNat := by
  induction l with
  | nil => show b.toNat * p8 0 + 0 = 0 * 256 + b.toNat; rw [p8_zero]; omega
  | cons a l ih =>
    show a.toNat * p8 (l ++ [b]).length + hv (l ++ [b]) = (a.toNat * p8 l.length + hv l) * 256 + b.toNat
    rw [ih, List.length_append, show l.length + ([b] : List UInt8).length = l.length + 1 from rfl, show p8 (l.length + 1) = p8 l.length * 256 from (p8_succ _).symm, Nat.add_mul, Nat.mul_assoc, Nat.add_assoc]
theorem hv_lt : ∀ l : List UInt8, hv l < p8 l.length := by
  intro l
  induction l with
  | nil => show 0 < p8 0; rw [p8_zero]; omega
  | cons a l ih =>
    have ha : a.toNat < 256 := a.toNat_lt
    show a.toNat * p8 l.length + hv l < p8 (l.length + 1)
    rw [show p8 (l.length + 1) = p8 l.length * 256 from (p8_succ _).symm, Nat.mul_comm (p8 l.length) 256]
    have : (a.toNat + 1) * p8 l.length ≤ 256 * p8 l.length := Nat.mul_le_mul_right _ ha
    rw [Nat.add_mul, Nat.one_mul] at this
    omega
theorem numB_hv (e : ByteArray) : ∀ i, i ≤ e.size → numB e i = hv (e.data.toList.take i) := by
  intro i
  induction i with
  | zero => intro _; rfl
  | succ i ih =>
    intro hi
    have hl : i < e.data.toList.length := by rw [Array.length_toList]; exact hi
    rw [List.take_succ_eq_append_getElem hl, hv_snoc, ← ih (by omega)]
    show numB e i * 256 + (bt e (i : Int)).toNat = _
    congr 1
    unfold bt
    rw [dif_pos (show ((i : Int)).toNat < e.size from by rw [Int.toNat_natCast]; omega), Int.toNat_natCast]
    simp only [Int.toNat_natCast, Array.getElem_toList]
    rfl
theorem nb_hv (e : ByteArray) : nb e = hv e.data.toList := by
  unfold nb
  rw [numB_hv e _ (Nat.le_refl _), List.take_of_length_le (by simp)]
theorem less_hv : ∀ (x y : List UInt8), x.length = y.length → Op.bytesLess x y = true → hv x < hv y := by
  intro x
  induction x with
  | nil =>
    intro y h hb
    obtain rfl : y = [] := List.length_eq_zero_iff.1 h.symm
    exact absurd hb (by decide)
  | cons a x ih =>
    intro y h hb
    cases y with
    | nil => simp at h
    | cons b y =>
      have hl : x.length = y.length := by simpa using h
      simp only [Op.bytesLess, Bool.or_eq_true, decide_eq_true_iff, Bool.and_eq_true, beq_iff_eq] at hb
      show a.toNat * p8 x.length + hv x < b.toNat * p8 y.length + hv y
      rw [hl]
      rcases hb with h1 | ⟨h1, h2⟩
      · have h3 : a.toNat + 1 ≤ b.toNat := UInt8.lt_iff_toNat_lt.1 h1
        have h4 := Nat.mul_le_mul_right (p8 y.length) h3
        rw [Nat.add_mul, Nat.one_mul] at h4
        have := hv_lt x
        rw [hl] at this
        omega
      · have := ih y hl h2
        rw [h1]; omega
theorem Compare_ge {a b : ByteArray} (hb : Nf b) (h : nb b ≤ nb a) : ∃ c : Int, ¬ c < 0 ∧ Ev (fun k => galoisref01_Compare.f k a b) c := by
  have hs : ¬ (a.size : Int) < (b.size : Int) := fun hlt => by
    have h1 := nb_size hb (n := a.size) (Nat.lt_of_le_of_lt h (numB_lt a a.size))
    omega
  have hlast : ∃ c : Int, ¬ c < 0 ∧ Ev (fun k => galoisref01_Compare.j0 k a b false) c := by
    by_cases he : a.toList = b.toList
    · refine ⟨0, by decide, Ev.succ ?_⟩
      simp only [galoisref01_Compare.j0]
      exact Ev.neg (by decide) (Ev.pos he (Ev.con rfl))
    · refine ⟨1, by decide, Ev.succ ?_⟩
      simp only [galoisref01_Compare.j0]
      exact Ev.neg (by decide) (Ev.neg he (Ev.con rfl))
  obtain ⟨c, c1, c2⟩ := hlast
  refine ⟨c, c1, ?_⟩
  unfold galoisref01_Compare.f
  refine Ev.neg hs ?_
  by_cases he : (a.size : Int) = (b.size : Int)
  · have hless : Op.bytesLess a.toList b.toList = false := by
      rw [Lib.toList_data, Lib.toList_data]
      cases hc : Op.bytesLess a.data.toList b.data.toList with
      | false => rfl
      | true =>
        have := less_hv _ _ (by simp; exact Int.ofNat.inj he) hc
        rw [← nb_hv, ← nb_hv] at this
        omega
    rw [hless]
    exact Ev.pos he c2
  · exact Ev.neg he c2
theorem Of01_is {p : Nat} (hp : p < 65536) : ∃ e, Ev (fun k => galoisref01_Of.f k (p : Int)) e ∧ Nf e ∧ nb e = p ∧ e.size ≤ 8 := by
  have h1 : Go.bits .and .u64 (p : Int) 4294967295 = (p : Int) := by
    rw [and_low p (Nat.lt_of_lt_of_le hp (by decide)), Nat.mod_eq_of_lt (Nat.lt_of_lt_of_le hp (by decide))]
  have h2 : (p : Int) / 4294967296 = 0 := by omega
  have hw : Wd B32 [(p : Int), 0] := Wd.cons (by omega) (by simp only [B32]; omega) (wd_one B32_pos (by omega) (by simp only [B32]; omega))
  obtain ⟨e, e1, e2, e3, e4⟩ := rpack_is (x := [(p : Int), 0]) (by simp) hw
  refine ⟨e, ?_, e2, ?_, by simpa using e4⟩
  · unfold galoisref01_Of.f
    rw [h1, h2]
    exact Ev.bind e1 (Ev.con rfl)
  · rw [e3]
    show (p : Int).toNat + B32 * vl B32 [0] = p
    rw [show vl B32 [0] = 0 from rfl, Int.toNat_natCast]; omega
theorem one_digit {w : List Int} (hw : Wd B32 w) (ht : Tr w) {p : Nat} (hp : p < 65536) (hp0 : 0 < p) (hv : vl B32 w = p) : w = [(p : Int)] :=
  vl_inj B32_pos ht (tr_one (x := (p : Int)) (by omega)) hw (wd_one B32_pos (by omega) (by simp only [B32]; omega)) (by rw [hv, vl_one, Int.toNat_natCast])
theorem Sub01_is {b r : ByteArray} (hb : b.size ≤ 1000) (hr : r.size ≤ 1000) (hn : Nf r) {p t : Nat} (hp : p < 65536) (ht0 : 0 < t) (htp : t < p) (hbp : nb b = p) (hrt : nb r = t) :
    ∃ u, Ev (fun k => galoisref01_Sub.f k b r) u ∧ Nf u ∧ nb u = p - t ∧ u.size ≤ 8 := by
  obtain ⟨c, c1, c2⟩ := Compare_ge (a := b) (b := r) hn (by omega)
  obtain ⟨x, x1, x2, x3, x4, x5⟩ := limbs_is (e := b) (by omega)
  obtain ⟨y, y1, y2, y3, y4, y5⟩ := limbs_is (e := r) (by omega)
  have hx := one_digit x3 x2 hp (by omega) (x4.trans hbp)
  have hy := one_digit y3 y2 (p := t) (by omega) ht0 (y4.trans hrt)
  subst hx hy
  have hw : Wd B32 [((p - t : Nat) : Int)] := wd_one B32_pos (by omega) (by simp only [B32]; omega)
  obtain ⟨e, e1, e2, e3, e4⟩ := rpack_is (x := [((p - t : Nat) : Int)]) (by simp) hw
  refine ⟨e, ?_, e2, by rw [e3, vl_one, Int.toNat_natCast], Nat.le_trans e4 (by simp)⟩
  unfold galoisref01_Sub.f
  refine Ev.bind c2 (Ev.neg c1 (Ev.bind x1 (Ev.bind y1 (Ev.succ ?_))))
  simp only [galoisref01_Sub.l0]
  have f1 : IntKind.u64.wrap (0 + rd [(t : Int)] 0) = (t : Int) := by rw [show rd [(t : Int)] 0 = (t : Int) from rfl, wrapu (by omega) (by omega)]; omega
  have f2 : rd [(p : Int)] 0 = (p : Int) := rfl
  have f3 : IntKind.u64.wrap ((p : Int) - (t : Int)) = ((p - t : Nat) : Int) := by rw [wrapu (by omega) (by omega)]; omega
  have f4 : wrap64 ((0 : Int) + 1) = 1 := w64 (by omega) (by omega)
  rw [f1, f2, f3, f4]
  refine Ev.pos (by simp) (Ev.pos (by simp) (Ev.pos (by omega) (Ev.neg (by omega) ?_)))
  refine Ev.succ ?_
  simp only [galoisref01_Sub.l0]
  exact Ev.neg (by simp) (Ev.bind e1 (Ev.con rfl))
theorem Add01_loop {x y : List Int} (hl : x.length ≤ 40000 ∧ y.length ≤ 40000) : ∀ (d i : Nat) (o : List Int) (c : Int), i + d = max x.length y.length → o.length ≤ i → (∀ j, 0 ≤ co o j) → 0 ≤ c ∧ c < 4294967296 → ∃ e, Ev (fun k => galoisref01_Add.l0 k x y o c (i : Int)) e := by
  have hand : ∀ s : Int, 0 ≤ s → s < 18446744073709551616 → 0 ≤ Go.bits .and .u64 s 4294967295 := fun s h0 h1 => by
    have := and_low s.toNat (by omega)
    rw [Int.toNat_of_nonneg h0] at this
    rw [this]; exact Int.natCast_nonneg _
  have hwr : ∀ s : Int, 0 ≤ IntKind.u64.wrap s ∧ IntKind.u64.wrap s < 18446744073709551616 := fun s => by rw [IntKind.wrap_u64]; omega
  have happ : ∀ (o : List Int) (a : Int), (∀ j, 0 ≤ co o j) → 0 ≤ a → ∀ j, 0 ≤ co (o ++ [a]) j := fun o a ho ha j => by
    by_cases h1 : j < o.length
    · rw [co_append_left h1]; exact ho j
    · by_cases h2 : j = o.length
      · rw [h2]; simp [co]; exact ha
      · rw [co_ge (by simp; omega)]; exact Int.le_refl _
  have hend : ∀ (i : Nat) (o : List Int), max x.length y.length ≤ i → o.length ≤ 100000 → (∀ j, 0 ≤ co o j) → ∃ e, Ev (fun k => galoisref01_Add.l0 k x y o 0 (i : Int)) e := fun i o hi ho hp => by
    obtain ⟨e, e1, e2⟩ := rpack_low (x := o) ho hp
    refine ⟨e, Ev.succ ?_⟩
    simp only [galoisref01_Add.l0]
    refine Ev.neg (by omega) (Ev.neg (by omega) ?_)
    rw [show decide ((0 : Int) > 0) = false from rfl]
    refine Ev.succ ?_
    simp only [galoisref01_Add.j1]
    exact Ev.neg (by decide) (Ev.bind e1 (Ev.con rfl))
  intro d
  induction d with
  | zero =>
    intro i o c hi ho hp hc
    by_cases h0 : c = 0
    · rw [h0]; exact hend i o (by omega) (by omega) hp
    · obtain ⟨e, e1⟩ := hend (i + 1) (o ++ [Go.bits .and .u64 c 4294967295]) (by omega) (by simp; omega) (happ _ _ hp (hand c hc.1 (by omega)))
      refine ⟨e, Ev.succ ?_⟩
      simp only [galoisref01_Add.l0]
      refine Ev.neg (by omega) (Ev.neg (by omega) ?_)
      rw [decide_eq_true (show c > 0 from by omega)]
      refine Ev.succ ?_
      simp only [galoisref01_Add.j1]
      rw [show c / 4294967296 = 0 from by omega, w64 (x := (i : Int) + 1) (by omega) (by omega)]
      exact Ev.pos (by trivial) (Ev.neg (by omega) (Ev.neg (by omega) (Ev.pos (by omega) e1)))
  | succ d ih =>
    intro i o c hi ho hp hc
    have hstep : ∀ s : Int, ∃ e, Ev (fun k => galoisref01_Add.l0 k x y (o ++ [Go.bits .and .u64 (IntKind.u64.wrap s) 4294967295]) (IntKind.u64.wrap s / 4294967296) (wrap64 ((i : Int) + 1))) e := fun s => by
      have hs := hwr s
      obtain ⟨e, e1⟩ := ih (i + 1) (o ++ [Go.bits .and .u64 (IntKind.u64.wrap s) 4294967295]) (IntKind.u64.wrap s / 4294967296) (by omega) (by simp; omega) (happ _ _ hp (hand _ hs.1 hs.2)) ⟨by omega, by omega⟩
      refine ⟨e, ?_⟩
      rw [w64 (x := (i : Int) + 1) (by omega) (by omega)]
      exact e1
    have hj : ∃ e, Ev (fun k => galoisref01_Add.j1 k x y o c (i : Int) true) e := by
      by_cases h1 : (i : Int) < (x.length : Int)
      · by_cases h2 : (i : Int) < (y.length : Int)
        · obtain ⟨e, e1⟩ := hstep ((IntKind.u64.wrap (c + (rd x (i : Int)))) + (rd y (i : Int)))
          refine ⟨e, Ev.succ ?_⟩
          simp only [galoisref01_Add.j1]
          exact Ev.pos (by trivial) (Ev.pos h1 (Ev.pos (by omega) (Ev.pos h2 (Ev.pos (by omega) e1))))
        · obtain ⟨e, e1⟩ := hstep (c + (rd x (i : Int)))
          refine ⟨e, Ev.succ ?_⟩
          simp only [galoisref01_Add.j1]
          exact Ev.pos (by trivial) (Ev.pos h1 (Ev.pos (by omega) (Ev.neg h2 (Ev.pos (by omega) e1))))
      · have h2 : (i : Int) < (y.length : Int) := by omega
        obtain ⟨e, e1⟩ := hstep (c + (rd y (i : Int)))
        refine ⟨e, Ev.succ ?_⟩
        simp only [galoisref01_Add.j1]
        exact Ev.pos (by trivial) (Ev.neg h1 (Ev.pos h2 (Ev.pos (by omega) (Ev.pos (by omega) e1))))
    obtain ⟨e, e1⟩ := hj
    refine ⟨e, Ev.succ ?_⟩
    simp only [galoisref01_Add.l0]
    by_cases h1 : (i : Int) < (x.length : Int)
    · exact Ev.pos h1 e1
    · exact Ev.neg h1 (Ev.pos (by omega) e1)
theorem Add01_ex {a b : ByteArray} (ha : a.size ≤ 100000) (hb : b.size ≤ 100000) : ∃ e, Ev (fun k => galoisref01_Add.f k a b) e := by
  obtain ⟨x, x1, x2, x3, x4, x5⟩ := limbs_is ha
  obtain ⟨y, y1, y2, y3, y4, y5⟩ := limbs_is hb
  obtain ⟨e, e1⟩ := Add01_loop (x := x) (y := y) ⟨by omega, by omega⟩ (max x.length y.length) 0 [] 0 (by omega) (by simp) (fun j => by rw [co_nil]; exact Int.le_refl _) ⟨by omega, by omega⟩
  refine ⟨e, ?_⟩
  unfold galoisref01_Add.f
  exact Ev.bind x1 (Ev.bind y1 e1)
theorem Make02_ex (s : Bool) (e : ByteArray) : ∃ t, galoisref02_Make.f s e = some (t, e) := by
  unfold galoisref02_Make.f
  cases s
  · exact ⟨_, if_neg (by decide)⟩
  · exact ⟨_, if_pos rfl⟩
theorem DivMod02_is {e b : ByteArray} {neg : Bool} (he : e.size ≤ 10000) (hb : b.size ≤ 1000) {p : Nat} (hp0 : 0 < p) (hp : p < 65536) (hbp : nb b = p) :
    ∃ s q r, Ev (fun k => galoisref02_DivMod.f k neg e false b) (s, q, false, r) ∧ r.size ≤ 8 ∧ nb r = rv neg (nb e) p := by
  obtain ⟨q, r, d1, d3, d5, d6, d7⟩ := DivMod01_is he hb hp0 hp hbp
  have hm := Nat.mod_lt (nb e) hp0
  have d4 : r.size ≤ 8 := nb_size d3 (Nat.lt_of_lt_of_le (by rw [d5]; omega) (show 65536 ≤ 256 ^ 8 by decide))
  have hplain : ∃ s, Ev (fun k => galoisref02_DivMod.j0 k q r false neg e false b) (s, q, false, r) := by
    obtain ⟨t, ht⟩ := Make02_ex (neg != false) q
    refine ⟨t, Ev.succ ?_⟩
    simp only [galoisref02_DivMod.j0]
    exact Ev.neg (by decide) (Ev.cbind ht (Ev.con rfl))
  unfold galoisref02_DivMod.f
  by_cases hn : neg = true ∧ nb e % p ≠ 0
  · obtain ⟨o, o1, o2, o3, o4⟩ := Of01_is (p := 1) (by decide)
    obtain ⟨a, a1⟩ := Add01_ex (a := q) (b := o) (by omega) (by omega)
    obtain ⟨u, u1, u2, u3, u4⟩ := Sub01_is (b := b) (r := r) hb (by omega) d3 hp (Nat.pos_of_ne_zero hn.2) hm hbp d5
    obtain ⟨t, ht⟩ := Make02_ex (neg != false) a
    have hr : (r.toList != ([] : List UInt8)) = true := by
      rw [bne_iff_ne]
      intro h
      exact hn.2 (by rw [← d5]; exact (nf_nil_iff d3).1 h)
    refine ⟨t, a, u, Ev.bind d1 (Ev.pos hn.1 ?_), u4, by rw [u3]; unfold rv; rw [if_pos hn]⟩
    show Ev (fun k => galoisref02_DivMod.j0 k q r (r.toList != ([] : List UInt8)) neg e false b) _
    rw [hr]
    refine Ev.succ ?_
    simp only [galoisref02_DivMod.j0]
    exact Ev.pos (by trivial) (Ev.bind o1 (Ev.bind a1 (Ev.bind u1 (Ev.cbind ht (Ev.con rfl)))))
  · have hrv : rv neg (nb e) p = nb e % p := if_neg hn
    obtain ⟨t, ht⟩ := hplain
    refine ⟨t, q, r, Ev.bind d1 ?_, d4, by rw [d5, hrv]⟩
    by_cases hneg : neg = true
    · refine Ev.pos hneg ?_
      have h0 : nb e % p = 0 := Classical.byContradiction fun h => hn ⟨hneg, h⟩
      have hr : (r.toList != ([] : List UInt8)) = false := by
        rw [bne_eq_false_iff_eq]
        exact (nf_nil_iff d3).2 (by rw [d5]; exact h0)
      show Ev (fun k => galoisref02_DivMod.j0 k q r (r.toList != ([] : List UInt8)) neg e false b) _
      rw [hr]
      exact ht
    · exact Ev.neg hneg ht
theorem Uint01_loop {e : ByteArray} (hs : e.size ≤ 8) : ∀ (d i : Nat), i + d = e.size → Ev (fun k => galoisref01_Uint.l0 k e ((numB e i : Nat) : Int) (i : Int)) (((nb e : Nat) : Int), true) := by
  intro d
  induction d with
  | zero =>
    intro i hi
    obtain rfl : i = e.size := by omega
    refine Ev.succ ?_
    simp only [galoisref01_Uint.l0]
    exact Ev.neg (by omega) (Ev.con rfl)
  | succ d ih =>
    intro i hi
    have h := ih (i + 1) (by omega)
    have hb := bt_range e (i : Int)
    have h1 : numB e i < 72057594037927936 := Nat.lt_of_lt_of_le (numB_lt e i) (show p8 i ≤ p8 7 from Nat.pow_le_pow_right (by decide) (by omega))
    have h2 : ((numB e (i + 1) : Nat) : Int) = (numB e i : Int) * 256 + bt e (i : Int) := by
      show ((numB e i * 256 + (bt e (i : Int)).toNat : Nat) : Int) = _
      omega
    refine Ev.succ ?_
    simp only [galoisref01_Uint.l0]
    rw [wrapu (x := (numB e i : Int) * 256) (by omega) (by omega), wrapu (x := bt e (i : Int)) (by omega) (by omega), wrapu (by omega) (by omega), w64 (x := (i : Int) + 1) (by omega) (by omega), ← h2]
    exact Ev.pos (by omega) (Ev.pos (by omega) h)
theorem Uint01_is {e : ByteArray} (hs : e.size ≤ 8) : Ev (fun k => galoisref01_Uint.f k e) (((nb e : Nat) : Int), true) := by
  unfold galoisref01_Uint.f
  exact Ev.neg (by omega) (Uint01_loop hs e.size 0 (by omega))
theorem FromInt02_is {p : Nat} (hp : p < 65536) : ∃ e, Ev (fun k => galoisref02_FromInt.f k (p : Int)) (false, e) ∧ Nf e ∧ nb e = p ∧ e.size ≤ 8 := by
  obtain ⟨e, e1, e2⟩ := Of01_is hp
  refine ⟨e, ?_, e2⟩
  unfold galoisref02_FromInt.f
  rw [wrapu (x := (p : Int)) (by omega) (by omega)]
  exact Ev.neg (by omega) (Ev.bind e1 (Ev.con rfl))
theorem ToInt02_is {r : ByteArray} (hr : r.size ≤ 8) (ht : nb r < 65536) : Ev (fun k => galoisref02_ToInt.f k false r) (((nb r : Nat) : Int), true) := by
  unfold galoisref02_ToInt.f
  refine Ev.bind (Uint01_is hr) (Ev.pos rfl (Ev.neg (by simp only; omega) (Ev.neg (by simp only; omega) (Ev.succ ?_))))
  simp only [galoisref02_ToInt.j0]
  rw [w64 (x := ((nb r : Nat) : Int)) (by omega) (by omega)]
  exact Ev.neg (by decide) (Ev.neg (by decide) (Ev.con rfl))
theorem Mod02_is {e : ByteArray} {neg : Bool} (he : e.size ≤ 10000) {p : Int} (hp : Mo p) : Ev (fun k => galoisref02_Mod.f k neg e p) ((rv neg (nb e) p.toNat : Nat) : Int) := by
  have h1 := hp.lo
  have h2 := hp.hi
  have hpp : ((p.toNat : Nat) : Int) = p := by omega
  obtain ⟨b, b1, b2, b3, b4⟩ := FromInt02_is (p := p.toNat) (by omega)
  rw [hpp] at b1
  obtain ⟨s, q, r, d1, d2, d3⟩ := DivMod02_is (e := e) (b := b) (neg := neg) he (by omega) (p := p.toNat) (by omega) (by omega) b3
  have hlt : rv neg (nb e) p.toNat < p.toNat := rv_lt (by omega)
  have ht := ToInt02_is d2 (by omega)
  rw [d3] at ht
  unfold galoisref02_Mod.f
  exact Ev.bind b1 (Ev.bind d1 (Ev.bind ht (Ev.con rfl)))
theorem ref_Reduce_loop {p : Int} (hp : Mo p) {f : List S72} (hl : f.length ≤ 100000) (hs : ∀ i, i < f.length → (cf f i).f1.size ≤ 10000) : ∀ (d i : Nat) (o : List Int), i + d = f.length → o.length = i → (∀ j, j < i → co o j = ((rv (cf f j).f0 (nb (cf f j).f1) p.toNat : Nat) : Int)) →
    Ev (fun k => galoisref09_Reduce.l0 k p f o (i : Int)) (rl p f) := by
  intro d
  induction d with
  | zero =>
    intro i o hi ho hv
    obtain rfl : i = f.length := by omega
    refine Ev.succ ?_
    simp only [galoisref09_Reduce.l0]
    refine Ev.neg (by omega) (Ev.bind (ref_Trim_ev (by omega)) (Ev.con ?_))
    rw [trimZ_ofF ho hv]
    rfl
  | succ d ih =>
    intro i o hi ho hv
    have h := ih (i + 1) (o ++ [((rv (cf f i).f0 (nb (cf f i).f1) p.toNat : Nat) : Int)]) (by omega) (by simp [ho]) (fun j hj => by
      by_cases h1 : j < i
      · rw [co_append_left (by omega)]; exact hv j h1
      · obtain rfl : j = i := by omega
        rw [← ho]; simp [co])
    refine Ev.succ ?_
    simp only [galoisref09_Reduce.l0]
    rw [rd_cf, w64 (x := (i : Int) + 1) (by omega) (by omega)]
    exact Ev.pos (by omega) (Ev.pos (by omega) (Ev.bind (Mod02_is (hs i (by omega)) hp) (Ev.pos (by omega) h)))
theorem ref_Reduce_is {p : Int} (hp : Mo p) {f : List S72} (hl : f.length ≤ 100000) (hs : ∀ i, i < f.length → (cf f i).f1.size ≤ 10000) : Ev (fun k => galoisref09_Reduce.f k p f) (rl p f) := by
  unfold galoisref09_Reduce.f
  exact ref_Reduce_loop hp hl hs f.length 0 [] (by omega) rfl (fun j hj => absurd hj (Nat.not_lt_zero _))
end Go.Proofs.Ytmknclgamadphaa.MPolymodReduces
