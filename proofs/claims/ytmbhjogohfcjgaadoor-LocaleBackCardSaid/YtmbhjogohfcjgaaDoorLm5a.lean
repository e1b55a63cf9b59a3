/- LocaleBack, the parts: a right decimal, its point, its sides. -/
import Derived.Test.YtmbhjogohfcjgaaDoorLma
import Derived.Test.YtmbhjogohfcjgaaDoorL6
namespace Go.Proofs.YtmbhjogohfcjgaaDoor.Lm
open Go.RowKit Go.Proofs.YtmbhjogohfcjgaaDoorW.PrintWords Go.Proofs.YtmbhjogohfcjgaaDoorW.PrintLast Go.Proofs.YtmbhjogohfcjgaaDoorW.PrintMore Go.Proofs.YtmbhjogohfcjgaaDoor.L
set_option linter.unusedVariables false
set_option linter.unusedSimpArgs false

theorem getD_lt (l : List UInt8) (i : Nat) (z : UInt8) (h : i < l.length) : l.getD i z = l[i] := by simp [List.getD, h]
theorem getD_ge (l : List UInt8) (i : Nat) (z : UInt8) (h : l.length ≤ i) : l.getD i z = z := by simp [List.getD, h]
theorem bt_get (s : ByteArray) (i : Nat) (h : i < s.size) : bt s (i : Int) = (((by_ s).getD i 0).toNat : Int) := by
  rw [bt_by s i h, getD_lt _ _ _ (by rw [by_len]; exact h)]
theorem u48 (c : UInt8) : ((c.toNat : Int) = 48) ↔ c = 48 := by
  constructor
  · intro h
    exact UInt8.toNat_inj.1 (by show c.toNat = 48; omega)
  · rintro rfl; rfl
theorem one_at (l : List UInt8) (i : Nat) (h : i < l.length) (z : UInt8) : (l.drop i).take 1 = [l.getD i z] := by
  rw [List.drop_eq_getElem_cons h, getD_lt _ _ _ h]; rfl

/-- Right decimals, as both sides tell them. -/
def goodD (d : ByteArray) (e : Int) : Bool :=
  if d.size = 0 then e == 0 else decide (d.size ≤ 1100 ∧ -100000 ≤ e ∧ e ≤ 100000) && ((by_ d).all isDig && (!((by_ d).getD 0 0 == 48) && !((by_ d).getD (d.size - 1) 0 == 48)))

theorem suffix48 (d : ByteArray) (h : 0 < d.size) (hd : d.size ≤ 1200) : strings_HasSuffix.f d (⟨#[48]⟩ : ByteArray) = some ((by_ d).getD (d.size - 1) 0 == 48) := by
  have e0 : ((⟨#[48]⟩ : ByteArray).size : Int) = 1 := rfl
  have e1 : wrap64 ((d.size : Int) - 1) = (d.size : Int) - 1 := w64 (by omega) (by omega)
  unfold strings_HasSuffix.f stringslite_HasSuffix.f
  rw [e0, e1, if_pos (by omega), if_pos (by omega), if_pos (by omega), Option.bind_some, toList_by, toList_by, by_extract, show ((d.size : Int) - 1).toNat = d.size - 1 by omega, show d.size - (d.size - 1) = 1 by omega, one_at _ _ (by rw [by_len]; omega) 0]
  congr 1
  generalize (by_ d).getD (d.size - 1) 0 = c
  show ([c] == [(48 : UInt8)]) = (c == 48)
  simp

theorem prog_right (b : Bool) (d : ByteArray) (e : Int) (hd : d.size ≤ 1200) : decimal_Right.f b d e = some (goodD d e) := by
  unfold decimal_Right.f goodD
  rw [toList_by]
  by_cases h0 : d.size = 0
  · rw [if_pos (List.eq_nil_of_length_eq_zero (by rw [by_len]; exact h0)), if_pos h0]
  rw [if_neg (fun h => h0 (by rw [← by_len, h]; rfl)), if_neg h0]
  by_cases h1 : (d.size : Int) ≤ 1100
  rotate_left
  · rw [if_neg h1, decide_eq_false (by omega : ¬ (d.size ≤ 1100 ∧ -100000 ≤ e ∧ e ≤ 100000))]; rfl
  rw [if_pos h1]
  by_cases h2 : e ≥ -100000
  rotate_left
  · rw [if_neg h2, decide_eq_false (by omega : ¬ (d.size ≤ 1100 ∧ -100000 ≤ e ∧ e ≤ 100000))]; rfl
  rw [if_pos h2]
  by_cases h3 : e ≤ 100000
  rotate_left
  · rw [if_neg h3, decide_eq_false (by omega : ¬ (d.size ≤ 1100 ∧ -100000 ≤ e ∧ e ≤ 100000))]; rfl
  rw [if_pos h3, decide_eq_true (by omega : d.size ≤ 1100 ∧ -100000 ≤ e ∧ e ≤ 100000), Bool.true_and]
  unfold decimal_plain.f
  rw [Option.bind_some]
  show (if allDig d = true then _ else _) = some (allDig d && _)
  by_cases h4 : allDig d = true
  rotate_left
  · rw [if_neg h4]; simp at h4; rw [h4]; rfl
  rw [if_pos h4, if_pos (by omega), h4, Bool.true_and, suffix48 d (by omega) hd, Option.bind_some]
  have := bt_get d 0 (by omega)
  rw [show (0 : Int) = ((0 : Nat) : Int) from rfl, this]
  by_cases h5 : (by_ d).getD 0 0 = 48
  · rw [if_pos ((u48 _).2 h5), h5]; rfl
  · rw [if_neg (fun h => h5 ((u48 _).1 h)), beq_false_of_ne h5]; rfl

theorem rdall (d : ByteArray) (hx : d.size ≤ 1000000) (b : Bool) (e : Int) : ∀ (m k i : Nat), d.size - i = m → m < k → i ≤ d.size → tabardref7_Right.l0 k (d.size : Int) (i : Int) b d e = some (((by_ d).drop i).all isDig) := by
  intro m
  induction m with
  | zero =>
    intro k i hd hk hi
    obtain ⟨k, rfl⟩ : ∃ m, k = m + 1 := ⟨k - 1, by omega⟩
    simp only [tabardref7_Right.l0]
    rw [if_neg (by omega), List.drop_of_length_le (by rw [by_len]; omega)]
    rfl
  | succ m ih =>
    intro k i hd hk hi
    obtain ⟨k, rfl⟩ : ∃ m, k = m + 1 := ⟨k - 1, by omega⟩
    have hlt : i < d.size := by omega
    have e2 : wrap64 ((i : Int) + 1) = ((i + 1 : Nat) : Int) := by unfold wrap64; omega
    simp only [tabardref7_Right.l0]
    rw [if_pos (show (i : Int) < (d.size : Int) by omega), if_pos (show (0 : Int) ≤ (i : Int) by omega), if_pos (show (i : Int) < (d.size : Int) by omega), bt_by d i hlt, drop_cons d i hlt, List.all_cons, e2, ih k (i + 1) (by omega) (by omega) (by omega)]
    rw [show ∀ c : Int, tabardref7_digit.f c = tabardref11_digit.f c from fun _ => rfl, dig_eq, Option.bind_some]
    generalize isDig ((by_ d)[i]'(by rw [by_len]; exact hlt)) = c
    cases c <;> rfl

theorem rj_true (k : Nat) (n : Int) (b : Bool) (d : ByteArray) (e : Int) : tabardref7_Right.j0 (k + 1) n true b d e = some false := by
  simp only [tabardref7_Right.j0]; rfl
theorem ref_right (b : Bool) (d : ByteArray) (e : Int) (hd : d.size ≤ 1200) (k : Nat) (hk : d.size + 2 ≤ k) : tabardref7_Right.f k b d e = some (goodD d e) := by
  obtain ⟨k, rfl⟩ : ∃ m, k = m + 1 := ⟨k - 1, by omega⟩
  unfold tabardref7_Right.f goodD
  by_cases h0 : d.size = 0
  · rw [if_pos (by omega), if_pos h0]
  rw [if_neg (by omega), if_neg h0]
  by_cases h1 : (d.size : Int) > 1100
  · rw [if_pos h1, rj_true, decide_eq_false (by omega : ¬ (d.size ≤ 1100 ∧ -100000 ≤ e ∧ e ≤ 100000))]; rfl
  rw [if_neg h1]
  by_cases h2 : e < -100000
  · rw [if_pos h2, rj_true, decide_eq_false (by omega : ¬ (d.size ≤ 1100 ∧ -100000 ≤ e ∧ e ≤ 100000))]; rfl
  rw [if_neg h2]
  by_cases h3 : e > 100000
  · rw [if_pos h3, rj_true, decide_eq_false (by omega : ¬ (d.size ≤ 1100 ∧ -100000 ≤ e ∧ e ≤ 100000))]; rfl
  have e1 : wrap64 ((d.size : Int) - 1) = ((d.size - 1 : Nat) : Int) := by rw [w64 (by omega) (by omega)]; omega
  have := bt_get d 0 (by omega)
  rw [if_neg h3, decide_eq_true (by omega : d.size ≤ 1100 ∧ -100000 ≤ e ∧ e ≤ 100000), Bool.true_and, if_pos (by omega), e1, show bt d 0 = _ from this, bt_get d (d.size - 1) (by omega)]
  by_cases h5 : (by_ d).getD 0 0 = 48
  · rw [if_pos ((u48 _).2 h5), rj_true, h5]; simp
  rw [if_neg (fun h => h5 ((u48 _).1 h)), if_pos (by omega), if_pos (by omega), beq_false_of_ne h5]
  by_cases h6 : (by_ d).getD (d.size - 1) 0 = 48
  · rw [beq_iff_eq.2 ((u48 _).2 h6), rj_true, h6]; simp
  · rw [beq_false_of_ne (fun h => h6 ((u48 _).1 h)), beq_false_of_ne h6]
    simp only [tabardref7_Right.j0]
    rw [if_neg (by decide), show (0 : Int) = ((0 : Nat) : Int) from rfl, rdall d (by omega) b e d.size k 0 (by omega) (by omega) (by omega), List.drop_zero]
    simp

/-- The point of a decimal. -/
def pointD (d : ByteArray) (e : Int) : Int := if goodD d e = true then (d.size : Int) + e else 0
theorem good_b {d : ByteArray} {e : Int} (h : goodD d e = true) : -100000 ≤ e ∧ e ≤ 100000 ∧ (d.size = 0 → e = 0) := by
  unfold goodD at h
  by_cases h0 : d.size = 0
  · rw [if_pos h0] at h; have : e = 0 := by simpa using h
    omega
  · rw [if_neg h0, Bool.and_eq_true, decide_eq_true_eq] at h
    omega
theorem prog_point (b : Bool) (d : ByteArray) (e : Int) (hd : d.size ≤ 1200) : decimal_Point.f b d e = some (pointD d e) := by
  unfold decimal_Point.f pointD
  rw [prog_right b d e hd, Option.bind_some]
  by_cases h : goodD d e = true
  · have := good_b h
    rw [if_pos h, if_pos h, w64 (by omega) (by omega)]
  · rw [if_neg h, if_neg h]
theorem ref_point (b : Bool) (d : ByteArray) (e : Int) (hd : d.size ≤ 1200) (k : Nat) (hk : d.size + 2 ≤ k) : tabardref7_Point.f k b d e = some (pointD d e) := by
  unfold tabardref7_Point.f pointD
  rw [ref_right b d e hd k hk, Option.bind_some]
  by_cases h : goodD d e = true
  · have := good_b h
    rw [if_pos h, if_pos h, w64 (by omega) (by omega)]
  · rw [if_neg h, if_neg h]

/-- The two sides of the point. -/
def wholeD (d : List UInt8) (P : Int) : List UInt8 := if P ≤ 0 then [48] else d.take P.toNat ++ List.replicate (P.toNat - d.length) 48
def restD (d : List UInt8) (P : Int) : List UInt8 := List.replicate (-P).toNat 48 ++ d.drop P.toNat
def sidesD (d : ByteArray) (P : Int) : ByteArray × ByteArray × Bool :=
  if P > 400 ∨ (d.size : Int) - P > 400 then (⟨#[]⟩, ⟨#[]⟩, false) else (tx (wholeD (by_ d) P), tx (restD (by_ d) P), true)

theorem rep48 (n : Nat) : Lib.repeatL [48] n = List.replicate n 48 := by
  induction n with
  | zero => rfl
  | succ n ih => rw [Lib.repeatL, ih]; rfl
theorem repeat48 (n : Int) (h0 : 0 ≤ n) (h : n ≤ 100000) : strings_Repeat.f (⟨#[48]⟩ : ByteArray) n = some (tx (List.replicate n.toNat 48)) := by
  unfold strings_Repeat.f
  rw [if_pos ⟨h0, by omega, by show 1 * _ ≤ _; omega⟩]
  show some (tx (Lib.repeatL [48] n.toNat)) = _
  rw [rep48]
theorem prog_sides (b : Bool) (d : ByteArray) (e : Int) (hd : d.size ≤ 1200) (h0 : d.size ≠ 0) (k : Nat) (hk : 1 ≤ k) : locale_sides.f k b d e = some (sidesD d (pointD d e)) := by
  obtain ⟨k, rfl⟩ : ∃ m, k = m + 1 := ⟨k - 1, by omega⟩
  unfold locale_sides.f
  rw [prog_point b d e hd, Option.bind_some, if_neg (by omega)]
  have hb : -100000 ≤ pointD d e ∧ pointD d e ≤ 102000 := by
    unfold pointD
    by_cases h : goodD d e = true
    · have := good_b h; rw [if_pos h]; omega
    · rw [if_neg h]; omega
  generalize pointD d e = P at *
  unfold sidesD
  by_cases h1 : P > 400
  · rw [if_pos h1, if_pos (.inl h1)]; simp only [locale_sides.j0]; rfl
  rw [if_neg h1, w64 (by omega) (by omega)]
  by_cases h2 : (d.size : Int) - P > 400
  · rw [decide_eq_true h2, if_pos (.inr h2)]; simp only [locale_sides.j0]; rfl
  rw [decide_eq_false h2, if_neg (by omega)]
  simp only [locale_sides.j0]
  rw [if_neg (by decide)]
  have hl := by_len d
  by_cases h3 : P ≤ 0
  · rw [if_pos h3, w64 (by omega) (by omega), repeat48 (-P) (by omega) (by omega), Option.bind_some, if_pos (by rw [← by_len]; simp; omega)]
    unfold wholeD restD
    rw [if_pos h3, show P.toNat = 0 by omega, List.drop_zero]
    refine congrArg some (Prod.ext rfl (Prod.ext (by_ext ?_) rfl))
    rw [by_app]
  rw [if_neg h3]
  unfold wholeD restD
  rw [if_neg h3, show (-P).toNat = 0 by omega, List.replicate_zero, List.nil_append, hl]
  have hz : (tx (List.replicate (P - d.size).toNat 48)).size = (P - d.size).toNat := by rw [← by_len]; simp
  by_cases h4 : P ≥ (d.size : Int)
  · rw [if_pos h4, w64 (by omega) (by omega), repeat48 (P - d.size) (by omega) (by omega), Option.bind_some, if_pos (by rw [hz]; omega), List.take_of_length_le (by omega), List.drop_of_length_le (by omega), show (P - d.size).toNat = P.toNat - d.size by omega]
    refine congrArg some (Prod.ext (by_ext ?_) rfl)
    rw [by_app]
  · rw [if_neg h4, if_pos (by omega), if_pos (by omega), show P.toNat - d.size = 0 by omega, List.replicate_zero, List.append_nil]
    refine congrArg some (Prod.ext (by_ext ?_) (Prod.ext (by_ext ?_) rfl))
    · rw [by_extract]; simp
    · rw [by_extract, List.take_of_length_le (by rw [List.length_drop, hl]; exact Nat.le_refl _)]

end Go.Proofs.YtmbhjogohfcjgaaDoor.Lm
