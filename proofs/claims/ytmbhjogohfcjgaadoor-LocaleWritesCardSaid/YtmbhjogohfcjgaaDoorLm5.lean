/- LocaleWrites, the parts: a right decimal, its sides, what is written of it: locale's and the reference's are one. -/
import Derived.Test.YtmbhjogohfcjgaaDoorLma
import Derived.Test.YtmbhjogohfcjgaaDoorL8
namespace Go.Proofs.YtmbhjogohfcjgaaDoor.Lm
open Go.RowKit Go.Proofs.YtmbhjogohfcjgaaDoorW.PrintWords Go.Proofs.YtmbhjogohfcjgaaDoorW.PrintLast Go.Proofs.YtmbhjogohfcjgaaDoorW.PrintMore Go.Proofs.YtmbhjogohfcjgaaDoor.L
set_option linter.unusedVariables false
set_option linter.unusedSimpArgs false

theorem getD_lt (l : List UInt8) (i : Nat) (z : UInt8) (h : i < l.length) : l.getD i z = l[i] := by simp [List.getD, h]
theorem getD_ge (l : List UInt8) (i : Nat) (z : UInt8) (h : l.length ≤ i) : l.getD i z = z := by simp [List.getD, h]
theorem bt_get (s : ByteArray) (i : Nat) (h : i < s.size) : bt s (i : Int) = (((by_ s).getD i 0).toNat : Int) := by
  rw [bt_by s i h, getD_lt _ _ _ (by rw [by_len]; exact h)]
theorem u48 (c : UInt8) : ((c.toNat : Int) = 48) ↔ c = 48 := by
  constructor
  · intro h
    exact UInt8.toNat_inj.1 (by show c.toNat = 48; omega)
  · rintro rfl; rfl
theorem one_at (l : List UInt8) (i : Nat) (h : i < l.length) (z : UInt8) : (l.drop i).take 1 = [l.getD i z] := by
  rw [List.drop_eq_getElem_cons h, getD_lt _ _ _ h]; rfl

/-- Right decimals, as both sides tell them. -/
def goodD (d : ByteArray) (e : Int) : Bool :=
  if d.size = 0 then e == 0 else decide (d.size ≤ 1100 ∧ -100000 ≤ e ∧ e ≤ 100000) && ((by_ d).all isDig && (!((by_ d).getD 0 0 == 48) && !((by_ d).getD (d.size - 1) 0 == 48)))

theorem suffix48 (d : ByteArray) (h : 0 < d.size) (hd : d.size ≤ 1200) : strings_HasSuffix.f d (⟨#[48]⟩ : ByteArray) = some ((by_ d).getD (d.size - 1) 0 == 48) := by
  have e0 : ((⟨#[48]⟩ : ByteArray).size : Int) = 1 := rfl
  have e1 : wrap64 ((d.size : Int) - 1) = (d.size : Int) - 1 := w64 (by omega) (by omega)
  unfold strings_HasSuffix.f stringslite_HasSuffix.f
  rw [e0, e1, if_pos (by omega), if_pos (by omega), if_pos (by omega), Option.bind_some, toList_by, toList_by, by_extract, show ((d.size : Int) - 1).toNat = d.size - 1 by omega, show d.size - (d.size - 1) = 1 by omega, one_at _ _ (by rw [by_len]; omega) 0]
  congr 1
  generalize (by_ d).getD (d.size - 1) 0 = c
  show ([c] == [(48 : UInt8)]) = (c == 48)
  simp

theorem prog_right (b : Bool) (d : ByteArray) (e : Int) (hd : d.size ≤ 1200) : decimal_Right.f b d e = some (goodD d e) := by
  unfold decimal_Right.f goodD
  rw [toList_by]
  by_cases h0 : d.size = 0
  · rw [if_pos (List.eq_nil_of_length_eq_zero (by rw [by_len]; exact h0)), if_pos h0]
  rw [if_neg (fun h => h0 (by rw [← by_len, h]; rfl)), if_neg h0]
  by_cases h1 : (d.size : Int) ≤ 1100
  rotate_left
  · rw [if_neg h1, decide_eq_false (by omega : ¬ (d.size ≤ 1100 ∧ -100000 ≤ e ∧ e ≤ 100000))]; rfl
  rw [if_pos h1]
  by_cases h2 : e ≥ -100000
  rotate_left
  · rw [if_neg h2, decide_eq_false (by omega : ¬ (d.size ≤ 1100 ∧ -100000 ≤ e ∧ e ≤ 100000))]; rfl
  rw [if_pos h2]
  by_cases h3 : e ≤ 100000
  rotate_left
  · rw [if_neg h3, decide_eq_false (by omega : ¬ (d.size ≤ 1100 ∧ -100000 ≤ e ∧ e ≤ 100000))]; rfl
  rw [if_pos h3, decide_eq_true (by omega : d.size ≤ 1100 ∧ -100000 ≤ e ∧ e ≤ 100000), Bool.true_and]
  unfold decimal_plain.f
  rw [Option.bind_some]
  show (if allDig d = true then _ else _) = some (allDig d && _)
  by_cases h4 : allDig d = true
  rotate_left
  · rw [if_neg h4]; simp at h4; rw [h4]; rfl
  rw [if_pos h4, if_pos (by omega), h4, Bool.true_and, suffix48 d (by omega) hd, Option.bind_some]
  have := bt_get d 0 (by omega)
  rw [show (0 : Int) = ((0 : Nat) : Int) from rfl, this]
  by_cases h5 : (by_ d).getD 0 0 = 48
  · rw [if_pos ((u48 _).2 h5), h5]; rfl
  · rw [if_neg (fun h => h5 ((u48 _).1 h)), beq_false_of_ne h5]; rfl

theorem rdall (d : ByteArray) (hx : d.size ≤ 1000000) (b : Bool) (e : Int) : ∀ (m k i : Nat), d.size - i = m → m < k → i ≤ d.size → tabardref7_Right.l0 k (d.size : Int) (i : Int) b d e = some (((by_ d).drop i).all isDig) := by
  intro m
  induction m with
  | zero =>
    intro k i hd hk hi
    obtain ⟨k, rfl⟩ : ∃ m, k = m + 1 := ⟨k - 1, by omega⟩
    simp only [tabardref7_Right.l0]
    rw [if_neg (by omega), List.drop_of_length_le (by rw [by_len]; omega)]
    rfl
  | succ m ih =>
    intro k i hd hk hi
    obtain ⟨k, rfl⟩ : ∃ m, k = m + 1 := ⟨k - 1, by omega⟩
    have hlt : i < d.size := by omega
    have e2 : wrap64 ((i : Int) + 1) = ((i + 1 : Nat) : Int) := by unfold wrap64; omega
    simp only [tabardref7_Right.l0]
    rw [if_pos (show (i : Int) < (d.size : Int) by omega), if_pos (show (0 : Int) ≤ (i : Int) by omega), if_pos (show (i : Int) < (d.size : Int) by omega), bt_by d i hlt, drop_cons d i hlt, List.all_cons, e2, ih k (i + 1) (by omega) (by omega) (by omega)]
    rw [show ∀ c : Int, tabardref7_digit.f c = tabardref11_digit.f c from fun _ => rfl, dig_eq, Option.bind_some]
    generalize isDig ((by_ d)[i]'(by rw [by_len]; exact hlt)) = c
    cases c <;> rfl

theorem rj_true (k : Nat) (n : Int) (b : Bool) (d : ByteArray) (e : Int) : tabardref7_Right.j0 (k + 1) n true b d e = some false := by
  simp only [tabardref7_Right.j0]; rfl
theorem ref_right (b : Bool) (d : ByteArray) (e : Int) (hd : d.size ≤ 1200) (k : Nat) (hk : d.size + 2 ≤ k) : tabardref7_Right.f k b d e = some (goodD d e) := by
  obtain ⟨k, rfl⟩ : ∃ m, k = m + 1 := ⟨k - 1, by omega⟩
  unfold tabardref7_Right.f goodD
  by_cases h0 : d.size = 0
  · rw [if_pos (by omega), if_pos h0]
  rw [if_neg (by omega), if_neg h0]
  by_cases h1 : (d.size : Int) > 1100
  · rw [if_pos h1, rj_true, decide_eq_false (by omega : ¬ (d.size ≤ 1100 ∧ -100000 ≤ e ∧ e ≤ 100000))]; rfl
  rw [if_neg h1]
  by_cases h2 : e < -100000
  · rw [if_pos h2, rj_true, decide_eq_false (by omega : ¬ (d.size ≤ 1100 ∧ -100000 ≤ e ∧ e ≤ 100000))]; rfl
  rw [if_neg h2]
  by_cases h3 : e > 100000
  · rw [if_pos h3, rj_true, decide_eq_false (by omega : ¬ (d.size ≤ 1100 ∧ -100000 ≤ e ∧ e ≤ 100000))]; rfl
  have e1 : wrap64 ((d.size : Int) - 1) = ((d.size - 1 : Nat) : Int) := by rw [w64 (by omega) (by omega)]; omega
  have := bt_get d 0 (by omega)
  rw [if_neg h3, decide_eq_true (by omega : d.size ≤ 1100 ∧ -100000 ≤ e ∧ e ≤ 100000), Bool.true_and, if_pos (by omega), e1, show bt d 0 = _ from this, bt_get d (d.size - 1) (by omega)]
  by_cases h5 : (by_ d).getD 0 0 = 48
  · rw [if_pos ((u48 _).2 h5), rj_true, h5]; simp
  rw [if_neg (fun h => h5 ((u48 _).1 h)), if_pos (by omega), if_pos (by omega), beq_false_of_ne h5]
  by_cases h6 : (by_ d).getD (d.size - 1) 0 = 48
  · rw [beq_iff_eq.2 ((u48 _).2 h6), rj_true, h6]; simp
  · rw [beq_false_of_ne (fun h => h6 ((u48 _).1 h)), beq_false_of_ne h6]
    simp only [tabardref7_Right.j0]
    rw [if_neg (by decide), show (0 : Int) = ((0 : Nat) : Int) from rfl, rdall d (by omega) b e d.size k 0 (by omega) (by omega) (by omega), List.drop_zero]
    simp

/-- The point of a decimal. -/
def pointD (d : ByteArray) (e : Int) : Int := if goodD d e = true then (d.size : Int) + e else 0
theorem good_b {d : ByteArray} {e : Int} (h : goodD d e = true) : -100000 ≤ e ∧ e ≤ 100000 ∧ (d.size = 0 → e = 0) := by
  unfold goodD at h
  by_cases h0 : d.size = 0
  · rw [if_pos h0] at h; have : e = 0 := by simpa using h
    omega
  · rw [if_neg h0, Bool.and_eq_true, decide_eq_true_eq] at h
    omega
theorem prog_point (b : Bool) (d : ByteArray) (e : Int) (hd : d.size ≤ 1200) : decimal_Point.f b d e = some (pointD d e) := by
  unfold decimal_Point.f pointD
  rw [prog_right b d e hd, Option.bind_some]
  by_cases h : goodD d e = true
  · have := good_b h
    rw [if_pos h, if_pos h, w64 (by omega) (by omega)]
  · rw [if_neg h, if_neg h]
theorem ref_point (b : Bool) (d : ByteArray) (e : Int) (hd : d.size ≤ 1200) (k : Nat) (hk : d.size + 2 ≤ k) : tabardref7_Point.f k b d e = some (pointD d e) := by
  unfold tabardref7_Point.f pointD
  rw [ref_right b d e hd k hk, Option.bind_some]
  by_cases h : goodD d e = true
  · have := good_b h
    rw [if_pos h, if_pos h, w64 (by omega) (by omega)]
  · rw [if_neg h, if_neg h]

/-- The two sides of the point. -/
def wholeD (d : List UInt8) (P : Int) : List UInt8 := if P ≤ 0 then [48] else d.take P.toNat ++ List.replicate (P.toNat - d.length) 48
def restD (d : List UInt8) (P : Int) : List UInt8 := List.replicate (-P).toNat 48 ++ d.drop P.toNat
def sidesD (d : ByteArray) (P : Int) : ByteArray × ByteArray × Bool :=
  if P > 400 ∨ (d.size : Int) - P > 400 then (⟨#[]⟩, ⟨#[]⟩, false) else (tx (wholeD (by_ d) P), tx (restD (by_ d) P), true)

theorem rep48 (n : Nat) : Lib.repeatL [48] n = List.replicate n 48 := by
  induction n with
  | zero => rfl
  | succ n ih => rw [Lib.repeatL, ih]; rfl
theorem repeat48 (n : Int) (h0 : 0 ≤ n) (h : n ≤ 100000) : strings_Repeat.f (⟨#[48]⟩ : ByteArray) n = some (tx (List.replicate n.toNat 48)) := by
  unfold strings_Repeat.f
  rw [if_pos ⟨h0, by omega, by show 1 * _ ≤ _; omega⟩]
  show some (tx (Lib.repeatL [48] n.toNat)) = _
  rw [rep48]
theorem prog_sides (b : Bool) (d : ByteArray) (e : Int) (hd : d.size ≤ 1200) (h0 : d.size ≠ 0) (k : Nat) (hk : 1 ≤ k) : locale_sides.f k b d e = some (sidesD d (pointD d e)) := by
  obtain ⟨k, rfl⟩ : ∃ m, k = m + 1 := ⟨k - 1, by omega⟩
  unfold locale_sides.f
  rw [prog_point b d e hd, Option.bind_some, if_neg (by omega)]
  have hb : -100000 ≤ pointD d e ∧ pointD d e ≤ 102000 := by
    unfold pointD
    by_cases h : goodD d e = true
    · have := good_b h; rw [if_pos h]; omega
    · rw [if_neg h]; omega
  generalize pointD d e = P at *
  unfold sidesD
  by_cases h1 : P > 400
  · rw [if_pos h1, if_pos (.inl h1)]; simp only [locale_sides.j0]; rfl
  rw [if_neg h1, w64 (by omega) (by omega)]
  by_cases h2 : (d.size : Int) - P > 400
  · rw [decide_eq_true h2, if_pos (.inr h2)]; simp only [locale_sides.j0]; rfl
  rw [decide_eq_false h2, if_neg (by omega)]
  simp only [locale_sides.j0]
  rw [if_neg (by decide)]
  have hl := by_len d
  by_cases h3 : P ≤ 0
  · rw [if_pos h3, w64 (by omega) (by omega), repeat48 (-P) (by omega) (by omega), Option.bind_some, if_pos (by rw [← by_len]; simp; omega)]
    unfold wholeD restD
    rw [if_pos h3, show P.toNat = 0 by omega, List.drop_zero]
    refine congrArg some (Prod.ext rfl (Prod.ext (by_ext ?_) rfl))
    rw [by_app]
  rw [if_neg h3]
  unfold wholeD restD
  rw [if_neg h3, show (-P).toNat = 0 by omega, List.replicate_zero, List.nil_append, hl]
  have hz : (tx (List.replicate (P - d.size).toNat 48)).size = (P - d.size).toNat := by rw [← by_len]; simp
  by_cases h4 : P ≥ (d.size : Int)
  · rw [if_pos h4, w64 (by omega) (by omega), repeat48 (P - d.size) (by omega) (by omega), Option.bind_some, if_pos (by rw [hz]; omega), List.take_of_length_le (by omega), List.drop_of_length_le (by omega), show (P - d.size).toNat = P.toNat - d.size by omega]
    refine congrArg some (Prod.ext (by_ext ?_) rfl)
    rw [by_app]
  · rw [if_neg h4, if_pos (by omega), if_pos (by omega), show P.toNat - d.size = 0 by omega, List.replicate_zero, List.append_nil]
    refine congrArg some (Prod.ext (by_ext ?_) (Prod.ext (by_ext ?_) rfl))
    · rw [by_extract]; simp
    · rw [by_extract, List.take_of_length_le (by rw [List.length_drop, hl]; exact Nat.le_refl _)]

/-- The reference's loops. -/
def W (d : List UInt8) : Nat → Nat → List UInt8
  | _, 0 => []
  | i, m + 1 => d.getD i 48 :: W d (i + 1) m
def F (d : List UInt8) : Int → Nat → List UInt8
  | _, 0 => []
  | x, m + 1 => (if x < 0 then 48 else d.getD x.toNat 48) :: F d (x + 1) m
theorem W_eq (d : List UInt8) : ∀ m i, W d i m = (d.drop i).take m ++ List.replicate (m - (d.length - i)) 48 := by
  intro m
  induction m with
  | zero => intro i; simp [W]
  | succ m ih =>
    intro i
    rw [W, ih]
    by_cases h : i < d.length
    · rw [List.drop_eq_getElem_cons h, getD_lt _ _ _ h, List.take_succ_cons, List.cons_append, show m + 1 - (d.length - i) = m - (d.length - (i + 1)) by omega]
    · rw [List.drop_of_length_le (by omega), List.drop_of_length_le (by omega), getD_ge _ _ _ (by omega), show d.length - i = 0 by omega, show d.length - (i + 1) = 0 by omega]
      simp [List.replicate_succ]
theorem F_eq (d : List UInt8) : ∀ (m : Nat) (x : Int), ((d.length : Int) - x).toNat = m → F d x m = List.replicate (-x).toNat 48 ++ d.drop x.toNat := by
  intro m
  induction m with
  | zero => intro x h; rw [F, show (-x).toNat = 0 by omega, List.drop_of_length_le (by omega)]; rfl
  | succ m ih =>
    intro x h
    rw [F, ih (x + 1) (by omega)]
    by_cases hx : x < 0
    · rw [if_pos hx, show (-x).toNat = (-(x + 1)).toNat + 1 by omega, show x.toNat = 0 by omega, show (x + 1).toNat = 0 by omega, List.replicate_succ, List.cons_append]
    · rw [if_neg hx, show (-x).toNat = 0 by omega, show (-(x + 1)).toNat = 0 by omega, show (x + 1).toNat = x.toNat + 1 by omega, List.drop_eq_getElem_cons (show x.toNat < d.length by omega), getD_lt _ _ _ (show x.toNat < d.length by omega)]
      rfl
theorem W_len (d : List UInt8) : ∀ m i, (W d i m).length = m := by
  intro m
  induction m with
  | zero => intro i; rfl
  | succ m ih => intro i; rw [W, List.length_cons, ih]
theorem tx_cons (s : ByteArray) (c : UInt8) (l : List UInt8) : (s ++ tx [c]) ++ tx l = s ++ tx (c :: l) := by
  apply by_ext
  rw [by_app, by_app, by_app, List.append_assoc]
  rfl
theorem app_nil (s : ByteArray) : s ++ tx [] = s := by apply by_ext; rw [by_app]; simp

theorem ref_l1 (d : ByteArray) (hd : d.size ≤ 1200) (x7 : ByteArray) (b : Bool) (e : Int) : ∀ (m k : Nat) (x : Int) (x8 : ByteArray), ((d.size : Int) - x).toNat = m → m < k → m ≤ 10000 → x8.size + m ≤ 10000 →
    tabardref11_Sides.l1 k (d.size : Int) x7 x8 x b d e = some (x7, x8 ++ tx (F (by_ d) x m), true) := by
  intro m
  induction m with
  | zero =>
    intro k x x8 h hk hm hs
    obtain ⟨k, rfl⟩ : ∃ m, k = m + 1 := ⟨k - 1, by omega⟩
    simp only [tabardref11_Sides.l1]
    rw [if_neg (by omega), F, app_nil]
  | succ m ih =>
    intro k x x8 h hk hm hs
    obtain ⟨k, rfl⟩ : ∃ m, k = m + 1 := ⟨k - 1, by omega⟩
    simp only [tabardref11_Sides.l1]
    rw [if_pos (by omega), w64 (by omega) (by omega), F]
    by_cases hx : x < 0
    · have hz : (x8 ++ (⟨#[48]⟩ : ByteArray)).size = x8.size + 1 := by rw [← by_len, by_app, List.length_append, by_len]; rfl
      rw [if_pos hx, if_pos (by omega), ih k (x + 1) _ (by omega) (by omega) (by omega) (by omega), if_pos hx, show (⟨#[48]⟩ : ByteArray) = tx [48] from rfl, tx_cons]
    · have he : d.extract x.toNat (x + 1).toNat = tx [(by_ d).getD x.toNat 48] := by
        apply by_ext
        rw [by_extract, show (x + 1).toNat - x.toNat = 1 by omega, one_at _ _ (by rw [by_len]; omega) 48]
      have hz : (x8 ++ tx [(by_ d).getD x.toNat 48]).size = x8.size + 1 := by rw [← by_len, by_app, List.length_append, by_len]; rfl
      rw [if_neg hx, if_pos (by omega), if_pos (by omega), if_pos (by omega), he, if_pos (by show x8.size + 1 ≤ _; omega), ih k (x + 1) _ (by omega) (by omega) (by omega) (by omega), if_neg hx, tx_cons]

theorem ref_l0 (d : ByteArray) (hd : d.size ≤ 1200) (P : Int) (hP : P ≤ 400) (x8 : ByteArray) (b : Bool) (e : Int) : ∀ (m k i : Nat) (x7 : ByteArray), (P - i).toNat = m → m < k → i ≤ 10000 → x7.size + m ≤ 10000 →
    tabardref11_Sides.l0 k P (d.size : Int) x7 x8 (i : Int) b d e = (if by_ (x7 ++ tx (W (by_ d) i m)) = [] then tabardref11_Sides.j2 (k - m - 1) P (d.size : Int) (⟨#[48]⟩ : ByteArray) x8 b d e else tabardref11_Sides.j2 (k - m - 1) P (d.size : Int) (x7 ++ tx (W (by_ d) i m)) x8 b d e) := by
  intro m
  induction m with
  | zero =>
    intro k i x7 h hk hm hs
    obtain ⟨k, rfl⟩ : ∃ m, k = m + 1 := ⟨k - 1, by omega⟩
    simp only [tabardref11_Sides.l0]
    rw [if_neg (by omega), W, app_nil, toList_by]
    rfl
  | succ m ih =>
    intro k i x7 h hk hm hs
    obtain ⟨k, rfl⟩ : ∃ m, k = m + 1 := ⟨k - 1, by omega⟩
    simp only [tabardref11_Sides.l0]
    have e2 : wrap64 ((i : Int) + 1) = ((i + 1 : Nat) : Int) := by unfold wrap64; omega
    rw [if_pos (by omega), e2, W, show k + 1 - (m + 1) - 1 = k - m - 1 by omega]
    by_cases hx : (i : Int) < (d.size : Int)
    · have he : d.extract ((i : Int).toNat) (((i + 1 : Nat) : Int)).toNat = tx [(by_ d).getD i 48] := by
        apply by_ext
        rw [by_extract, show (((i + 1 : Nat) : Int)).toNat - (i : Int).toNat = 1 by omega, Int.toNat_natCast, one_at _ _ (by rw [by_len]; omega) 48]
      have hz : (x7 ++ tx [(by_ d).getD i 48]).size = x7.size + 1 := by rw [← by_len, by_app, List.length_append, by_len]; rfl
      rw [if_pos hx, if_pos (by omega), if_pos (by omega), if_pos (by omega), he, if_pos (by show x7.size + 1 ≤ _; omega), ih k (i + 1) _ (by omega) (by omega) (by omega) (by omega), tx_cons]
    · have hz : (x7 ++ (⟨#[48]⟩ : ByteArray)).size = x7.size + 1 := by rw [← by_len, by_app, List.length_append, by_len]; rfl
      rw [if_neg hx, if_pos (by omega), ih k (i + 1) _ (by omega) (by omega) (by omega) (by omega), show (⟨#[48]⟩ : ByteArray) = tx [(by_ d).getD i 48] by rw [getD_ge _ _ _ (by rw [by_len]; omega)], tx_cons]

theorem ref_sides (b : Bool) (d : ByteArray) (e : Int) (hd : d.size ≤ 1200) (hg : goodD d e = true) (k : Nat) (hk : 3000 ≤ k) : tabardref11_Sides.f k b d e = some (sidesD d (pointD d e)) := by
  unfold tabardref11_Sides.f
  rw [ref_point b d e hd k (by omega), Option.bind_some]
  have hb := good_b hg
  have hP : pointD d e = d.size + e := by unfold pointD; rw [if_pos hg]
  generalize pointD d e = P at *
  unfold sidesD
  obtain ⟨k, rfl⟩ : ∃ m, k = m + 1 := ⟨k - 1, by omega⟩
  by_cases h1 : P > 400
  · rw [if_pos h1, if_pos (.inl h1)]; simp only [tabardref11_Sides.j0]; rfl
  rw [if_neg h1, w64 (by omega) (by omega)]
  by_cases h2 : (d.size : Int) - P > 400
  · rw [if_pos h2, if_pos (.inr h2), decide_eq_true (by omega)]; simp only [tabardref11_Sides.j0]; rfl
  rw [if_neg h2, if_neg (by omega)]
  simp only [tabardref11_Sides.j0]
  rw [if_neg (by decide), show (0 : Int) = ((0 : Nat) : Int) from rfl, ref_l0 d hd P (by omega) _ b e P.toNat k 0 _ (by simp) (by omega) (by omega) (by show 0 + _ ≤ _; omega)]
  have hl := by_len d
  obtain ⟨j, hj⟩ : ∃ j, k - P.toNat - 1 = j + 1 := ⟨k - P.toNat - 2, by omega⟩
  obtain ⟨m, hm⟩ : ∃ m : Nat, ((d.size : Int) - P).toNat = m := ⟨_, rfl⟩
  have hF : F (by_ d) P m = restD (by_ d) P := F_eq _ m P (by rw [hl]; exact hm)
  rw [hj]
  simp only [tabardref11_Sides.j2]
  rw [ref_l1 d hd _ b e m j P _ hm (by omega) (by omega) (by show 0 + _ ≤ _; omega), ref_l1 d hd _ b e m j P _ hm (by omega) (by omega) (by show 0 + _ ≤ _; omega), hF]
  have hn : (⟨#[]⟩ : ByteArray) ++ tx (W (by_ d) 0 P.toNat) = tx (W (by_ d) 0 P.toNat) := by apply by_ext; rw [by_app]; rfl
  have hn2 : (⟨#[]⟩ : ByteArray) ++ tx (restD (by_ d) P) = tx (restD (by_ d) P) := by apply by_ext; rw [by_app]; rfl
  rw [hn, hn2]
  unfold wholeD
  by_cases h3 : P ≤ 0
  · rw [if_pos h3, show P.toNat = 0 by omega]; rfl
  · rw [if_neg h3, if_neg (by intro h; have := congrArg List.length h; rw [show by_ (tx (W (by_ d) 0 P.toNat)) = W (by_ d) 0 P.toNat from rfl, W_len] at this; simp at this; omega), W_eq, List.drop_zero, Nat.sub_zero]
end Go.Proofs.YtmbhjogohfcjgaaDoor.Lm
