/- LocaleBack, as a law of the printed functions: it is true of every number and every decimal. -/
import Derived.Test.YtmbhjogohfcjgaaDoorLmb
import Derived.Test.YtmbhjogohfcjgaaDoorL15
namespace Go.Proofs.YtmbhjogohfcjgaaDoor.Lm
open Go.RowKit Go.Proofs.YtmbhjogohfcjgaaDoorW.PrintWords Go.Proofs.YtmbhjogohfcjgaaDoorW.PrintLast Go.Proofs.YtmbhjogohfcjgaaDoorW.PrintMore Go.Proofs.YtmbhjogohfcjgaaDoor.L
set_option linter.unusedVariables false
set_option linter.unusedSimpArgs false

theorem grp_mem (g : List UInt8) (sec off : Nat) : ∀ (f : Bool) (d : List UInt8) (x : UInt8), x ∈ grp g sec off f d → x ∈ g ∨ x ∈ d := by
  intro f d
  induction d generalizing f with
  | nil => intro x hx; simp [grp] at hx
  | cons c t ih =>
    intro x hx
    rw [grp, List.mem_append, List.mem_cons] at hx
    rcases hx with hx | rfl | hx
    · split at hx
      · exact .inl hx
      · simp at hx
    · exact .inr (List.mem_cons_self ..)
    · rcases ih false x hx with h | h
      · exact .inl h
      · exact .inr (List.mem_cons_of_mem _ h)
theorem getD_app (x y : List UInt8) (i : Nat) (z : UInt8) : (x ++ y).getD i z = if i < x.length then x.getD i z else y.getD (i - x.length) z := by
  simp only [List.getD, List.getElem?_append]
  split <;> rfl
theorem getD_rep (n i : Nat) (h : i < n) (z : UInt8) : (List.replicate n (48 : UInt8)).getD i z = 48 := by
  rw [getD_lt _ _ _ (by simpa using h), List.getElem_replicate]
theorem getD_mem (l : List UInt8) (i : Nat) (h : i < l.length) (z : UInt8) : l.getD i z ∈ l := by rw [getD_lt _ _ _ h]; exact List.getElem_mem _

/-- Make of zeros, digits and zeros. -/
theorem make_zz (n : Bool) (D : ByteArray) (a b : Nat) (e : Int) (ha : a ≤ 700) (hb : b ≤ 700) (hD : D.size ≤ 300) (he : -3000 ≤ e ∧ e ≤ 3000) (hn : D.size = 0 → b = 0) (hd : (by_ D).all isDig = true)
    (hs : D.size ≠ 0 → (by_ D).getD 0 0 ≠ 48 ∧ (by_ D).getD (D.size - 1) 0 ≠ 48) (X : ByteArray) (hX : by_ X = List.replicate a 48 ++ (by_ D ++ List.replicate b 48)) (k : Nat) (hk : 8000 ≤ k) :
    tabardref7_Make.f k n X e = some (n, D, if D.size = 0 then 0 else e + (b : Nat), 0) := by
  have hl := by_len D
  have hlX : X.size = a + (D.size + b) := by rw [← by_len, hX]; simp [hl]
  have hall : (by_ X).all isDig = true := by
    rw [hX]
    simp only [List.all_append, hd, Bool.and_eq_true, List.all_eq_true, List.mem_replicate]
    exact ⟨fun x hx => by rw [hx.2]; decide, trivial, fun x hx => by rw [hx.2]; decide⟩
  rw [make_eq n X e (by omega) he hall a (a + D.size) (by omega) (by omega) (by intro h; have := hn (by omega); omega) (by omega)
    (fun i hi => by rw [hX, getD_app, if_pos (by simpa using hi)]; exact getD_rep a i hi 0)
    (fun h => by rw [hX, getD_app, if_neg (by simp), List.length_replicate, Nat.sub_self, getD_app, if_pos (by omega)]; exact (hs (by omega)).1)
    (fun i h1 h2 => by rw [hX, getD_app, if_neg (by simp; omega), List.length_replicate, getD_app, if_neg (by omega), hl]; exact getD_rep b _ (by omega) 0)
    (fun h => by rw [hX, getD_app, if_neg (by simp; omega), List.length_replicate, getD_app, if_pos (by omega), show a + D.size - 1 - a = D.size - 1 by omega]; exact (hs (by omega)).2) k hk]
  by_cases h0 : D.size = 0
  · have hD0 : D = ⟨#[]⟩ := by_ext (List.eq_nil_of_length_eq_zero (by rw [hl]; exact h0))
    rw [if_pos (by omega), if_pos h0, hD0]
  · have hx : X.extract a (a + D.size) = D := by
      apply by_ext
      rw [by_extract, hX, List.drop_append_of_le_length (by simp), List.drop_of_length_le (by simp), List.nil_append, show a + D.size - a = D.size by omega, List.take_append_of_le_length (by omega), List.take_of_length_le (by omega)]
    rw [if_neg (by omega), if_neg h0, hx, show X.size - (a + D.size) = b by omega]

theorem back_l0 (c : UInt8) (S : ByteArray) (hS : S.size ≤ 100000) (p : Nat) (hp : p ≤ S.size) (hne : ∀ i, i < p → (by_ S).getD i 0 ≠ c) (heq : p < S.size → (by_ S).getD p 0 = c) (n : Bool) (d : ByteArray) (e : Int) (f0 G f3 f4 f5 f6 : ByteArray) (b0 b1 : Bool) (l : List Int) : ∀ (m i j : Nat), p - i = m → i ≤ p →
    tabardlaw11_LocaleBack.l0 (m + 1 + j) S (S.size : Int) (i : Int) n d e f0 (tx [c]) G f3 f4 f5 f6 b0 b1 l = tabardlaw11_LocaleBack.j3 j S (p : Int) n d e f0 (tx [c]) G f3 f4 f5 f6 b0 b1 l := by
  have hs1 : ((tx [c]).size : Int) = 1 := rfl
  have hl := by_len S
  intro m
  induction m with
  | zero =>
    intro i j h hi
    obtain rfl : i = p := by omega
    rw [show 0 + 1 + j = j + 1 by omega]
    simp only [tabardlaw11_LocaleBack.l0]
    have e2 : wrap64 ((i : Int) + 1) = ((i + 1 : Nat) : Int) := by unfold wrap64; omega
    rw [hs1, e2]
    by_cases hlt : i < S.size
    · rw [if_pos (by omega), if_pos (by omega), if_pos (by omega), if_pos]
      rw [toList_by, toList_by, by_extract, show (((i + 1 : Nat) : Int)).toNat - (i : Int).toNat = 1 by omega, Int.toNat_natCast, one_at _ _ (by omega) 0, heq hlt]
    · rw [if_neg (by omega), show S.size = i by omega]
  | succ m ih =>
    intro i j h hi
    rw [show m + 1 + 1 + j = (m + 1 + j) + 1 by omega]
    simp only [tabardlaw11_LocaleBack.l0]
    have e2 : wrap64 ((i : Int) + 1) = ((i + 1 : Nat) : Int) := by unfold wrap64; omega
    rw [hs1, e2, if_pos (by omega), if_pos (by omega), if_pos (by omega), if_neg]
    · exact ih (i + 1) j (by omega) (by omega)
    · rw [toList_by, toList_by, by_extract, show (((i + 1 : Nat) : Int)).toNat - (i : Int).toNat = 1 by omega, Int.toNat_natCast, one_at _ _ (by omega) 0]
      intro h
      exact hne i (by omega) (by injection h)

/-- Behind the loop, where a sign was found. -/
theorem back_lt (c : UInt8) (S : ByteArray) (hS : S.size ≤ 100000) (p : Nat) (hp : p < S.size) (n : Bool) (d : ByteArray) (e : Int) (f0 G f3 f4 f5 f6 : ByteArray) (b0 b1 : Bool) (l : List Int) (k : Nat) (Wh : List UInt8) (R : ByteArray) (hW : Wh.length ≤ 100000)
    (hP : locale_Locale_Plain.f k f0 (tx [c]) G f3 f4 f5 f6 b0 b1 l (S.extract 0 p) = some (tx Wh, true)) (hR : S.extract (p + 1) S.size = R) (hd : tabardlaw11_digitsAll.f k R = some true)
    (hM : tabardref7_Make.f k n (tx Wh ++ R) (-(R.size : Int)) = some (n, d, e, 0)) (hr : R.size ≠ 0) (hlast : (by_ R).getD (R.size - 1) 0 ≠ 48) :
    tabardlaw11_LocaleBack.j3 (k + 1) S (p : Int) n d e f0 (tx [c]) G f3 f4 f5 f6 b0 b1 l = some true := by
  have hs1 : ((tx [c]).size : Int) = 1 := rfl
  have hRs : R.size ≤ 100000 := by
    rw [← hR, ← by_len, by_extract]
    simp [by_len]; omega
  have e2 : wrap64 ((p : Int) + 1) = ((p + 1 : Nat) : Int) := by unfold wrap64; omega
  have hz : (tx Wh).size = Wh.length := by rw [← by_len]
  have e3 : wrap64 (-(R.size : Int)) = -(R.size : Int) := w64 (by omega) (by omega)
  have e4 : wrap64 ((R.size : Int) - 1) = ((R.size - 1 : Nat) : Int) := by rw [w64 (by omega) (by omega)]; omega
  simp only [tabardlaw11_LocaleBack.j3]
  rw [hs1, e2, if_pos (by omega), if_pos (by omega), Int.toNat_natCast, hP, Option.bind_some, if_pos (by omega), if_pos (by omega), if_pos (by omega), Int.toNat_natCast, hR, hd, Option.bind_some]
  simp only []
  rw [if_pos (by rw [hz]; omega), e3, hM, Option.bind_some]
  simp only []
  rw [if_pos trivial, if_pos trivial, if_pos trivial, if_pos (by simp), if_neg (by omega), if_neg (by rw [toList_by]; intro h; apply hr; rw [← by_len, h]; rfl), e4, if_pos (by omega), if_pos (by omega), bt_get R (R.size - 1) (by omega)]
  congr 1
  rw [bne_iff_ne]
  exact fun h => hlast ((u48 _).1 h)
/-- Behind the loop, where none was. -/
theorem back_eq (c : UInt8) (S : ByteArray) (hS : S.size ≤ 100000) (n : Bool) (d : ByteArray) (e : Int) (f0 G f3 f4 f5 f6 : ByteArray) (b0 b1 : Bool) (l : List Int) (k : Nat) (Wh : List UInt8) (hW : Wh.length ≤ 100000)
    (hP : locale_Locale_Plain.f k f0 (tx [c]) G f3 f4 f5 f6 b0 b1 l (S.extract 0 S.size) = some (tx Wh, true)) (hd : tabardlaw11_digitsAll.f k (⟨#[]⟩ : ByteArray) = some true)
    (hM : tabardref7_Make.f k n (tx Wh ++ (⟨#[]⟩ : ByteArray)) (-0) = some (n, d, e, 0)) :
    tabardlaw11_LocaleBack.j3 (k + 1) S (S.size : Int) n d e f0 (tx [c]) G f3 f4 f5 f6 b0 b1 l = some true := by
  have hz : (tx Wh).size = Wh.length := by rw [← by_len]
  simp only [tabardlaw11_LocaleBack.j3]
  rw [if_pos (by omega), if_pos (by omega), Int.toNat_natCast, hP, Option.bind_some, if_neg (by omega), hd, Option.bind_some]
  simp only []
  rw [if_pos (by rw [hz]; omega), hM, Option.bind_some]
  simp only []
  rw [if_pos trivial, if_pos trivial, if_pos trivial, if_pos (by simp), if_pos trivial]
end Go.Proofs.YtmbhjogohfcjgaaDoor.Lm
