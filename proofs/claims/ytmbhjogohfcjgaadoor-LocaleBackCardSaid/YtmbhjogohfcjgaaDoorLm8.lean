/- LocaleBack, the parts: the reference's Make of the digits that were written is the decimal. -/
import Derived.Test.YtmbhjogohfcjgaaDoorLm5a
import Derived.Test.YtmbhjogohfcjgaaDoorL9
namespace Go.Proofs.YtmbhjogohfcjgaaDoor.Lm
open Go.RowKit Go.Proofs.YtmbhjogohfcjgaaDoorW.PrintWords Go.Proofs.YtmbhjogohfcjgaaDoorW.PrintLast Go.Proofs.YtmbhjogohfcjgaaDoorW.PrintMore Go.Proofs.YtmbhjogohfcjgaaDoor.L
set_option linter.unusedVariables false
set_option linter.unusedSimpArgs false

theorem dig7 (c : UInt8) : tabardref7_digit.f (c.toNat : Int) = some (isDig c) := dig_eq c

/-- All are digits: on to the zeros ahead. -/
theorem mk_l0 (n : Bool) (X : ByteArray) (e : Int) (hX : X.size ≤ 100000) (hd : (by_ X).all isDig = true) : ∀ (m i j : Nat), X.size - i = m → i ≤ X.size →
    tabardref7_Make.l0 (m + 1 + j) n X e (i : Int) = tabardref7_Make.l1 j n X e 0 := by
  intro m
  induction m with
  | zero =>
    intro i j h hi
    rw [show 0 + 1 + j = j + 1 by omega]
    simp only [tabardref7_Make.l0]
    rw [if_neg (by omega)]
  | succ m ih =>
    intro i j h hi
    have hlt : i < X.size := by omega
    rw [show m + 1 + 1 + j = (m + 1 + j) + 1 by omega]
    simp only [tabardref7_Make.l0]
    have e2 : wrap64 ((i : Int) + 1) = ((i + 1 : Nat) : Int) := by unfold wrap64; omega
    rw [if_pos (by omega), if_pos (by omega), bt_by X i hlt, dig7, Option.bind_some, if_pos (List.all_eq_true.1 hd _ (List.getElem_mem _)), e2]
    exact ih (i + 1) j (by omega) (by omega)

/-- The zeros ahead. -/
theorem mk_l1 (n : Bool) (X : ByteArray) (e : Int) (hX : X.size ≤ 100000) (fr : Nat) (hf : fr ≤ X.size) (hz : ∀ i, i < fr → (by_ X).getD i 0 = 48) (hs : fr < X.size → (by_ X).getD fr 0 ≠ 48) : ∀ (m i j : Nat), fr - i = m → i ≤ fr →
    tabardref7_Make.l1 (m + 1 + j) n X e (i : Int) = tabardref7_Make.j2 j n X e (fr : Int) := by
  intro m
  induction m with
  | zero =>
    intro i j h hi
    obtain rfl : i = fr := by omega
    rw [show 0 + 1 + j = j + 1 by omega]
    simp only [tabardref7_Make.l1]
    by_cases hlt : i < X.size
    · rw [if_pos (by omega), if_pos (by omega), bt_get X i hlt, if_neg (fun h => hs hlt ((u48 _).1 h))]
    · rw [if_neg (by omega)]
  | succ m ih =>
    intro i j h hi
    rw [show m + 1 + 1 + j = (m + 1 + j) + 1 by omega]
    simp only [tabardref7_Make.l1]
    have e2 : wrap64 ((i : Int) + 1) = ((i + 1 : Nat) : Int) := by unfold wrap64; omega
    rw [if_pos (by omega), if_pos (by omega), bt_get X i (by omega), if_pos ((u48 _).2 (hz i (by omega))), e2]
    exact ih (i + 1) j (by omega) (by omega)

/-- The zeros behind. -/
theorem mk_l2 (n : Bool) (X : ByteArray) (e : Int) (hX : X.size ≤ 100000) (fr te : Nat) (hf : fr ≤ te) (ht : te ≤ X.size) (hz : ∀ i, te ≤ i → i < X.size → (by_ X).getD i 0 = 48) (hs : fr < te → (by_ X).getD (te - 1) 0 ≠ 48) : ∀ (m t j : Nat), t - te = m → te ≤ t → t ≤ X.size →
    tabardref7_Make.l2 (m + 1 + j) n X e (fr : Int) (t : Int) ((X.size - t : Nat) : Int) = tabardref7_Make.j4 j n X e (fr : Int) (te : Int) ((X.size - te : Nat) : Int) := by
  intro m
  induction m with
  | zero =>
    intro t j h h1 h2
    obtain rfl : t = te := by omega
    rw [show 0 + 1 + j = j + 1 by omega]
    simp only [tabardref7_Make.l2]
    by_cases hlt : fr < t
    · rw [if_pos (by omega), w64 (by omega) (by omega), if_pos (by omega), if_pos (by omega), show ((t : Int) - 1) = ((t - 1 : Nat) : Int) by omega, bt_get X (t - 1) (by omega), if_neg (fun h => hs hlt ((u48 _).1 h))]
    · rw [if_neg (by omega)]
  | succ m ih =>
    intro t j h h1 h2
    rw [show m + 1 + 1 + j = (m + 1 + j) + 1 by omega]
    simp only [tabardref7_Make.l2]
    rw [if_pos (by omega), w64 (by omega) (by omega), if_pos (by omega), if_pos (by omega), show ((t : Int) - 1) = ((t - 1 : Nat) : Int) by omega, bt_get X (t - 1) (by omega), if_pos ((u48 _).2 (hz (t - 1) (by omega) (by omega))), w64 (by omega) (by omega), show (((X.size - t : Nat) : Int) + 1) = ((X.size - (t - 1) : Nat) : Int) by omega]
    exact ih (t - 1) j (by omega) (by omega) (by omega)

/-- Make, of digits with zeros at both ends. -/
theorem make_eq (n : Bool) (X : ByteArray) (e : Int) (hX : X.size ≤ 2000) (he : -3000 ≤ e ∧ e ≤ 3000) (hd : (by_ X).all isDig = true) (fr te : Nat) (hf : fr ≤ te) (ht : te ≤ X.size) (h0 : fr = te → te = X.size) (hl : te - fr ≤ 1100)
    (hz1 : ∀ i, i < fr → (by_ X).getD i 0 = 48) (hs1 : fr < te → (by_ X).getD fr 0 ≠ 48) (hz2 : ∀ i, te ≤ i → i < X.size → (by_ X).getD i 0 = 48) (hs2 : fr < te → (by_ X).getD (te - 1) 0 ≠ 48) (k : Nat) (hk : 8000 ≤ k) :
    tabardref7_Make.f k n X e = some (if fr = te then (n, ⟨#[]⟩, 0, 0) else (n, X.extract fr te, e + (X.size - te : Nat), 0)) := by
  unfold tabardref7_Make.f
  obtain ⟨j, rfl⟩ : ∃ j, k = X.size + 1 + (fr + 1 + (((X.size - te) + 1 + (j + 1)) + 1)) := ⟨k - (X.size + 1 + (fr + 1 + (((X.size - te) + 1 + 1) + 1))), by omega⟩
  have hfs : fr < X.size → (by_ X).getD fr 0 ≠ 48 := fun h => by
    by_cases hh : fr < te
    · exact hs1 hh
    · exact absurd (h0 (by omega)) (by omega)
  rw [show (0 : Int) = ((0 : Nat) : Int) from rfl, mk_l0 n X e (by omega) hd X.size 0 _ (by omega) (by omega), show (0 : Int) = ((0 : Nat) : Int) from rfl, mk_l1 n X e (by omega) fr (by omega) hz1 hfs fr 0 _ (by omega) (by omega)]
  simp only [tabardref7_Make.j2]
  have h2 := mk_l2 n X e (by omega) fr te hf ht hz2 hs2 (X.size - te) X.size (j + 1) (by omega) ht (Nat.le_refl _)
  rw [Nat.sub_self] at h2
  rw [show (0 : Int) = ((0 : Nat) : Int) from rfl, h2]
  simp only [tabardref7_Make.j4]
  by_cases h : fr = te
  · rw [if_pos (by omega), if_pos h]
    rfl
  · rw [if_neg (by omega), if_neg h, w64 (by omega) (by omega), if_neg (by omega), if_neg (by omega), w64 (by omega) (by omega), if_neg (by omega), w64 (by omega) (by omega), if_neg (by omega), if_pos (by omega), if_pos (by omega), if_pos (by omega)]
    rfl
end Go.Proofs.YtmbhjogohfcjgaaDoor.Lm
