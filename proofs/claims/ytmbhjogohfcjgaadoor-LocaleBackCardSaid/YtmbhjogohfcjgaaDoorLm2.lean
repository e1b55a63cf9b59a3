/- The printed functions of grouping are the plain ones: locale's Grouped and Plain, the reference's Grouped and Plain. -/
import Derived.Test.YtmbhjogohfcjgaaDoorL3
import Derived.Test.YtmbhjogohfcjgaaDoorLm1
namespace Go.Proofs.YtmbhjogohfcjgaaDoor.Lm
open Go.RowKit Go.Proofs.YtmbhjogohfcjgaaDoorW.PrintWords Go.Proofs.YtmbhjogohfcjgaaDoorW.PrintLast Go.Proofs.YtmbhjogohfcjgaaDoorW.PrintMore Go.Proofs.YtmbhjogohfcjgaaDoor.L
set_option linter.unusedVariables false
set_option linter.unusedSimpArgs false

/-- The bytes of a text. -/
abbrev by_ (s : ByteArray) : List UInt8 := s.data.toList
/-- A text of bytes. -/
abbrev tx (l : List UInt8) : ByteArray := ⟨l.toArray⟩

theorem tx_by (s : ByteArray) : tx (by_ s) = s := rfl
theorem by_len (s : ByteArray) : (by_ s).length = s.size := by rw [Array.length_toList]; rfl
theorem by_app (s t : ByteArray) : by_ (s ++ t) = by_ s ++ by_ t := by simp [by_, ByteArray.data_append]
theorem by_ext {s t : ByteArray} (h : by_ s = by_ t) : s = t := ByteArray.ext (Array.ext' h)
theorem toList_by (s : ByteArray) : s.toList = by_ s := ByteArray.toList_eq s
theorem by_extract (s : ByteArray) (a b : Nat) : by_ (s.extract a b) = ((by_ s).drop a).take (b - a) := Lib.extract_data s a b
theorem w64 {i : Int} (h1 : -9223372036854775808 ≤ i) (h2 : i ≤ 9223372036854775807) : wrap64 i = i := by unfold wrap64; omega
theorem bt_by (s : ByteArray) (i : Nat) (h : i < s.size) : bt s (i : Int) = (((by_ s)[i]'(by rw [by_len]; exact h)).toNat : Int) := by
  unfold bt
  rw [dif_pos (by simpa using h)]
  simp only [Int.toNat_natCast]
  rfl
theorem drop_cons (s : ByteArray) (i : Nat) (h : i < s.size) : (by_ s).drop i = ((by_ s)[i]'(by rw [by_len]; exact h)) :: (by_ s).drop (i + 1) :=
  List.drop_eq_getElem_cons (by rw [by_len]; exact h)

/-- The sizes of the groups of a locale, and the reference's number for them. -/
def Szs (l : List Int) (sec : Nat) : Prop := (l = [3] ∧ sec = 3) ∨ (l = [3, 2] ∧ sec = 2)
theorem Szs.pos {l : List Int} {sec : Nat} (h : Szs l sec) : 0 < sec ∧ sec ≤ 3 := by
  rcases h with ⟨_, rfl⟩ | ⟨_, rfl⟩ <;> exact ⟨by decide, by decide⟩

theorem size_eq {l : List Int} {sec : Nat} (h : Szs l sec) (f0 f1 f2 f3 f4 f5 f6 : ByteArray) (b0 b1 : Bool) (i : Nat) :
    locale_Locale_size.f f0 f1 f2 f3 f4 f5 f6 b0 b1 l (i : Int) = some (gsz sec i : Int) := by
  rcases h with ⟨rfl, rfl⟩ | ⟨rfl, rfl⟩
  · have hm : mn (i : Int) (wrap64 ((([3] : List Int).length : Int) - 1)) = 0 := by
      have : wrap64 ((([3] : List Int).length : Int) - 1) = 0 := by unfold wrap64; simp
      rw [this]; unfold mn; split <;> omega
    unfold locale_Locale_size.f
    rw [if_neg (by decide), hm, if_pos (by decide), if_pos (by decide)]
    unfold gsz
    by_cases h0 : i = 0 <;> simp [h0] <;> decide
  · have h1 : wrap64 ((([3, 2] : List Int).length : Int) - 1) = 1 := by unfold wrap64; simp
    unfold locale_Locale_size.f
    rw [if_neg (by decide), h1]
    by_cases h0 : i = 0
    · subst h0
      decide
    · have hm : mn (i : Int) 1 = 1 := by unfold mn; split <;> omega
      rw [hm, if_pos (by decide), if_pos (by decide)]
      unfold gsz
      rw [if_neg h0]
      decide

theorem prog_grouped {l : List Int} {sec : Nat} (h : Szs l sec) (f0 f1 G f3 f4 f5 f6 : ByteArray) (b0 b1 : Bool) (hG : G.size ≤ 3) : ∀ (k i : Nat) (x s : ByteArray), x.size < k → x.size * 4 + s.size ≤ 4000000 → i + x.size ≤ 4000000 →
    locale_Locale_Grouped.l0 k x s (i : Int) f0 f1 G f3 f4 f5 f6 b0 b1 l = some (tx (cutg (by_ G) sec k i (by_ x) (by_ s))) := by
  intro k
  induction k with
  | zero => intro i x s hx; omega
  | succ k ih =>
    intro i x s hx hl hi
    have hz : 0 < gsz sec i := by unfold gsz; have := h.pos; split <;> omega
    have hz3 : gsz sec i ≤ 3 := by unfold gsz; have := h.pos; split <;> omega
    simp only [locale_Locale_Grouped.l0, size_eq h, Option.bind_some, cutg, by_len]
    by_cases hc : gsz sec i < x.size
    · have e1 : wrap64 ((x.size : Int) - (gsz sec i : Int)) = ((x.size - gsz sec i : Nat) : Int) := by unfold wrap64; omega
      have e2 : wrap64 ((i : Int) + 1) = ((i + 1 : Nat) : Int) := by unfold wrap64; omega
      have he : (x.extract (x.size - gsz sec i) x.size).size = gsz sec i := by rw [← by_len, by_extract]; simp [by_len]; omega
      have he0 : (x.extract 0 (x.size - gsz sec i)).size = x.size - gsz sec i := by rw [← by_len, by_extract]; simp [by_len]
      rw [if_pos (by omega), if_pos hc, e1, e2]
      simp only [Int.toNat_natCast]
      have hs1 : (G ++ x.extract (x.size - gsz sec i) x.size).size = G.size + gsz sec i := by rw [ByteArray.size_append, he]
      rw [if_pos (by omega), if_pos (by omega), if_pos (by omega), if_pos (by omega)]
      rw [ih (i + 1) _ _ (by omega) (by rw [ByteArray.size_append, hs1]; omega) (by omega)]
      congr 2
      rw [by_app, by_app, by_extract, by_extract]
      simp only [List.drop_zero, Nat.sub_zero]
      congr 2
      rw [List.take_of_length_le (by simp [by_len])]
    · rw [if_neg (by omega), if_neg hc, if_pos (by omega)]
      rw [← by_app]

theorem ref_grouped {sec : Nat} (h0 : 0 < sec) (h3 : sec ≤ 3) (f0 f1 G f3 f4 f5 f6 : ByteArray) (b0 b1 : Bool) (hG : G.size ≤ 3) : ∀ (d k i : Nat) (x s : ByteArray), x.size - i = d → d < k → i ≤ x.size → x.size ≤ 1000000 → s.size + (x.size - i) * 4 ≤ 4000000 →
    tabardref11_Locale_Grouped.l0 k x s (i : Int) f0 f1 G f3 f4 f5 f6 b0 b1 (sec : Int) = some (tx (by_ s ++ grp (by_ G) sec 0 (i == 0) ((by_ x).drop i))) := by
  intro d
  induction d with
  | zero =>
    intro k i x s hd hk hi hx hs
    obtain ⟨k, rfl⟩ : ∃ m, k = m + 1 := ⟨k - 1, by omega⟩
    simp only [tabardref11_Locale_Grouped.l0]
    rw [if_neg (by omega), List.drop_of_length_le (by rw [by_len]; omega)]
    simp [grp]
  | succ d ih =>
    intro k i x s hd hk hi hx hs
    obtain ⟨k, rfl⟩ : ∃ m, k = m + 1 := ⟨k - 1, by omega⟩
    have hlt : i < x.size := by omega
    have e2 : wrap64 ((i : Int) + 1) = ((i + 1 : Nat) : Int) := by unfold wrap64; omega
    have e1 : wrap64 ((x.size : Int) - (i : Int)) = ((x.size - i : Nat) : Int) := by unfold wrap64; omega
    have he : (x.extract i (i + 1)).size = 1 := by rw [← by_len, by_extract]; simp [by_len]; omega
    have heb : by_ (x.extract i (i + 1)) = [((by_ x)[i]'(by rw [by_len]; exact hlt))] := by
      rw [by_extract, drop_cons x i hlt]
      have : i + 1 - i = 1 := by omega
      rw [this]
      rfl
    have hdl : ((by_ x).drop (i + 1)).length + 1 + 0 = x.size - i := by simp [by_len]; omega
    simp only [tabardref11_Locale_Grouped.l0, e1, e2]
    simp only [Int.toNat_natCast]
    rw [if_pos (by omega), drop_cons x i hlt]
    simp only [grp]
    rw [hdl]
    -- the row goes on without a mark
    have plain : (if (0 : Int) ≤ (i : Int) then (if (i : Int) ≤ ((i + 1 : Nat) : Int) then (if ((i + 1 : Nat) : Int) ≤ (x.size : Int) then (if s.size + (x.extract i (i + 1)).size ≤ 9223372036854775807 then (tabardref11_Locale_Grouped.l0 k x (s ++ (x.extract i (i + 1))) ((i + 1 : Nat) : Int) f0 f1 G f3 f4 f5 f6 b0 b1 (sec : Int)) else none) else none) else none) else none)
        = some (tx (by_ s ++ ([] ++ ((by_ x)[i]'(by rw [by_len]; exact hlt)) :: grp (by_ G) sec 0 false ((by_ x).drop (i + 1))))) := by
      rw [if_pos (by omega), if_pos (by omega), if_pos (by omega), if_pos (by omega), ih k (i + 1) x _ (by omega) (by omega) (by omega) hx (by rw [ByteArray.size_append, he]; omega)]
      have : ((i + 1 == 0) : Bool) = false := by simp
      rw [this, by_app, heb]
      simp
    by_cases hi0 : i = 0
    · subst hi0
      rw [if_neg (show ¬ ((0 : Nat) : Int) > 0 by omega)]
      exact plain
    · rw [if_pos (show (i : Int) > 0 by omega)]
      have hb : (i == 0) = false := by simpa using hi0
      rw [hb, Bool.not_false, Bool.true_and]
      by_cases h3' : 3 ≤ x.size - i
      · have e3 : wrap64 (((x.size - i : Nat) : Int) - 3) = ((x.size - i - 3 : Nat) : Int) := by unfold wrap64; omega
        rw [if_pos (show ((x.size - i : Nat) : Int) ≥ 3 by omega), if_neg (show ¬ (sec : Int) = 0 by omega), e3]
        have et : Int.tmod ((x.size - i - 3 : Nat) : Int) (sec : Int) = (((x.size - i - 3) % sec : Nat) : Int) := rfl
        rw [et]
        by_cases hm : (x.size - i - 3) % sec = 0
        · have hmk : mark sec (x.size - i) = true := by unfold mark; simp [h3', hm]
          have hsz : (s ++ G).size + (x.extract i (i + 1)).size ≤ 9223372036854775807 := by rw [ByteArray.size_append]; omega
          rw [hmk, if_pos (show (((x.size - i - 3) % sec : Nat) : Int) = 0 by omega), if_pos (show s.size + G.size ≤ 9223372036854775807 by omega), if_pos (show (0 : Int) ≤ (i : Int) by omega), if_pos (show (i : Int) ≤ ((i + 1 : Nat) : Int) by omega), if_pos (show ((i + 1 : Nat) : Int) ≤ (x.size : Int) by omega), if_pos hsz, ih k (i + 1) x _ (by omega) (by omega) (by omega) hx (by rw [ByteArray.size_append, ByteArray.size_append, he]; omega)]
          have : ((i + 1 == 0) : Bool) = false := by simp
          rw [this, by_app, by_app, heb]
          simp
        · have hmk : mark sec (x.size - i) = false := by unfold mark; simp [hm]
          rw [hmk, if_neg (show ¬ (((x.size - i - 3) % sec : Nat) : Int) = 0 by omega)]
          exact plain
      · have hmk : mark sec (x.size - i) = false := by unfold mark; rw [decide_eq_false h3', Bool.false_and]
        rw [hmk, if_neg (show ¬ ((x.size - i : Nat) : Int) ≥ 3 by omega)]
        exact plain
end Go.Proofs.YtmbhjogohfcjgaaDoor.Lm
