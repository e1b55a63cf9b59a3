/- Plain laws: sections, Right, small. -/
import Derived.Test.YtmbhjogohfcjgaaDoorPm6
import Derived.Test.YtmbhjogohfcjgaaDoorP6
import Derived.Test.YtmbhjogohfcjgaaDoorP7
import Derived.Test.YtmbhjogohfcjgaaDoorP8
namespace Go.Proofs.YtmbhjogohfcjgaaDoor.P
open Go.RowKit Go.Proofs.YtmbhjogohfcjgaaDoorW.PrintWords Go.Proofs.YtmbhjogohfcjgaaDoorW.PrintMore
set_option linter.unusedVariables false
set_option linter.unusedSimpArgs false
def scv (s : S62) : S66 := ⟨s.f0.map cv, s.f1, s.f2⟩
theorem rd_scv (l : List S62) (i : Int) : rd_T66 (l.map scv) i = scv (rd_T62 l i) := by
 unfold rd_T66 rd_T62
 rw [List.getD_eq_getElem?_getD, List.getD_eq_getElem?_getD, List.getElem?_map]
 cases l[i.toNat]? <;> rfl
theorem rds_get {l : List S62} {j : Nat} (hj : j < l.length) : rd_T62 l (j : Int) = l[j] := by
 unfold rd_T62
 rw [Int.toNat_natCast, List.getD_eq_getElem?_getD, List.getElem?_eq_getElem hj]; rfl
theorem section_l0 (l : List S88) (b : Bool) (sc : Int) (hl : l.length ≤ 1000000) : ∀ (d j k : Nat), l.length - j = d → j ≤ l.length → d < k → tabardlaw13_section.l0 k ((l.take j).map cv) j l b sc = some (l.map cv, b, sc)
 | 0, j, k, hd, hj, hk => by
  obtain ⟨k, rfl⟩ : ∃ k', k = k' + 1 := ⟨k - 1, by omega⟩
  rw [tabardlaw13_section.l0, if_neg (by omega : ¬ (j : Int) < (l.length : Int)), List.take_of_length_le (by omega)]
 | d + 1, j, k, hd, hj, hk => by
  obtain ⟨k, rfl⟩ : ∃ k', k = k' + 1 := ⟨k - 1, by omega⟩
  have hlt : j < l.length := by omega
  have e1 : ((j : Int) + 1) = ((j + 1 : Nat) : Int) := rfl
  have hlen : ((l.take j).map cv).length < 5864062014805 := by rw [List.length_map, List.length_take]; omega
  have hacc : (l.take j).map cv ++ [(⟨(l[j]).f0, (l[j]).f1⟩ : S98)] = (l.take (j + 1)).map cv := by rw [List.take_succ_eq_append_getElem hlt, List.map_append]; rfl
  rw [tabardlaw13_section.l0, if_pos (by omega : (j : Int) < (l.length : Int)), if_pos (by omega : (0 : Int) ≤ (j : Int)), if_pos hlen, rd_get hlt, w64a (n := (j : Int) + 1) (by omega), e1, hacc, section_l0 l b sc hl d (j + 1) k (by omega) (by omega) (by omega)]
theorem section_f (l : List S88) (b : Bool) (sc : Int) (k : Nat) (hl : l.length ≤ 1000000) (hk : l.length < k) : tabardlaw13_section.f k l b sc = some (l.map cv, b, sc) := by
 unfold tabardlaw13_section.f
 exact section_l0 l b sc hl l.length 0 k (by omega) (by omega) hk
theorem sections_l0 (L : List S62) (M : Nat) (hM : M ≤ 1000000) (hS : ∀ s ∈ L, s.f0.length ≤ M) (hn : L.length ≤ 1000000) : ∀ (d j k : Nat), L.length - j = d → j ≤ L.length → d + M + 1 < k → tabardlaw13_sections.l0 k ((L.take j).map scv) j L = some (L.map scv)
 | 0, j, k, hd, hj, hk => by
  obtain ⟨k, rfl⟩ : ∃ k', k = k' + 1 := ⟨k - 1, by omega⟩
  rw [tabardlaw13_sections.l0, if_neg (by omega : ¬ (j : Int) < (L.length : Int)), List.take_of_length_le (by omega)]
 | d + 1, j, k, hd, hj, hk => by
  obtain ⟨k, rfl⟩ : ∃ k', k = k' + 1 := ⟨k - 1, by omega⟩
  have hlt : j < L.length := by omega
  have e1 : ((j : Int) + 1) = ((j + 1 : Nat) : Int) := rfl
  have hsl := hS _ (List.getElem_mem hlt)
  have hs := section_f (L[j]).f0 (L[j]).f1 (L[j]).f2 k (by omega) (by omega)
  have hlen : ((L.take j).map scv).length < 3518437208883 := by rw [List.length_map, List.length_take]; omega
  have hacc : (L.take j).map scv ++ [(⟨(L[j]).f0.map cv, (L[j]).f1, (L[j]).f2⟩ : S66)] = (L.take (j + 1)).map scv := by rw [List.take_succ_eq_append_getElem hlt, List.map_append]; rfl
  rw [tabardlaw13_sections.l0, if_pos (by omega : (j : Int) < (L.length : Int)), if_pos (by omega : (0 : Int) ≤ (j : Int)), rds_get hlt, bs_ hs, if_pos hlen, w64a (n := (j : Int) + 1) (by omega), e1, hacc, sections_l0 L M hM hS hn d (j + 1) k (by omega) (by omega) (by omega)]
theorem sections_f (L : List S62) (M k : Nat) (hM : M ≤ 1000000) (hS : ∀ s ∈ L, s.f0.length ≤ M) (hn : L.length ≤ 1000000) (hk : L.length + M + 1 < k) : tabardlaw13_sections.f k L = some (L.map scv) := by
 unfold tabardlaw13_sections.f
 exact sections_l0 L M hM hS hn L.length 0 k (by omega) (by omega) hk
theorem wrong_if (t : Int) (n j : Nat) (N : Option Int) : (if t = 0 then some (j : Int) else (if t = 6 then (if (j : Int) < 3 then (if (n : Int) > 1 then some (j : Int) else (if (j : Int) = 3 then (if t = 1 then N else N) else N)) else (if (j : Int) = 3 then (if t = 1 then N else N) else N)) else (if (j : Int) = 3 then (if t = 1 then N else some (j : Int)) else N)))
  = if wrongIf t n j = true then some (j : Int) else N := by
 unfold wrongIf
 by_cases h0 : t = 0
 ·rw [if_pos h0, if_pos h0, if_pos rfl]
 rw [if_neg h0, if_neg h0]
 by_cases h6 : t = 6
 ·have h1' : ¬ t = 1 := by omega
  simp only [if_pos h6, if_neg h1', ite_self]
  by_cases h3 : j < 3
  ·rw [if_pos (by omega : (j : Int) < 3)]
   by_cases h1 : 1 < n
   ·rw [if_pos (by omega : (n : Int) > 1), if_pos (by simp [h3, h1])]
   ·rw [if_neg (by omega : ¬ (n : Int) > 1), if_neg (by simp [h1])]
  ·rw [if_neg (by omega : ¬ (j : Int) < 3), if_neg (by simp [h3])]
 rw [if_neg h6]
 by_cases h1 : t = 1
 ·rw [if_pos h1, if_pos h1, ite_self, if_neg (by simp)]
 ·rw [if_neg h1, if_neg h1, if_neg h6]
  by_cases h3 : j = 3
  ·rw [if_pos (by omega : (j : Int) = 3), if_pos (by simp [h3])]
  ·rw [if_neg (by omega : ¬ (j : Int) = 3), if_neg (by simp [h3])]
theorem wrong_l0 (L : List S62) (M : Nat) (hM : M ≤ 1000000) (hS : ∀ s ∈ L, s.f0.length ≤ M) (hn : L.length ≤ 1000000) : ∀ (d j k : Nat), L.length - j = d → j ≤ L.length → (∀ i, i < j → wrongAt L i = false) → d + 2 * M + 21 < k → tabardref13_wrong.l0 k (L.map scv) j = some (wrongOf L)
 | 0, j, k, hd, hj, hw, hk => by
  obtain ⟨k, rfl⟩ : ∃ k', k = k' + 1 := ⟨k - 1, by omega⟩
  rw [tabardref13_wrong.l0, List.length_map, if_neg (by omega : ¬ (j : Int) < (L.length : Int)), wrongOf_none (fun i hi => hw i (by omega))]
 | d + 1, j, k, hd, hj, hw, hk => by
  obtain ⟨k, rfl⟩ : ∃ k', k = k' + 1 := ⟨k - 1, by omega⟩
  have hlt : j < L.length := by omega
  have e1 : ((j : Int) + 1) = ((j + 1 : Nat) : Int) := rfl
  have hsl := hS _ (List.getElem_mem hlt)
  have hs := shape_f (L[j]).f0 (L[j]).f1 (L[j]).f2 k (by omega) (by omega)
  have hr : rd_T66 (L.map scv) (j : Int) = scv L[j] := by rw [rd_scv, rds_get hlt]
  have hwa : wrongAt L j = wrongIf (shapeOf (L[j]).f0 (L[j]).f1 (L[j]).f2) L.length j := by unfold wrongAt; rw [rds_get hlt]
  have hs' : tabardref13_Shape.f k (scv L[j]).f0 (scv L[j]).f1 (scv L[j]).f2 = some (shapeOf (L[j]).f0 (L[j]).f1 (L[j]).f2) := hs
  rw [tabardref13_wrong.l0, List.length_map, if_pos (by omega : (j : Int) < (L.length : Int)), if_pos (by omega : (0 : Int) ≤ (j : Int)), hr, bs_ hs', wrong_if, ← hwa]
  by_cases h : wrongAt L j = true
  ·rw [if_pos h, wrongOf_some hlt hw h]
  ·have h' : wrongAt L j = false := by simpa using h
   rw [if_neg h, w64a (n := (j : Int) + 1) (by omega), e1, wrong_l0 L M hM hS hn d (j + 1) k (by omega) (by omega) (fun i hi => by
    rcases Nat.lt_or_ge i j with h2 | h2
    ·exact hw i h2
    ·have : i = j := by omega
     rw [this]; exact h') (by omega)]
theorem wrong_f (L : List S62) (M k : Nat) (hM : M ≤ 1000000) (hS : ∀ s ∈ L, s.f0.length ≤ M) (hn : L.length ≤ 1000000) (hk : L.length + 2 * M + 21 < k) : tabardref13_wrong.f k (L.map scv) = some (wrongOf L) := by
 unfold tabardref13_wrong.f
 exact wrong_l0 L M hM hS hn L.length 0 k (by omega) (by omega) (fun i hi => absurd hi (by omega)) hk
def sl (L : List S62) : Nat := (L.map (fun s => s.f0.length)).sum
theorem sl_drop {L : List S62} {j : Nat} (hj : j < L.length) : sl (L.drop j) = (L[j]).f0.length + sl (L.drop (j + 1)) := by
 unfold sl
 rw [List.drop_eq_getElem_cons hj, List.map_cons, List.sum_cons]
def RT (L : List S62) : Bool := if 100 < sl L then false else decide (wrongOf L < 0)
theorem refRight_l0 (L : List S62) (M : Nat) (hM : M ≤ 1000000) (hS : ∀ s ∈ L, s.f0.length ≤ M) (hn : L.length ≤ 4) : ∀ (d j k a : Nat), L.length - j = d → j ≤ L.length → a + sl (L.drop j) = sl L → a ≤ 100 * j → 2 * d + 2 * M + 30 < k → tabardref13_Right.l0 k (L.map scv) a j = some (RT L)
 | 0, j, k, a, hd, hj, ha, hb, hk => by
  obtain ⟨k, rfl⟩ : ∃ k', k = k' + 1 := ⟨k - 1, by omega⟩
  have hw := wrong_f L M k hM hS (by omega) (by omega)
  rw [List.drop_eq_nil_of_le (by omega)] at ha
  have ha : a + 0 = sl L := ha
  rw [tabardref13_Right.l0, List.length_map, if_neg (by omega : ¬ (j : Int) < (L.length : Int))]
  unfold RT
  by_cases h : a ≤ 100
  ·rw [if_pos (by omega : (a : Int) ≤ 100), bs_ hw, if_neg (by omega)]
  ·rw [if_neg (by omega : ¬ (a : Int) ≤ 100), if_pos (by omega)]
 | d + 1, j, k, a, hd, hj, ha, hb, hk => by
  obtain ⟨k, rfl⟩ : ∃ k', k = k' + 1 := ⟨k - 1, by omega⟩
  have hlt : j < L.length := by omega
  have e1 : ((j : Int) + 1) = ((j + 1 : Nat) : Int) := rfl
  have hr : ((rd_T66 (L.map scv) (j : Int)).f0.length : Int) = ((L[j]).f0.length : Int) := by rw [rd_scv, rds_get hlt]; show (((L[j]).f0.map cv).length : Int) = _; rw [List.length_map]
  rw [sl_drop hlt] at ha
  rw [tabardref13_Right.l0, List.length_map, if_pos (by omega : (j : Int) < (L.length : Int)), if_pos (by omega : (0 : Int) ≤ (j : Int)), hr]
  by_cases h : 100 < (L[j]).f0.length
  ·rw [if_pos (by omega : ((L[j]).f0.length : Int) > 100)]
   unfold RT
   rw [if_pos (by omega)]
  ·have e2 : (a : Int) + ((L[j]).f0.length : Int) = ((a + (L[j]).f0.length : Nat) : Int) := rfl
   rw [if_neg (by omega : ¬ ((L[j]).f0.length : Int) > 100), w64a (n := (j : Int) + 1) (by omega), w64a (n := (a : Int) + ((L[j]).f0.length : Int)) (by omega), e1, e2, refRight_l0 L M hM hS hn d (j + 1) k (a + (L[j]).f0.length) (by omega) (by omega) (by omega) (by omega) (by omega)]
theorem patRight_l0 (L : List S62) (hS : ∀ s ∈ L, s.f0.length ≤ 1000000) (hn : L.length ≤ 4) : ∀ (d j k a : Nat), L.length - j = d → j ≤ L.length → a + sl (L.drop j) = sl L → a ≤ 100 → d < k → pattern_Right.l0 k a L (L.length : Int) j L = some (RT L)
 | 0, j, k, a, hd, hj, ha, hb, hk => by
  obtain ⟨k, rfl⟩ : ∃ k', k = k' + 1 := ⟨k - 1, by omega⟩
  have hw : pattern_Pattern_wrong.f L = some (wrongOf L) := by
   unfold pattern_Pattern_wrong.f
   rw [if_pos ⟨by omega, List.all_eq_true.2 (fun s hs => decide_eq_true (hS s hs))⟩]
  rw [List.drop_eq_nil_of_le (by omega)] at ha
  have ha : a + 0 = sl L := ha
  rw [pattern_Right.l0, if_neg (by omega : ¬ (j : Int) < (L.length : Int)), bs_ hw]
  unfold RT
  rw [if_neg (by omega)]
 | d + 1, j, k, a, hd, hj, ha, hb, hk => by
  obtain ⟨k, rfl⟩ : ∃ k', k = k' + 1 := ⟨k - 1, by omega⟩
  have hlt : j < L.length := by omega
  have e1 : ((j : Int) + 1) = ((j + 1 : Nat) : Int) := rfl
  have hsl := hS _ (List.getElem_mem hlt)
  have e2 : (a : Int) + ((L[j]).f0.length : Int) = ((a + (L[j]).f0.length : Nat) : Int) := rfl
  rw [sl_drop hlt] at ha
  rw [pattern_Right.l0, if_pos (by omega : (j : Int) < (L.length : Int)), if_pos (by omega : (0 : Int) ≤ (j : Int)), if_pos (by omega : (j : Int) < (L.length : Int)), rds_get hlt, w64a (n := (a : Int) + ((L[j]).f0.length : Int)) (by omega), e2]
  by_cases h : 100 < a + (L[j]).f0.length
  ·rw [if_pos (by omega : ((a + (L[j]).f0.length : Nat) : Int) > 100)]
   unfold RT
   rw [if_pos (by omega)]
  ·rw [if_neg (by omega : ¬ ((a + (L[j]).f0.length : Nat) : Int) > 100), w64a (n := (j : Int) + 1) (by omega), e1, patRight_l0 L hS hn d (j + 1) k _ (by omega) (by omega) (by omega) (by omega) (by omega)]
theorem right_same (L : List S62) (M k : Nat) (hM : M ≤ 1000000) (hS : ∀ s ∈ L, s.f0.length ≤ M) (hk : 2 * M + 60 < k) : ∃ r, pattern_Right.f k L = some r ∧ tabardref13_Right.f k (L.map scv) = some r ∧ (r = true → L.length ≤ 4 ∧ sl L ≤ 100 ∧ wrongOf L < 0) := by
 obtain ⟨k, rfl⟩ : ∃ k', k = k' + 1 := ⟨k - 1, by omega⟩
 unfold pattern_Right.f tabardref13_Right.f
 rw [List.length_map]
 by_cases h1 : L.length < 1
 ·rw [if_pos (by omega), if_pos (by omega), pattern_Right.j0, tabardref13_Right.j0, if_pos rfl, if_pos rfl]
  exact ⟨false, rfl, rfl, fun h => by cases h⟩
 rw [if_neg (by omega), if_neg (by omega)]
 by_cases h4 : L.length > 4
 ·rw [decide_eq_true (by omega), pattern_Right.j0, tabardref13_Right.j0, if_pos rfl, if_pos rfl]
  exact ⟨false, rfl, rfl, fun h => by cases h⟩
 ·have hff : ¬ (false = true) := by simp
  have ha := patRight_l0 L (fun s hs => Nat.le_trans (hS s hs) hM) (by omega) L.length 0 k 0 (by omega) (by omega) (by rw [List.drop_zero, Nat.zero_add]) (by omega) (by omega)
  have hb := refRight_l0 L M hM hS (by omega) L.length 0 k 0 (by omega) (by omega) (by rw [List.drop_zero, Nat.zero_add]) (by omega) (by omega)
  rw [decide_eq_false (by omega), pattern_Right.j0, tabardref13_Right.j0, if_neg hff, if_neg hff]
  refine ⟨RT L, ha, hb, fun h => ?_⟩
  unfold RT at h
  by_cases hs : 100 < sl L
  ·rw [if_pos hs] at h; cases h
  ·rw [if_neg hs, decide_eq_true_iff] at h
   exact ⟨by omega, by omega, h⟩
def Bnd (L : List S62) (j : Nat) : Prop := ∀ i, j ≤ i → ∀ h : i < L.length, (L[i]'h).f0.length ≤ 300
set_option maxRecDepth 100000 in
theorem small_l1 (L : List S62) (d j : Nat) (hlt : j < L.length) (hn : L.length ≤ 8) (h300 : (L[j]).f0.length ≤ 300)
  (H : ∀ x k : Nat, x ≤ 300 * (j + 1) → d * 302 + 5 < k → ∃ b, tabardlaw13_small.l0 k x ((j + 1 : Nat) : Int) L = some b ∧ (b = true → Bnd L (j + 1))) :
  ∀ (e i k x : Nat), (L[j]).f0.length - i = e → x + e ≤ 300 * (j + 1) → e + d * 302 + 6 < k → ∃ b, tabardlaw13_small.l1 k x j i L = some b ∧ (b = true → Bnd L (j + 1))
 | 0, i, k, x, he, hx, hk => by
  obtain ⟨k, rfl⟩ : ∃ k', k = k' + 1 := ⟨k - 1, by omega⟩
  have e1 : ((j : Int) + 1) = ((j + 1 : Nat) : Int) := rfl
  rw [tabardlaw13_small.l1, if_pos (by omega : (0 : Int) ≤ (j : Int)), if_pos (by omega : (j : Int) < (L.length : Int)), rds_get hlt, if_neg (by omega : ¬ (i : Int) < ((L[j]).f0.length : Int)), w64a (n := (j : Int) + 1) (by omega), e1]
  exact H x k (by omega) (by omega)
 | e + 1, i, k, x, he, hx, hk => by
  obtain ⟨k, rfl⟩ : ∃ k', k = k' + 1 := ⟨k - 1, by omega⟩
  have e1 : ((i : Int) + 1) = ((i + 1 : Nat) : Int) := rfl
  have e2 : ((x : Int) + 1) = ((x + 1 : Nat) : Int) := rfl
  rw [tabardlaw13_small.l1, if_pos (by omega : (0 : Int) ≤ (j : Int)), if_pos (by omega : (j : Int) < (L.length : Int)), rds_get hlt, if_pos (by omega : (i : Int) < ((L[j]).f0.length : Int)), if_pos (by omega : (0 : Int) ≤ (i : Int))]
  by_cases h : ((rd_T88 (L[j]).f0 (i : Int)).f1.size : Int) > 100
  ·rw [if_pos h]
   exact ⟨false, rfl, fun h => by cases h⟩
  ·rw [if_neg h, w64a (n := (i : Int) + 1) (by omega), w64a (n := (x : Int) + 1) (by omega), e1, e2]
   exact small_l1 L d j hlt hn h300 H e (i + 1) k (x + 1) (by omega) (by omega) (by omega)
set_option maxRecDepth 100000 in
theorem small_l0 (L : List S62) (hn : L.length ≤ 8) : ∀ (d j k x : Nat), L.length - j = d → j ≤ L.length → x ≤ 300 * j → d * 302 + 5 < k → ∃ b, tabardlaw13_small.l0 k x j L = some b ∧ (b = true → Bnd L j)
 | 0, j, k, x, hd, hj, hx, hk => by
  obtain ⟨k, rfl⟩ : ∃ k', k = k' + 1 := ⟨k - 1, by omega⟩
  rw [tabardlaw13_small.l0, if_neg (by omega : ¬ (j : Int) < (L.length : Int))]
  exact ⟨_, rfl, fun _ i hi h => absurd h (by omega)⟩
 | d + 1, j, k, x, hd, hj, hx, hk => by
  obtain ⟨k, rfl⟩ : ∃ k', k = k' + 1 := ⟨k - 1, by omega⟩
  have hlt : j < L.length := by omega
  rw [tabardlaw13_small.l0, if_pos (by omega : (j : Int) < (L.length : Int)), if_pos (by omega : (0 : Int) ≤ (j : Int)), rds_get hlt]
  by_cases h : ((L[j]).f0.length : Int) > 300
  ·rw [if_pos h]
   exact ⟨false, rfl, fun h => by cases h⟩
  ·rw [if_neg h]
   obtain ⟨b, hb, hB⟩ := small_l1 L d j hlt hn (by omega) (fun x k hx hk => small_l0 L hn d (j + 1) k x (by omega) (by omega) (by omega) (by omega)) (L[j]).f0.length 0 k x (by omega) (by omega) (by omega)
   refine ⟨b, hb, fun hbt i hi h2 => ?_⟩
   rcases Nat.lt_or_ge j i with h3 | h3
   ·exact hB hbt i h3 h2
   ·have : i = j := by omega
    subst this
    omega
set_option maxRecDepth 100000 in
theorem small_f (L : List S62) : ∃ b, tabardlaw13_small.f 6000 L = some b ∧ (b = true → L.length ≤ 8 ∧ ∀ s ∈ L, s.f0.length ≤ 300) := by
 unfold tabardlaw13_small.f
 by_cases h : (L.length : Int) > 8
 ·rw [if_pos h]
  exact ⟨false, rfl, fun h => by cases h⟩
 ·rw [if_neg h]
  obtain ⟨b, hb, hB⟩ := small_l0 L (by omega) L.length 0 6000 0 (by omega) (by omega) (by omega) (by omega)
  refine ⟨b, hb, fun hbt => ⟨by omega, fun s hs => ?_⟩⟩
  obtain ⟨i, hi, rfl⟩ := List.mem_iff_getElem.1 hs
  exact hB hbt i (Nat.zero_le _) hi
end Go.Proofs.YtmbhjogohfcjgaaDoor.P
