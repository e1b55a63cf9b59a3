/- Plain laws: a section's shape by the reference is the program's. -/
import Derived.Test.YtmbhjogohfcjgaaDoorPm5
namespace Go.Proofs.YtmbhjogohfcjgaaDoor.P
open Go.RowKit Go.Proofs.YtmbhjogohfcjgaaDoorW.PrintWords Go.Proofs.YtmbhjogohfcjgaaDoorW.PrintMore
set_option linter.unusedVariables false
set_option linter.unusedSimpArgs false
theorem s2 (L : Int) (hL : L ≤ 1000000) (a b : Int) (ha : 0 ≤ a ∧ a ≤ L) (hb : 0 ≤ b ∧ b ≤ L) : wrap64 (a + b) = a + b := w64a (by omega)
theorem s3 (L : Int) (hL : L ≤ 1000000) (a b c : Int) (ha : 0 ≤ a ∧ a ≤ L) (hb : 0 ≤ b ∧ b ≤ L) (hc : 0 ≤ c ∧ c ≤ L) : wrap64 (a + b + c) = a + b + c := w64a (by omega)
theorem s4 (L : Int) (hL : L ≤ 1000000) (a b c d : Int) (ha : 0 ≤ a ∧ a ≤ L) (hb : 0 ≤ b ∧ b ≤ L) (hc : 0 ≤ c ∧ c ≤ L) (hd : 0 ≤ d ∧ d ≤ L) : wrap64 (a + b + c + d) = a + b + c + d := w64a (by omega)
theorem s5 (L : Int) (hL : L ≤ 1000000) (z a b c d : Int) (hz : 0 ≤ z ∧ z ≤ L) (ha : 0 ≤ a ∧ a ≤ L) (hb : 0 ≤ b ∧ b ≤ L) (hc : 0 ≤ c ∧ c ≤ L) (hd : 0 ≤ d ∧ d ≤ L) : wrap64 (z + (a + b + c + d)) = z + (a + b + c + d) := w64a (by omega)
theorem s6 (L : Int) (hL : L ≤ 1000000) (z a b c d y : Int) (hz : 0 ≤ z ∧ z ≤ L) (ha : 0 ≤ a ∧ a ≤ L) (hb : 0 ≤ b ∧ b ≤ L) (hc : 0 ≤ c ∧ c ≤ L) (hd : 0 ≤ d ∧ d ≤ L) (hy : 0 ≤ y ∧ y ≤ L) : wrap64 (z + (a + b + c + d) + y) = z + (a + b + c + d) + y := w64a (by omega)
set_option maxHeartbeats 4000000 in
theorem shape_j1 (l : List S88) (k : Nat) (bare b : Bool) (sc : Int) (hl : l.length ≤ 1000000) (hk : l.length < k) :
  tabardref13_Shape.j1 (k + 3) (l.map cv) (cntOf l 2) bare (l.map cv) b sc = some (SH l bare b sc) := by
 have hk2 : l.length < k + 2 := by omega
 have e := fun q => cntOf_le l q
 have c := fun q => count_f l q (k + 2) hl hk2
 have cf := fraction_f l (k + 1) hl (by omega)
 have cn := number_f l k b sc hl hk
 have hL : (l.length : Int) ≤ 1000000 := by omega
 have w1 := s2 _ hL _ _ (e 3) (e 4)
 have w2 := s3 _ hL _ _ _ (e 3) (e 4) (e 5)
 have w3 := s4 _ hL _ _ _ _ (e 3) (e 4) (e 5) (e 6)
 have w4 := s5 _ hL _ _ _ _ _ (e 2) (e 3) (e 4) (e 5) (e 6)
 have w5 := s6 _ hL _ _ _ _ _ _ (e 2) (e 3) (e 4) (e 5) (e 6) (e 8)
 have w6 := s6 _ hL _ _ _ _ _ _ (e 2) (e 3) (e 4) (e 5) (e 6) (e 9)
 rw [tabardref13_Shape.j1, bs_ (c 3), bs_ (c 4), bs_ (c 5), bs_ (c 6), bs_ (c 7)]
 unfold SH
 by_cases h7 : cntOf l 7 > 0
 ·rw [if_pos h7, if_pos h7, bs_ (c 7)]
  by_cases h71 : cntOf l 7 = 1
  ·rw [if_pos h71, bs_ (c 8), w1, w2, w3, w4, w5]
   by_cases hs : cntOf l 2 + (cntOf l 3 + cntOf l 4 + cntOf l 5 + cntOf l 6) + cntOf l 8 = 0
   ·rw [if_pos hs]
    cases bare with
    | true => rw [if_pos rfl, if_pos ⟨h71, hs, rfl⟩]
    | false => rw [if_neg (by simp), if_neg (fun h => absurd h.2.2 (by simp))]
   ·rw [if_neg hs, if_neg (fun h => hs h.2.1)]
  ·rw [if_neg h71, if_neg (fun h => h71 h.1)]
 rw [if_neg h7, if_neg h7, bs_ (c 8)]
 by_cases h8 : cntOf l 8 > 0
 ·rw [if_pos h8, if_pos h8, bs_ (c 9), w1, w2, w3, w4, w6]
  by_cases hs : cntOf l 2 + (cntOf l 3 + cntOf l 4 + cntOf l 5 + cntOf l 6) + cntOf l 9 = 0
  ·rw [if_pos hs]
   cases bare with
   | true => rw [if_pos rfl, if_pos ⟨hs, rfl⟩]
   | false => rw [if_neg (by simp), if_neg (fun h => absurd h.2 (by simp))]
  ·rw [if_neg hs, if_neg (fun h => hs h.1)]
 rw [if_neg h8, if_neg h8, w1, w2, w3, w4]
 by_cases hs : cntOf l 2 + (cntOf l 3 + cntOf l 4 + cntOf l 5 + cntOf l 6) = 0
 ·rw [if_pos hs, if_pos hs, some_ite]
 rw [if_neg hs, if_neg hs, bs_ (c 6)]
 by_cases h6 : cntOf l 6 > 0
 ·rw [if_pos h6, if_pos h6, bs_ cf, some_ite]
  rfl
 ·rw [if_neg h6, if_neg h6, bs_ cn]
set_option maxHeartbeats 1000000 in
theorem shape_l0 (l : List S88) (b : Bool) (sc : Int) (hl : l.length ≤ 1000000) : ∀ (d j k : Nat), l.length - j = d → j ≤ l.length → d + l.length + 20 < k → tabardref13_Shape.l0 k (l.map cv) j (l.map cv) b sc = some (if (l.drop j).all okItem = true then SH l (!b && sc == 0) b sc else 0)
 | 0, j, k, hd, hj, hk => by
  obtain ⟨k, rfl⟩ : ∃ k', k = k' + 4 := ⟨k - 4, by omega⟩
  have c2 := count_f l 2 (k + 3) hl (by omega)
  rw [tabardref13_Shape.l0, List.length_map, if_neg (by omega : ¬ (j : Int) < (l.length : Int)), bs_ c2, List.drop_eq_nil_of_le (by omega)]
  rw [shape_j1 l k false b sc hl (by omega), shape_j1 l k (sc == 0) b sc hl (by omega)]
  rw [if_pos (show ([] : List S88).all okItem = true from rfl)]
  cases b with
  | true => rw [if_pos rfl]; rfl
  | false => rw [if_neg (by simp)]; rfl
 | d + 1, j, k, hd, hj, hk => by
  obtain ⟨k, rfl⟩ : ∃ k', k = k' + 10 := ⟨k - 10, by omega⟩
  have hlt : j < l.length := by omega
  have e1 : ((j : Int) + 1) = ((j + 1 : Nat) : Int) := rfl
  have hi := item_f (l[j]).f0 (l[j]).f1 k
  have hr0 : (rd_T98 (l.map cv) (j : Int)).f0 = (l[j]).f0 := by rw [rd_cv, rd_get hlt]; rfl
  have hr1 : (rd_T98 (l.map cv) (j : Int)).f1 = (l[j]).f1 := by rw [rd_cv, rd_get hlt]; rfl
  rw [tabardref13_Shape.l0, List.length_map, if_pos (by omega : (j : Int) < (l.length : Int)), if_pos (by omega : (0 : Int) ≤ (j : Int)), hr0, hr1, bs_ hi, w64a (n := (j : Int) + 1) (by omega), e1, shape_l0 l b sc hl d (j + 1) (k + 9) (by omega) (by omega) (by omega), List.drop_eq_getElem_cons hlt, List.all_cons]
  have ho : okItem (l[j]) = (pattern_Item_right.f (l[j]).f0 (l[j]).f1).getD false := rfl
  rw [← ho]
  cases okItem (l[j]) with
  | true => rw [if_pos rfl, Bool.true_and]
  | false => rw [if_neg (by simp), Bool.false_and, if_neg (by simp)]
theorem shape_f (l : List S88) (b : Bool) (sc : Int) (k : Nat) (hl : l.length ≤ 1000000) (hk : 2 * l.length + 20 < k) : tabardref13_Shape.f k (l.map cv) b sc = some (shapeOf l b sc) := by
 unfold tabardref13_Shape.f
 have h := shape_l0 l b sc hl l.length 0 k (by omega) (by omega) (by omega)
 rw [List.drop_zero] at h
 show tabardref13_Shape.l0 k (l.map cv) ((0 : Nat) : Int) (l.map cv) b sc = _
 rw [h, SH_eq]
 rfl
end Go.Proofs.YtmbhjogohfcjgaaDoor.P
