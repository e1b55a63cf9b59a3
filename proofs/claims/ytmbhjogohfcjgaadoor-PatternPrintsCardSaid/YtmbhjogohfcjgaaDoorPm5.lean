/- Plain laws: a section's shape by the reference is the program's. -/
import Derived.Test.YtmbhjogohfcjgaaDoorPm4
namespace Go.Proofs.YtmbhjogohfcjgaaDoor.P
open Go.RowKit Go.Proofs.YtmbhjogohfcjgaaDoorW.PrintWords Go.Proofs.YtmbhjogohfcjgaaDoorW.PrintMore
set_option linter.unusedVariables false
set_option linter.unusedSimpArgs false
theorem numOf_eq (l : List S88) (h6 : cntOf l 6 = 0) : numOf l = if 30 < digs (l.take (wEnd l)) ∨ 30 < digs ((l.take (atOf l 5)).drop (wEnd l)) then 0
  else if l.length - atOf l 5 = 0 then 2 else if cntOf (l.drop (atOf l 5)) 3 = 0 ∧ 0 < digs (l.take (atOf l 5)) ∧ 1 ≤ digs (l.drop (atOf l 5)) ∧ digs (l.drop (atOf l 5)) ≤ 4 then 3 else 0 := by
 have hx := atOf_le l 5
 have hy : cutAt [3] (l.take (atOf l 5)) = wEnd l := by
  rw [cutAt1, atOf_take l 3 _ hx, wEnd_min, (atOf_full l 6).2 h6]
  have := atOf_le l 3
  omega
 have hz : (l.take (atOf l 5)).take (wEnd l) = l.take (wEnd l) := by
  rw [List.take_take]
  congr 1
  have : wEnd l ≤ atOf l 5 := by rw [wEnd_min]; omega
  omega
 have hd : (cutAt [3] (l.drop (atOf l 5)) = l.length - atOf l 5) = (cntOf (l.drop (atOf l 5)) 3 = 0) := by
  rw [cutAt1, ← List.length_drop]
  exact propext (atOf_full _ 3)
 unfold numOf
 rw [cutAt1 l 5, hy, hz]
 simp only [hd]
theorem NUM_eq (l : List S88) (b : Bool) (sc : Int) (h6 : cntOf l 6 = 0) : NUM l b sc =
  if 0 < cntOf l 2 ∧ cntOf l 3 ≤ 1 ∧ cntOf l 4 ≤ 1 ∧ cntOf l 5 ≤ 1 then
   (if numOf l = 2 then (if 0 ≤ sc ∧ sc ≤ 9 ∧ (0 < digs (l.take (wEnd l)) ∨ sc = 0) ∧ (b = false ∨ 0 ≤ pairOf l) then 2 else 0) else if b = false ∧ sc = 0 then numOf l else 0)
  else 0 := by
 rw [numOf_eq l h6]
 unfold NUM numTail
 have hx := atOf_le l 5
 have p0 := (cntOf_le (l.drop (atOf l 5)) 3).1
 have d0 : 0 ≤ digs (l.take (wEnd l)) := (cntOf_le _ _).1
 have d1 : 0 ≤ digs (l.take (atOf l 5)) := (cntOf_le _ _).1
 by_cases hA : 0 < cntOf l 2 ∧ cntOf l 3 ≤ 1 ∧ cntOf l 4 ≤ 1 ∧ cntOf l 5 ≤ 1
 case neg => rw [if_neg hA, if_neg (fun h => hA ⟨h.1, h.2.1, h.2.2.1, h.2.2.2.1⟩)]
 rw [if_pos hA]
 by_cases hB : 30 < digs (l.take (wEnd l)) ∨ 30 < digs ((l.take (atOf l 5)).drop (wEnd l))
 ·rw [if_pos hB, if_neg (fun h => by have h1 := h.2.2.2.2; omega)]
  simp
 rw [if_neg hB, if_pos ⟨hA.1, hA.2.1, hA.2.2.1, hA.2.2.2, by omega, by omega⟩]
 by_cases hlt : atOf l 5 < l.length
 ·rw [if_pos hlt, if_neg (by omega : ¬ l.length - atOf l 5 = 0)]
  by_cases hC : cntOf (l.drop (atOf l 5)) 3 = 0 ∧ 0 < digs (l.take (atOf l 5)) ∧ 1 ≤ digs (l.drop (atOf l 5)) ∧ digs (l.drop (atOf l 5)) ≤ 4
  ·rw [if_pos hC]
   rw [if_neg (by decide : ¬ (3 : Int) = 2)]
   by_cases hbs : b = false ∧ sc = 0
   ·rw [if_pos hbs, if_neg]
    rintro (h | h | h | h | h | h)
    ·omega
    ·omega
    ·omega
    ·omega
    ·rw [hbs.1] at h; cases h
    ·exact h hbs.2
   ·rw [if_neg hbs, if_pos]
    by_cases hb : b = true
    ·exact Or.inr (Or.inr (Or.inr (Or.inr (Or.inl hb))))
    ·exact Or.inr (Or.inr (Or.inr (Or.inr (Or.inr (fun h => hbs ⟨by simpa using hb, h⟩)))))
  ·rw [if_neg hC, if_neg (by decide : ¬ (0 : Int) = 2), ite_self, if_pos]
   by_cases q1 : digs (l.take (atOf l 5)) = 0
   ·exact Or.inl q1
   ·by_cases q2 : digs (l.drop (atOf l 5)) < 1
    ·exact Or.inr (Or.inl q2)
    ·by_cases q3 : digs (l.drop (atOf l 5)) > 4
     ·exact Or.inr (Or.inr (Or.inl q3))
     ·by_cases q4 : cntOf (l.drop (atOf l 5)) 3 > 0
      ·exact Or.inr (Or.inr (Or.inr (Or.inl q4)))
      ·exact absurd (⟨by omega, by omega, by omega, by omega⟩ : _ ∧ _ ∧ _ ∧ _) hC
 ·rw [if_neg hlt, if_pos (by omega : l.length - atOf l 5 = 0), if_pos rfl]
  by_cases hD : 0 ≤ sc ∧ sc ≤ 9 ∧ (0 < digs (l.take (wEnd l)) ∨ sc = 0) ∧ (b = false ∨ 0 ≤ pairOf l)
  ·rw [if_pos hD, if_neg]
   rintro (h | h | h | h)
   ·rcases hD.2.2.2 with h1 | h1
    ·rw [h1] at h; exact absurd h.1 (by simp)
    ·exact h.2 h1
   ·omega
   ·omega
   ·omega
  ·rw [if_neg hD, if_pos]
   by_cases q1 : b = true ∧ ¬ 0 ≤ pairOf l
   ·exact Or.inl q1
   ·by_cases q2 : sc < 0
    ·exact Or.inr (Or.inl q2)
    ·by_cases q3 : sc > 9
     ·exact Or.inr (Or.inr (Or.inl q3))
     ·refine Or.inr (Or.inr (Or.inr ?_))
      have hq : b = false ∨ 0 ≤ pairOf l := by
       cases b with
       | false => exact Or.inl rfl
       | true => exact Or.inr (by by_cases h : 0 ≤ pairOf l
                                  ·exact h
                                  ·exact absurd ⟨rfl, h⟩ q1)
      by_cases q4 : sc > 0 ∧ digs (l.take (wEnd l)) = 0
      ·exact q4
      ·exact absurd ⟨by omega, by omega, by omega, hq⟩ hD
def FR (l : List S88) : Int := if cntOf l 6 ≤ 1 ∧ cntOf l 3 + cntOf l 4 + cntOf l 5 ≤ 0 then fracOf l else 0
def SH (l : List S88) (bare : Bool) (b : Bool) (sc : Int) : Int :=
 if cntOf l 7 > 0 then (if cntOf l 7 = 1 ∧ cntOf l 2 + (cntOf l 3 + cntOf l 4 + cntOf l 5 + cntOf l 6) + cntOf l 8 = 0 ∧ bare = true then 5 else 0)
 else if cntOf l 8 > 0 then (if cntOf l 2 + (cntOf l 3 + cntOf l 4 + cntOf l 5 + cntOf l 6) + cntOf l 9 = 0 ∧ bare = true then 6 else 0)
 else if cntOf l 2 + (cntOf l 3 + cntOf l 4 + cntOf l 5 + cntOf l 6) = 0 then (if bare = true then 1 else 0)
 else if cntOf l 6 > 0 then (if bare = true then FR l else 0)
 else NUM l b sc
theorem SH_eq (l : List S88) (b : Bool) (sc : Int) : SH l (!b && sc == 0) b sc = if shpAll l = 2 then (if 0 ≤ sc ∧ sc ≤ 9 ∧ (0 < digs (l.take (wEnd l)) ∨ sc = 0) ∧ (b = false ∨ 0 ≤ pairOf l) then 2 else 0) else if b = false ∧ sc = 0 then shpAll l else 0 := by
 have e := fun q => cntOf_le l q
 have e2 := e 2; have e3 := e 3; have e4 := e 4; have e5 := e 5; have e6 := e 6; have e7 := e 7; have e8 := e 8; have e9 := e 9
 have hbare : ((!b && sc == 0) = true) = (b = false ∧ sc = 0) := by cases b <;> simp
 have hfr : fracOf l = 4 ∨ fracOf l = 0 := by unfold fracOf; split <;> simp
 unfold SH
 simp only [hbare]
 by_cases h7 : cntOf l 7 > 0
 ·rw [if_pos h7]
  by_cases h71 : cntOf l 7 = 1 ∧ cntOf l 2 + (cntOf l 3 + cntOf l 4 + cntOf l 5 + cntOf l 6) + cntOf l 8 = 0
  ·have hv : shpAll l = 5 := by
    unfold shpAll shpOf
    repeat' split
    all_goals first | (exfalso; omega) | rfl
   rw [hv, if_neg (by decide : ¬ (5 : Int) = 2)]
   by_cases hb : b = false ∧ sc = 0
   ·rw [if_pos hb, if_pos ⟨h71.1, h71.2, hb⟩]
   ·rw [if_neg hb, if_neg (fun h => hb h.2.2)]
  ·have hv : shpAll l = 0 := by
    unfold shpAll shpOf
    repeat' split
    all_goals first | (exfalso; omega) | rfl
   rw [hv, if_neg (by decide : ¬ (0 : Int) = 2), ite_self, if_neg (fun h => h71 ⟨h.1, h.2.1⟩)]
 rw [if_neg h7]
 by_cases h8 : cntOf l 8 > 0
 ·rw [if_pos h8]
  by_cases h9 : cntOf l 2 + (cntOf l 3 + cntOf l 4 + cntOf l 5 + cntOf l 6) + cntOf l 9 = 0
  ·have hv : shpAll l = 6 := by
    unfold shpAll shpOf
    repeat' split
    all_goals first | (exfalso; omega) | rfl
   rw [hv, if_neg (by decide : ¬ (6 : Int) = 2)]
   by_cases hb : b = false ∧ sc = 0
   ·rw [if_pos hb, if_pos ⟨h9, hb⟩]
   ·rw [if_neg hb, if_neg (fun h => hb h.2)]
  ·have hv : shpAll l = 0 := by
    unfold shpAll shpOf
    repeat' split
    all_goals first | (exfalso; omega) | rfl
   rw [hv, if_neg (by decide : ¬ (0 : Int) = 2), ite_self, if_neg (fun h => h9 h.1)]
 rw [if_neg h8]
 by_cases hs : cntOf l 2 + (cntOf l 3 + cntOf l 4 + cntOf l 5 + cntOf l 6) = 0
 ·have hv : shpAll l = 1 := by
   unfold shpAll shpOf
   repeat' split
   all_goals first | (exfalso; omega) | rfl
  rw [if_pos hs, hv, if_neg (by decide : ¬ (1 : Int) = 2)]
 rw [if_neg hs]
 by_cases h6 : cntOf l 6 > 0
 ·rw [if_pos h6]
  unfold FR
  by_cases hf : cntOf l 6 = 1 ∧ cntOf l 3 + cntOf l 4 + cntOf l 5 = 0
  ·have hv : shpAll l = fracOf l := by
    unfold shpAll shpOf
    repeat' split
    all_goals first | (exfalso; omega) | rfl
   rw [hv, if_neg (by rcases hfr with h | h <;> rw [h] <;> decide : ¬ fracOf l = 2), if_pos (c := cntOf l 6 ≤ 1 ∧ _) ⟨by omega, by omega⟩]
  ·have hv : shpAll l = 0 := by
    unfold shpAll shpOf
    repeat' split
    all_goals first | (exfalso; omega) | rfl
   rw [hv, if_neg (by decide : ¬ (0 : Int) = 2), ite_self, if_neg (c := cntOf l 6 ≤ 1 ∧ _) (fun h => by omega), ite_self]
 ·rw [if_neg h6, NUM_eq l b sc (by omega)]
  by_cases hN : 0 < cntOf l 2 ∧ cntOf l 3 ≤ 1 ∧ cntOf l 4 ≤ 1 ∧ cntOf l 5 ≤ 1
  ·have hv : shpAll l = numOf l := by
    unfold shpAll shpOf
    repeat' split
    all_goals first | (exfalso; omega) | rfl
   rw [hv, if_pos hN]
  ·have hv : shpAll l = 0 := by
    unfold shpAll shpOf
    repeat' split
    all_goals first | (exfalso; omega) | rfl
   rw [hv, if_neg hN, if_neg (by decide : ¬ (0 : Int) = 2), ite_self]
end Go.Proofs.YtmbhjogohfcjgaaDoor.P
