/- Plain laws: a number's shape by the reference is the program's. -/
import Derived.Test.YtmbhjogohfcjgaaDoorPm3
namespace Go.Proofs.YtmbhjogohfcjgaaDoor.P
open Go.RowKit Go.Proofs.YtmbhjogohfcjgaaDoorW.PrintWords Go.Proofs.YtmbhjogohfcjgaaDoorW.PrintMore
set_option linter.unusedVariables false
set_option linter.unusedSimpArgs false
def numTail (l : List S88) (W : Int) (b : Bool) (sc : Int) : Int :=
 if atOf l 5 < l.length then (if digs (l.take (atOf l 5)) = 0 ∨ digs (l.drop (atOf l 5)) < 1 ∨ digs (l.drop (atOf l 5)) > 4 ∨ cntOf (l.drop (atOf l 5)) 3 > 0 ∨ b = true ∨ sc ≠ 0 then 0 else 3)
 else (if (b = true ∧ ¬ 0 ≤ pairOf l) ∨ sc < 0 ∨ sc > 9 ∨ (sc > 0 ∧ W = 0) then 0 else 2)
theorem num_j1 (k : Nat) (b : Bool) : tabardref13_number.j1 (k + 1) b = some (if b = true then 0 else 3) := by rw [tabardref13_number.j1, some_ite]
theorem num_j0 (l : List S88) (k : Nat) (W : Int) (bad b : Bool) (sc : Int) (hl : l.length ≤ 1000000) (hk : l.length < k) :
  tabardref13_number.j0 (k + 2) (l.map cv) (atOf l 5) W bad (l.map cv) b sc = some (if bad = true then 0 else numTail l W b sc) := by
 have hx := atOf_le l 5
 have hk1 : l.length < k + 1 := by omega
 rw [tabardref13_number.j0]
 cases bad with
 | true => rw [if_pos rfl, if_pos rfl]
 | false =>
  have hl2 : ((l.map cv).length : Int) = (l.length : Int) := by rw [List.length_map]
  have hff : ¬ (false = true) := by simp
  rw [if_neg hff, if_neg hff, hl2]
  unfold numTail
  by_cases hlt : atOf l 5 < l.length
  ·have c1 := count_f (l.drop (atOf l 5)) 2 (k + 1) (by rw [List.length_drop]; omega) (by rw [List.length_drop]; omega)
   have c2 := count_f (l.take (atOf l 5)) 2 (k + 1) (by rw [List.length_take]; omega) (by rw [List.length_take]; omega)
   have c3 := count_f (l.drop (atOf l 5)) 3 (k + 1) (by rw [List.length_drop]; omega) (by rw [List.length_drop]; omega)
   rw [if_pos hlt, if_pos (by omega : (atOf l 5 : Int) < (l.length : Int)), if_pos (by omega : (0 : Int) ≤ (atOf l 5 : Int)), if_pos (by omega : (atOf l 5 : Int) ≤ (l.length : Int)), Int.toNat_natCast, drop_cv, take_cv, bs_ c1, bs_ c2, bs_ c3]
   have j1 := fun q => num_j1 k q
   simp only [j1]
   unfold digs
   generalize cntOf (l.drop (atOf l 5)) 2 = D
   generalize cntOf (l.take (atOf l 5)) 2 = T
   generalize cntOf (l.drop (atOf l 5)) 3 = P
   clear c1 c2 c3 j1 hl2
   by_cases h1 : T = 0
   ·rw [if_pos h1, if_pos (Or.inl h1), if_pos trivial]
   rw [if_neg h1]
   by_cases h2 : D < 1
   ·rw [if_pos h2, if_pos (Or.inr (Or.inl h2)), if_pos trivial]
   rw [if_neg h2]
   by_cases h3 : D > 4
   ·rw [if_pos h3, if_pos (Or.inr (Or.inr (Or.inl h3))), if_pos trivial]
   rw [if_neg h3]
   by_cases h4 : P > 0
   ·rw [if_pos h4, if_pos (Or.inr (Or.inr (Or.inr (Or.inl h4)))), if_pos trivial]
   rw [if_neg h4]
   by_cases h5 : b = true
   ·rw [if_pos h5, if_pos (Or.inr (Or.inr (Or.inr (Or.inr (Or.inl h5))))), if_pos trivial]
   rw [if_neg h5]
   by_cases h6 : sc = 0
   ·rw [if_neg (by simp [h6]), if_neg (fun h => by rcases h with h | h | h | h | h | h <;> contradiction)]
   ·rw [if_pos (by simp [h6]), if_pos (Or.inr (Or.inr (Or.inr (Or.inr (Or.inr h6)))))]
  ·have cb := beside_f l (k + 1) hl hk1
   rw [if_neg hlt, if_neg (by omega : ¬ (atOf l 5 : Int) < (l.length : Int)), bs_ cb]
   clear cb hl2
   generalize pairOf l = q
   cases b with
   | false =>
    rw [if_neg hff]
    repeat' split
    all_goals first | rfl | (exfalso; simp_all; done) | (exfalso; simp_all; omega) | (exfalso; omega)
   | true =>
    rw [if_pos rfl]
    by_cases hq : 0 ≤ q
    ·rw [if_pos (decide_eq_true hq)]
     repeat' split
     all_goals first | rfl | (exfalso; simp_all; done) | (exfalso; simp_all; omega) | (exfalso; omega)
    ·rw [if_neg (fun h => hq (of_decide_eq_true h)), if_pos (Or.inl ⟨rfl, hq⟩)]
def NUM (l : List S88) (b : Bool) (sc : Int) : Int :=
 if 0 < cntOf l 2 ∧ cntOf l 3 ≤ 1 ∧ cntOf l 4 ≤ 1 ∧ cntOf l 5 ≤ 1 ∧ digs (l.take (wEnd l)) ≤ 30 ∧ digs ((l.take (atOf l 5)).drop (wEnd l)) ≤ 30 then numTail l (digs (l.take (wEnd l))) b sc else 0
theorem number_f (l : List S88) (k : Nat) (b : Bool) (sc : Int) (hl : l.length ≤ 1000000) (hk : l.length < k) :
  tabardref13_number.f (k + 2) (l.map cv) b sc = some (NUM l b sc) := by
 have hx := atOf_le l 5
 have hw := wEnd_le l
 have hwx : wEnd l ≤ atOf l 5 := by rw [wEnd_min]; omega
 have hk1 : l.length < k + 2 := by omega
 have e2 := cntOf_le l 2
 have hj := fun W bad => num_j0 l k W bad b sc hl hk
 have hl2 : ((l.map cv).length : Int) = (l.length : Int) := by rw [List.length_map]
 have c0 := WholeEnd_f l (k + 2) hl hk1
 have ca := at_f l 5 (k + 2) hl hk1
 have cw := count_f (l.take (wEnd l)) 2 (k + 2) (by rw [List.length_take]; omega) (by rw [List.length_take]; omega)
 have c2 := count_f l 2 (k + 2) hl hk1
 have c3 := count_f l 3 (k + 2) hl hk1
 have c4 := count_f l 4 (k + 2) hl hk1
 have c5 := count_f l 5 (k + 2) hl hk1
 have cp := count_f ((l.take (atOf l 5)).drop (wEnd l)) 2 (k + 2) (by rw [List.length_drop, List.length_take]; omega) (by rw [List.length_drop, List.length_take]; omega)
 unfold tabardref13_number.f NUM
 rw [bs_ c0, bs_ ca, if_pos (by omega : (0 : Int) ≤ (wEnd l : Int)), hl2, if_pos (by omega : (wEnd l : Int) ≤ (l.length : Int)), Int.toNat_natCast, take_cv, bs_ cw, bs_ c2]
 by_cases h2 : cntOf l 2 = 0
 ·rw [if_pos h2, hj, if_pos rfl, if_neg (fun h => by omega)]
 rw [if_neg h2, bs_ c3]
 by_cases h3 : cntOf l 3 > 1
 ·rw [if_pos h3, hj, if_pos rfl, if_neg (fun h => by omega)]
 rw [if_neg h3, bs_ c4]
 by_cases h4 : cntOf l 4 > 1
 ·rw [if_pos h4, hj, if_pos rfl, if_neg (fun h => by omega)]
 rw [if_neg h4, bs_ c5]
 by_cases h5 : cntOf l 5 > 1
 ·rw [if_pos h5, hj, if_pos rfl, if_neg (fun h => by omega)]
 rw [if_neg h5]
 by_cases h6 : cntOf (l.take (wEnd l)) 2 > 30
 ·rw [if_pos h6, hj, if_pos rfl, if_neg (fun h => absurd h.2.2.2.2.1 (by unfold digs; omega))]
 rw [if_neg h6, if_pos (by omega : (wEnd l : Int) ≤ (atOf l 5 : Int)), if_pos (by omega : (atOf l 5 : Int) ≤ (l.length : Int)), Int.toNat_natCast, take_cv, drop_cv, bs_ cp, hj]
 by_cases h7 : cntOf ((l.take (atOf l 5)).drop (wEnd l)) 2 > 30
 ·rw [if_pos (decide_eq_true h7), if_neg (fun h => absurd h.2.2.2.2.2 (by unfold digs; omega))]
 ·rw [if_neg (fun h => h7 (of_decide_eq_true h)), if_pos ⟨by omega, by omega, by omega, by omega, by unfold digs; omega, by unfold digs; omega⟩]
  rfl
end Go.Proofs.YtmbhjogohfcjgaaDoor.P
