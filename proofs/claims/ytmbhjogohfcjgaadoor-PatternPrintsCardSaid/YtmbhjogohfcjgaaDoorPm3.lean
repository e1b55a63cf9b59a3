/- Plain laws: a section's shape by the reference is the program's. -/
import Derived.Test.YtmbhjogohfcjgaaDoorPm1
import Derived.Test.YtmbhjogohfcjgaaDoorPm2
namespace Go.Proofs.YtmbhjogohfcjgaaDoor.P
open Go.RowKit Go.Proofs.YtmbhjogohfcjgaaDoorW.PrintWords Go.Proofs.YtmbhjogohfcjgaaDoorW.PrintMore
set_option linter.unusedVariables false
set_option linter.unusedSimpArgs false
theorem take_cv (l : List S88) (n : Nat) : (l.map cv).take n = (l.take n).map cv := (List.map_take ..).symm
theorem drop_cv (l : List S88) (n : Nat) : (l.map cv).drop n = (l.drop n).map cv := (List.map_drop ..).symm
theorem atOf_full (l : List S88) (q : Int) : atOf l q = l.length ↔ cntOf l q = 0 := by
 induction l with
 | nil => exact ⟨fun _ => rfl, fun _ => rfl⟩
 | cons x l ih =>
  have hc := (cntOf_le l q).1
  have h1 := cnt_drop (l := x :: l) (j := 0) (by simp) q
  rw [List.drop_zero] at h1
  have h2 : cntOf (x :: l) q = (if x.f0 = q then 1 else 0) + cntOf l q := h1
  rw [atOf_cons, h2, List.length_cons]
  by_cases h : x.f0 = q
  ·rw [if_pos h, if_pos h]; omega
  ·rw [if_neg h, if_neg h, Int.zero_add, ← ih]; omega
theorem atOf_take (l : List S88) (q : Int) : ∀ (m : Nat), m ≤ l.length → atOf (l.take m) q = min (atOf l q) m := by
 induction l with
 | nil => intro m hm; have : m = 0 := by simpa using hm
          subst this; rfl
 | cons x l ih =>
  intro m hm
  cases m with
  | zero => rw [List.take_zero]; show 0 = _; omega
  | succ m =>
   rw [List.take_succ_cons, atOf_cons, atOf_cons, ih m (by simpa using hm)]
   by_cases h : x.f0 = q
   ·rw [if_pos h, if_pos h]; omega
   ·rw [if_neg h, if_neg h]; omega
theorem bs_ {α β : Type} {x : Option α} {a : α} (h : x = some a) (f : α → Option β) : x.bind f = f a := by subst h; rfl
theorem some_ite {α : Type} (c : Prop) [Decidable c] (a b : α) : (if c then some a else some b) = some (if c then a else b) := by split <;> rfl
theorem frac_j0 (l : List S88) (k x : Nat) (b : Bool) (hl : l.length ≤ 1000000) (hk : l.length < k) (hx : x ≤ l.length) :
  tabardref13_fraction.j0 (k + 1) (l.map cv) x b = some (if b = true then 0 else if 1 ≤ digs (l.drop x) ∧ digs (l.drop x) ≤ 4 ∧ digs (l.take x) ≤ 30 then 4 else 0) := by
 rw [tabardref13_fraction.j0]
 cases b with
 | true => simp only [if_true]
 | false =>
  have h1 : (0 : Int) ≤ (x : Int) := by omega
  have h2 : (x : Int) ≤ (((l.map cv).length : Nat) : Int) := by rw [List.length_map]; omega
  have c1 := count_f (l.drop x) 2 k (by rw [List.length_drop]; omega) (by rw [List.length_drop]; omega)
  have c2 := count_f (l.take x) 2 k (by rw [List.length_take]; omega) (by rw [List.length_take]; omega)
  simp only [Bool.false_eq_true, if_false, if_pos h1, if_pos h2, Int.toNat_natCast, take_cv, drop_cv, c1, c2, Option.bind_some]
  unfold digs
  generalize cntOf (l.drop x) 2 = D
  generalize cntOf (l.take x) 2 = T
  clear c1 c2 h1 h2
  repeat' split
  all_goals first | rfl | (exfalso; omega)
theorem fraction_f (l : List S88) (k : Nat) (hl : l.length ≤ 1000000) (hk : l.length < k) :
  tabardref13_fraction.f (k + 1) (l.map cv) = some (if cntOf l 6 ≤ 1 ∧ cntOf l 3 + cntOf l 4 + cntOf l 5 ≤ 0 then fracOf l else 0) := by
 have hx := atOf_le l 6
 have hk1 : l.length < k + 1 := by omega
 have e3 := cntOf_le l 3
 have e4 := cntOf_le l 4
 have e5 := cntOf_le l 5
 have e6 := cntOf_le l 6
 have hj := fun b => frac_j0 l k (atOf l 6) b hl hk hx
 have w1 : wrap64 ((atOf l 6 : Int) - 1) = (atOf l 6 : Int) - 1 := w64a (by omega)
 have w2 : wrap64 (cntOf l 3 + cntOf l 4) = cntOf l 3 + cntOf l 4 := w64a (by omega)
 have w3 : wrap64 (cntOf l 3 + cntOf l 4 + cntOf l 5) = cntOf l 3 + cntOf l 4 + cntOf l 5 := w64a (by omega)
 have hl2 : ((l.map cv).length : Int) = (l.length : Int) := by rw [List.length_map]
 have hrd : ∀ i, (rd_T98 (l.map cv) i).f0 = (rd_T88 l i).f0 := fun i => by rw [rd_cv]; rfl
 have c0 := at_f l 6 (k + 1) hl hk1
 have c6 := count_f l 6 (k + 1) hl hk1
 have c3 := count_f l 3 (k + 1) hl hk1
 have c4 := count_f l 4 (k + 1) hl hk1
 have c5 := count_f l 5 (k + 1) hl hk1
 have hfr : fracOf l = (if 0 < atOf l 6 ∧ (rd_T88 l ((atOf l 6 : Int) - 1)).f0 = 2 ∧ digs (l.take (atOf l 6)) ≤ 30 ∧ 1 ≤ digs (l.drop (atOf l 6)) ∧ digs (l.drop (atOf l 6)) ≤ 4 then 4 else 0) := by unfold fracOf; rw [cutAt1]
 rw [hfr]
 unfold tabardref13_fraction.f
 rw [bs_ c0, bs_ c6]
 by_cases h6 : cntOf l 6 > 1
 ·rw [if_pos h6, hj, if_pos rfl, if_neg (fun h => absurd h.1 (by omega))]
 rw [if_neg h6]
 by_cases h0 : atOf l 6 = 0
 ·rw [if_pos (by omega : (atOf l 6 : Int) = 0), hj, if_pos rfl, if_neg (c := 0 < atOf l 6 ∧ _) (fun h => absurd h.1 (by omega)), ite_self]
 rw [if_neg (by omega : ¬ (atOf l 6 : Int) = 0), w1, if_pos (by omega : 0 ≤ (atOf l 6 : Int) - 1), hl2, if_pos (by omega : (atOf l 6 : Int) - 1 < (l.length : Int)), hrd]
 by_cases h2 : (rd_T88 l ((atOf l 6 : Int) - 1)).f0 = 2
 ·rw [if_pos h2, bs_ c3, bs_ c4, bs_ c5, w2, w3, hj]
  by_cases hs : cntOf l 3 + cntOf l 4 + cntOf l 5 > 0
  ·rw [if_pos (decide_eq_true hs), if_neg (fun h => absurd h.2 (by omega))]
  ·rw [if_neg (fun h => hs (of_decide_eq_true h)), if_pos (c := cntOf l 6 ≤ 1 ∧ _) ⟨by omega, by omega⟩]
   by_cases hA : 1 ≤ digs (l.drop (atOf l 6)) ∧ digs (l.drop (atOf l 6)) ≤ 4 ∧ digs (l.take (atOf l 6)) ≤ 30
   ·rw [if_pos hA, if_pos ⟨by omega, h2, hA.2.2, hA.1, hA.2.1⟩]
   ·rw [if_neg hA, if_neg (fun h => hA ⟨h.2.2.2.1, h.2.2.2.2, h.2.2.1⟩)]
 ·rw [if_neg h2, hj, if_pos rfl, if_neg (c := 0 < atOf l 6 ∧ _) (fun h => h2 h.2.1), ite_self]
end Go.Proofs.YtmbhjogohfcjgaaDoor.P
