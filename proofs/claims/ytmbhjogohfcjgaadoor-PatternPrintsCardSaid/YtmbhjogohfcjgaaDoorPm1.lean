/- Plain laws over the reference of chapter 13: counting, places, two digits side by side. -/
import Derived.Test.YtmbhjogohfcjgaaDoorP5
import Derived.Test.YtmbhjogohfcjgaaDoorPs
namespace Go.Proofs.YtmbhjogohfcjgaaDoor.P
open Go.RowKit Go.Proofs.YtmbhjogohfcjgaaDoorW.PrintWords Go.Proofs.YtmbhjogohfcjgaaDoorW.PrintMore
set_option linter.unusedVariables false
set_option linter.unusedSimpArgs false
def cv (x : S88) : S98 := ⟨x.f0, x.f1⟩
theorem rd_cv (l : List S88) (i : Int) : rd_T98 (l.map cv) i = cv (rd_T88 l i) := by
 unfold rd_T98 rd_T88
 rw [List.getD_eq_getElem?_getD, List.getD_eq_getElem?_getD, List.getElem?_map]
 cases l[i.toNat]? <;> rfl
theorem rd_get {l : List S88} {j : Nat} (hj : j < l.length) : rd_T88 l (j : Int) = l[j] := by
 unfold rd_T88
 rw [Int.toNat_natCast, List.getD_eq_getElem?_getD, List.getElem?_eq_getElem hj]; rfl
theorem w64 {n : Int} (h0 : 0 ≤ n) (h1 : n ≤ 4000000000000) : wrap64 n = n := by unfold wrap64; omega
theorem cnt_drop {l : List S88} {j : Nat} (hj : j < l.length) (q : Int) : cntOf (l.drop j) q = (if (l[j]).f0 = q then 1 else 0) + cntOf (l.drop (j + 1)) q := by
 unfold cntOf
 rw [List.drop_eq_getElem_cons hj, List.countP_cons]
 by_cases h : (l[j]).f0 = q
 ·rw [if_pos h, if_pos (beq_iff_eq.mpr h)]; omega
 ·rw [if_neg h, if_neg (by simpa using h)]; omega
theorem cnt_nil (q : Int) : cntOf [] q = 0 := rfl
theorem count_l0 (l : List S88) (q : Int) (hl : l.length ≤ 1000000) : ∀ (d j k : Nat) (n : Int), l.length - j = d → j ≤ l.length → d < k → 0 ≤ n → n ≤ j → tabardref13_count.l0 k (l.map cv) q n j = some (n + cntOf (l.drop j) q)
 | 0, j, k, n, hd, hj, hk, h0, h1 => by
  obtain ⟨k, rfl⟩ : ∃ k', k = k' + 1 := ⟨k - 1, by omega⟩
  unfold tabardref13_count.l0
  rw [List.length_map, if_neg (by omega), List.drop_eq_nil_of_le (by omega), cnt_nil, Int.add_zero]
 | d + 1, j, k, n, hd, hj, hk, h0, h1 => by
  obtain ⟨k, rfl⟩ : ∃ k', k = k' + 1 := ⟨k - 1, by omega⟩
  have hlt : j < l.length := by omega
  have e1 : ((j : Int) + 1) = ((j + 1 : Nat) : Int) := rfl
  unfold tabardref13_count.l0
  rw [List.length_map, if_pos (by omega), if_pos (by omega), rd_cv, rd_get hlt, w64 (n := (j : Int) + 1) (by omega) (by omega), w64 (n := n + 1) (by omega) (by omega), e1, cnt_drop hlt]
  show (if (l[j]).f0 = q then _ else _) = _
  by_cases h : (l[j]).f0 = q
  ·rw [if_pos h, if_pos h, count_l0 l q hl d (j + 1) k (n + 1) (by omega) (by omega) (by omega) (by omega) (by omega), Int.add_assoc]
  ·rw [if_neg h, if_neg h, count_l0 l q hl d (j + 1) k n (by omega) (by omega) (by omega) (by omega) (by omega), Int.zero_add]
theorem count_f (l : List S88) (q : Int) (k : Nat) (hl : l.length ≤ 1000000) (hk : l.length < k) : tabardref13_count.f k (l.map cv) q = some (cntOf l q) := by
 unfold tabardref13_count.f
 have h := count_l0 l q hl l.length 0 k 0 (by omega) (by omega) hk (by omega) (by omega)
 rw [List.drop_zero, Int.zero_add] at h
 exact h
def atOf (l : List S88) (q : Int) : Nat := l.findIdx (fun x => x.f0 == q)
theorem atOf_le (l : List S88) (q : Int) : atOf l q ≤ l.length := List.findIdx_le_length
theorem atOf_cons (x : S88) (l : List S88) (q : Int) : atOf (x :: l) q = if x.f0 = q then 0 else atOf l q + 1 := by
 unfold atOf
 rw [List.findIdx_cons]
 by_cases h : x.f0 = q
 ·rw [if_pos h, show (x.f0 == q) = true from beq_iff_eq.mpr h]; rfl
 ·rw [if_neg h, show (x.f0 == q) = false from by simpa using h]; rfl
theorem cutAt1 (l : List S88) (q : Int) : cutAt [q] l = atOf l q := by
 unfold cutAt atOf
 congr 1
 funext x
 show hasInt [q] x.f0 = _
 by_cases h : x.f0 = q
 ·subst h; simp [hasInt]
 ·have h' : ¬ q = x.f0 := fun e => h e.symm
  simp [hasInt, h, h']
theorem at_l0 (l : List S88) (q : Int) (hl : l.length ≤ 1000000) : ∀ (d j k : Nat), l.length - j = d → j ≤ l.length → d < k → tabardref13_at.l0 k (l.map cv) q j = some ((j + atOf (l.drop j) q : Nat) : Int)
 | 0, j, k, hd, hj, hk => by
  obtain ⟨k, rfl⟩ : ∃ k', k = k' + 1 := ⟨k - 1, by omega⟩
  unfold tabardref13_at.l0
  rw [List.length_map, if_neg (by omega), List.drop_eq_nil_of_le (by omega)]
  show some (l.length : Int) = some ((j + 0 : Nat) : Int)
  rw [show j + 0 = l.length by omega]
 | d + 1, j, k, hd, hj, hk => by
  obtain ⟨k, rfl⟩ : ∃ k', k = k' + 1 := ⟨k - 1, by omega⟩
  have hlt : j < l.length := by omega
  have e1 : ((j : Int) + 1) = ((j + 1 : Nat) : Int) := rfl
  unfold tabardref13_at.l0
  rw [List.length_map, if_pos (by omega), if_pos (by omega), rd_cv, rd_get hlt, w64 (n := (j : Int) + 1) (by omega) (by omega), e1, List.drop_eq_getElem_cons hlt, atOf_cons]
  show (if (l[j]).f0 = q then _ else _) = _
  by_cases h : (l[j]).f0 = q
  ·rw [if_pos h, if_pos h, Nat.add_zero]
  ·rw [if_neg h, if_neg h, at_l0 l q hl d (j + 1) k (by omega) (by omega) (by omega)]
   congr 2
   omega
theorem at_f (l : List S88) (q : Int) (k : Nat) (hl : l.length ≤ 1000000) (hk : l.length < k) : tabardref13_at.f k (l.map cv) q = some (atOf l q : Int) := by
 unfold tabardref13_at.f
 have h := at_l0 l q hl l.length 0 k (by omega) (by omega) hk
 rw [List.drop_zero, Nat.zero_add] at h
 exact h
theorem wEnd_min (l : List S88) : wEnd l = min (atOf l 3) (min (atOf l 5) (atOf l 6)) := by
 unfold wEnd cutAt
 induction l with
 | nil => rfl
 | cons x l ih =>
  rw [List.findIdx_cons, ih, atOf_cons, atOf_cons, atOf_cons]
  have hh : hasInt [3, 5, 6] x.f0 = (decide (x.f0 = 3) || decide (x.f0 = 5) || decide (x.f0 = 6)) := by unfold hasInt; simp [Bool.or_assoc]
  rw [hh]
  by_cases h3 : x.f0 = 3
  ·simp [h3]
  ·by_cases h5 : x.f0 = 5
   ·simp [h5]
   ·by_cases h6 : x.f0 = 6
    ·simp [h6]
    ·simp only [h3, h5, h6, decide_false, Bool.or_false, cond_false, if_false]
     omega
theorem mn_nat (a b : Nat) : mn (a : Int) (b : Int) = ((min a b : Nat) : Int) := by unfold mn; split <;> omega
theorem WholeEnd_f (l : List S88) (k : Nat) (hl : l.length ≤ 1000000) (hk : l.length < k) : tabardref13_WholeEnd.f k (l.map cv) = some (wEnd l : Int) := by
 unfold tabardref13_WholeEnd.f
 rw [at_f l 3 k hl hk, at_f l 5 k hl hk, at_f l 6 k hl hk]
 show some (mn _ (mn _ _)) = _
 rw [mn_nat, mn_nat, ← wEnd_min]
theorem pair_l0 (l : List S88) (hl : l.length ≤ 1000000) : ∀ (d j k : Nat), wEnd l - 1 - j = d → j ≤ 1000000 → d < k → ∃ b, tabardref13_beside.l0 k (l.map cv) (wEnd l) j = some b ∧ (b = true ↔ ∃ i, j ≤ i ∧ i < wEnd l - 1 ∧ pairAt l i = true)
 | 0, j, k, hd, hj, hk => by
  obtain ⟨k, rfl⟩ : ∃ k', k = k' + 1 := ⟨k - 1, by omega⟩
  unfold tabardref13_beside.l0
  have hle := wEnd_le l
  rw [w64 (n := (j : Int) + 1) (by omega) (by omega), if_neg (by omega)]
  exact ⟨false, rfl, ⟨fun h => absurd h (by simp), fun ⟨i, h1, h2, _⟩ => by omega⟩⟩
 | d + 1, j, k, hd, hj, hk => by
  obtain ⟨k, rfl⟩ : ∃ k', k = k' + 1 := ⟨k - 1, by omega⟩
  have hle := wEnd_le l
  have e1 : ((j : Int) + 1) = ((j + 1 : Nat) : Int) := rfl
  have hj1 : j < wEnd l - 1 := by omega
  obtain ⟨b, hb, hiff⟩ := pair_l0 l hl d (j + 1) k (by omega) (by omega) (by omega)
  unfold tabardref13_beside.l0
  rw [w64 (n := (j : Int) + 1) (by omega) (by omega), if_pos (by omega), if_pos (by omega), List.length_map, if_pos (by omega), if_pos (by omega : (0 : Int) ≤ (j : Int) + 1), if_pos (by omega : (j : Int) + 1 < (l.length : Int)), rd_cv, rd_cv, e1, hb]
  have hp : pairAt l j = ((rd_T88 l (j : Int)).f0 == 2 && (rd_T88 l ((j + 1 : Nat) : Int)).f0 == 2) := rfl
  have hne : pairAt l j = false → (b = true ↔ ∃ i, j ≤ i ∧ i < wEnd l - 1 ∧ pairAt l i = true) := fun h => hiff.trans ⟨fun ⟨i, h1, h2, h3⟩ => ⟨i, by omega, h2, h3⟩, fun ⟨i, h1, h2, h3⟩ => ⟨i, Nat.lt_of_le_of_ne h1 (fun e => by rw [← e, h] at h3; exact absurd h3 (by simp)), h2, h3⟩⟩
  show ∃ b', (if (rd_T88 l (j : Int)).f0 = 2 then (if (rd_T88 l ((j + 1 : Nat) : Int)).f0 = 2 then some true else some b) else some b) = some b' ∧ _
  by_cases c1 : (rd_T88 l (j : Int)).f0 = 2
  ·by_cases c2 : (rd_T88 l ((j + 1 : Nat) : Int)).f0 = 2
   ·rw [if_pos c1, if_pos c2]
    exact ⟨true, rfl, ⟨fun _ => ⟨j, Nat.le_refl j, hj1, by rw [hp, c1, c2]; rfl⟩, fun _ => rfl⟩⟩
   ·have hf : pairAt l j = false := by rw [hp, show ((rd_T88 l ((j + 1 : Nat) : Int)).f0 == 2) = false from by simpa using c2, Bool.and_false]
    rw [if_pos c1, if_neg c2]
    exact ⟨b, rfl, hne hf⟩
  ·have hf : pairAt l j = false := by rw [hp, show ((rd_T88 l (j : Int)).f0 == 2) = false from by simpa using c1, Bool.false_and]
   rw [if_neg c1]
   exact ⟨b, rfl, hne hf⟩
theorem pairOf_iff (l : List S88) : 0 ≤ pairOf l ↔ ∃ i, 0 ≤ i ∧ i < wEnd l - 1 ∧ pairAt l i = true := by
 unfold pairOf
 cases h : (List.range (wEnd l - 1)).find? (pairAt l) with
 | none =>
  have h1 := List.find?_eq_none.1 h
  constructor
  ·intro h2; exact absurd h2 (by decide)
  ·rintro ⟨i, _, h2, h3⟩
   exact absurd h3 (h1 i (List.mem_range.2 h2))
 | some i =>
  have h1 := List.mem_range.1 (List.mem_of_find?_eq_some h)
  have h2 := List.find?_some h
  exact ⟨fun _ => ⟨i, Nat.zero_le _, h1, h2⟩, fun _ => by show 0 ≤ (i : Int); omega⟩
theorem beside_f (l : List S88) (k : Nat) (hl : l.length ≤ 1000000) (hk : l.length < k) : tabardref13_beside.f k (l.map cv) = some (decide (0 ≤ pairOf l)) := by
 unfold tabardref13_beside.f
 rw [WholeEnd_f l k hl hk]
 obtain ⟨b, hb, hiff⟩ := pair_l0 l hl (wEnd l - 1 - 0) 0 k rfl (by omega) (by have := wEnd_le l; omega)
 show tabardref13_beside.l0 k (l.map cv) (wEnd l) ((0 : Nat) : Int) = _
 rw [hb]
 congr 1
 rw [Bool.eq_iff_iff, hiff, decide_eq_true_iff, pairOf_iff]
end Go.Proofs.YtmbhjogohfcjgaaDoor.P
