/- Plain laws: an item is right by the reference where it is right by the program (a rune's bytes). -/
import Derived.Test.YtmbhjogohfcjgaaDoorP2
import Derived.Test.YtmbhjogohfcjgaaDoorPs
import Derived.Lib.DecodeN
import Derived.Lib.ValidLaws
namespace Go.Proofs.YtmbhjogohfcjgaaDoor.P
open Go.RowKit Go.Proofs.YtmbhjogohfcjgaaDoorW.PrintWords Go.Proofs.YtmbhjogohfcjgaaDoorW.PrintMore
set_option linter.unusedVariables false
set_option linter.unusedSimpArgs false
def gb (s : ByteArray) (i : Nat) : Nat := (s.get! i).toNat
theorem gb_lt (s : ByteArray) (i : Nat) : gb s i < 256 := (s.get! i).toNat_lt
theorem get_bang (s : ByteArray) (i : Nat) (h : i < s.size) : s.get! i = s[i]'h := by
 show s.data[i]! = _
 rw [getElem!_pos s.data i h]; rfl
theorem bt_gb (s : ByteArray) (i : Nat) (h : i < s.size) : bt s (i : Int) = (gb s i : Int) := by
 unfold bt gb
 rw [dif_pos (by rw [Int.toNat_natCast]; exact h), get_bang s i h]
 simp only [Int.toNat_natCast]
theorem w64a {n : Int} (h : -4000000000000 ≤ n ∧ n ≤ 4000000000000) : wrap64 n = n := by unfold wrap64; omega
theorem l0_step (k : Nat) (s : ByteArray) (n i : Nat) (lo v : Int) (hi : i < n) (hs : i < s.size) (hn : n ≤ 4) (hv0 : -1000 ≤ v) (hv : v ≤ 1000000) :
  tabardref13_rune1.l0 (k + 1) s n lo v i = if gb s i < 128 ∨ 192 ≤ gb s i then some 0 else tabardref13_rune1.l0 k s n lo (64 * v + (gb s i : Int) - 128) ((i + 1 : Nat) : Int) := by
 have hg := gb_lt s i
 rw [tabardref13_rune1.l0]
 rw [if_pos (by omega : (i : Int) < (n : Int)), if_pos (by omega : (0 : Int) ≤ (i : Int)), if_pos (by omega : (i : Int) < (s.size : Int)), bt_gb s i hs, w64a (n := 64 * v) (by omega), w64a (n := (gb s i : Int)) (by omega), w64a (n := 64 * v + (gb s i : Int)) (by omega), w64a (n := 64 * v + (gb s i : Int) - 128) (by omega), w64a (n := (i : Int) + 1) (by omega)]
 by_cases h1 : gb s i < 128
 ·rw [if_pos (by omega : (gb s i : Int) < 128), if_pos (Or.inl h1)]
 ·rw [if_neg (by omega : ¬ (gb s i : Int) < 128)]
  by_cases h2 : 192 ≤ gb s i
  ·rw [if_pos (by omega : (gb s i : Int) ≥ 192), if_pos (Or.inr h2)]
  ·rw [if_neg (by omega : ¬ (gb s i : Int) ≥ 192), if_neg (by omega)]; rfl
theorem l0_stop (k : Nat) (s : ByteArray) (n : Nat) (lo v : Int) : tabardref13_rune1.l0 (k + 1) s n lo v n = some (if v < lo ∨ 1114111 < v ∨ (55296 ≤ v ∧ v < 57344) then 0 else n : Nat) := by
 rw [tabardref13_rune1.l0]
 rw [if_neg (by omega : ¬ (n : Int) < (n : Int))]
 repeat' split
 all_goals first | rfl | (exfalso; omega)
theorem j3_go (k : Nat) (s : ByteArray) (n : Nat) (lo v : Int) (hn : 0 < n) : tabardref13_rune1.j2 (k + 2) s n lo v = if s.size < n then some 0 else tabardref13_rune1.l0 k s n lo v 1 := by
 rw [tabardref13_rune1.j2]
 rw [if_neg (by omega : ¬ (n : Int) = 0)]
 rw [tabardref13_rune1.j3]
 by_cases h : s.size < n
 ·rw [if_pos h, decide_eq_true (by omega : (s.size : Int) < (n : Int)), if_pos rfl]
 ·rw [if_neg h, decide_eq_false (by omega : ¬ (s.size : Int) < (n : Int)), if_neg (by simp)]
def ru2 (s : ByteArray) : Nat := if s.size < 2 then 0 else if gb s 1 < 128 ∨ 192 ≤ gb s 1 then 0 else 2
theorem decodeGo_N (s : ByteArray) (h : s.size ≠ 0) : Lib.decodeGo s = Lib.decodeN s.size (gb s 0) (gb s 1) (gb s 2) (gb s 3) := by
 unfold Lib.decodeGo
 rw [if_neg (by omega), Lib.decode_at]
 rfl
def good (c n z : Nat) : Prop := n = z ∧ 0 < n ∧ (c = 65533 → n = 3)
theorem good_bad (z : Nat) : ¬ good 65533 1 z := fun h => absurd (h.2.2 rfl) (by decide)
theorem none_bad (z : Nat) {x : Nat × Nat} (hx : x = (65533, 1)) : (0 < 0 ∧ 0 = z) ↔ good x.1 x.2 z := by subst hx; exact ⟨fun h => absurd h.1 (by decide), fun h => absurd h (good_bad z)⟩
theorem some_good (n z c : Nat) {x : Nat × Nat} (hx : x = (c, n)) (hc : c ≠ 65533 ∨ n = 3) : (0 < n ∧ n = z) ↔ good x.1 x.2 z := by
 subst hx
 exact ⟨fun h => ⟨h.2, h.1, fun h9 => hc.elim (fun h8 => absurd h9 h8) id⟩, fun h => ⟨h.2.1, h.1⟩⟩
theorem rune1_f (s : ByteArray) (k : Nat) : ∃ n : Nat, tabardref13_rune1.f (k + 9) s = some (n : Int) ∧ ((0 < n ∧ n = s.size) ↔ good (Lib.decodeGo s).1 (Lib.decodeGo s).2 s.size) := by
 by_cases h0 : s.size = 0
 ·refine ⟨0, ?_, ?_⟩
  ·unfold tabardref13_rune1.f
   have : s.toList = [] := by
    have hs : s = ⟨#[]⟩ := by
     apply ByteArray.ext
     apply Array.eq_empty_of_size_eq_zero
     exact h0
    subst hs; rw [Lib.toList_data]
   rw [if_pos this]; rfl
  ·constructor
   ·rintro ⟨h, _⟩; omega
   ·rintro ⟨h1, h2, _⟩; omega
 ·have hne : ¬ s.toList = ([] : List UInt8) := by
   intro h
   apply h0
   rw [Lib.toList_data] at h
   have h1 := congrArg List.length h
   exact h1
  rw [decodeGo_N s h0]
  have g0 := gb_lt s 0
  have g1 := gb_lt s 1
  have g2 := gb_lt s 2
  have g3 := gb_lt s 3
  have hb0 : bt s 0 = (gb s 0 : Int) := bt_gb s 0 (by omega)
  unfold tabardref13_rune1.f
  rw [if_neg hne, if_pos (by omega), hb0, w64a (n := (gb s 0 : Int)) (by omega)]
  by_cases hA : gb s 0 < 128
  ·rw [if_pos (by omega)]
   refine ⟨1, rfl, ?_⟩
   have hd : Lib.decodeN s.size (gb s 0) (gb s 1) (gb s 2) (gb s 3) = (gb s 0, 1) := by unfold Lib.decodeN; rw [if_pos hA]
   rw [hd]
   constructor
   ·rintro ⟨_, h⟩; exact ⟨h, Nat.one_pos, fun h => by have h : gb s 0 = 65533 := h; omega⟩
   ·rintro ⟨h, _⟩; exact ⟨by decide, h⟩
  rw [if_neg (by omega)]
  by_cases hE : gb s 0 < 194 ∨ 245 ≤ gb s 0
  ·refine ⟨0, ?_, ?_⟩
   ·have hj : tabardref13_rune1.j0 (k + 9) s (gb s 0 : Int) 0 0 0 false = some 0 := by
     rw [tabardref13_rune1.j0, if_neg (by simp)]
     have hj1 : ∀ b, (b = true → False) → tabardref13_rune1.j1 (k + 8) s (gb s 0 : Int) 0 0 0 b = some 0 := by
      intro b hb
      rw [tabardref13_rune1.j1, if_neg (fun h => hb h)]
      have hj2 : tabardref13_rune1.j2 (k + 7) s 0 0 0 = some 0 := by
       rw [tabardref13_rune1.j2, if_pos rfl, tabardref13_rune1.j3, if_pos rfl]
      rw [hj2]
      repeat' split
      all_goals first | rfl | (exfalso; omega)
     split
     ·exact hj1 _ (fun h => by have := of_decide_eq_true h; omega)
     ·exact hj1 _ (fun h => by cases h)
    rcases hE with hE | hE
    ·rw [if_neg (by omega)]; exact hj
    ·rw [if_pos (by omega), decide_eq_false (by omega)]; exact hj
   ·rw [Lib.decodeN_bad _ _ _ _ _ (by omega)]
    constructor
    ·rintro ⟨h, _⟩; omega
    ·rintro ⟨_, _, h⟩; exact absurd (h rfl) (by decide)
  rw [if_pos (by omega)]
  by_cases hB : gb s 0 < 224
  ·-- two bytes
   rw [decide_eq_true (by omega)]
   rw [tabardref13_rune1.j0, if_pos rfl, w64a (n := (gb s 0 : Int) - 192) (by omega), show (gb s 0 : Int) - 192 = ((gb s 0 - 192 : Nat) : Int) by omega]
   show ∃ n : Nat, tabardref13_rune1.j2 (k + 6 + 2) s ((2 : Nat) : Int) ((128 : Nat) : Int) ((gb s 0 - 192 : Nat) : Int) = _ ∧ _
   rw [j3_go (k + 6) s 2 ((128 : Nat) : Int) ((gb s 0 - 192 : Nat) : Int) (by decide)]
   by_cases hz : s.size < 2
   ·rw [if_pos hz]
    exact Z32
   ·rw [if_neg hz, show (1 : Int) = ((1 : Nat) : Int) from rfl, l0_step (k + 5) s 2 1 _ _ (by decide) (by omega) (by decide) (by omega) (by omega)]
    by_cases h1 : gb s 1 < 128 ∨ 192 ≤ gb s 1
    ·rw [if_pos h1]
     exact Z32
    ·rw [if_neg h1, l0_stop (k + 4), if_neg (by omega)]
     exact ⟨2, rfl, some_good 2 _ (gb s 0 % 32 * 64 + gb s 1 % 64) (by unfold Lib.decodeN; (repeat' split); all_goals first | (exfalso; omega) | rfl) (Or.inl (by omega))⟩
  rw [decide_eq_false (by omega)]
  rw [tabardref13_rune1.j0, if_neg (by simp), if_pos (by omega : (gb s 0 : Int) ≥ 224)]
  by_cases hC : gb s 0 < 240
  ·rw [decide_eq_true (by omega), tabardref13_rune1.j1, if_pos rfl, w64a (n := (gb s 0 : Int) - 224) (by omega), show (gb s 0 : Int) - 224 = ((gb s 0 - 224 : Nat) : Int) by omega]
   show ∃ n : Nat, tabardref13_rune1.j2 (k + 5 + 2) s ((3 : Nat) : Int) ((2048 : Nat) : Int) ((gb s 0 - 224 : Nat) : Int) = _ ∧ _
   rw [j3_go (k + 5) s 3 _ _ (by decide)]
   by_cases hz : s.size < 3
   ·rw [if_pos hz]
    exact Z32
   ·rw [if_neg hz, show (1 : Int) = ((1 : Nat) : Int) from rfl, l0_step (k + 4) s 3 1 _ _ (by decide) (by omega) (by decide) (by omega) (by omega)]
    by_cases h1 : gb s 1 < 128 ∨ 192 ≤ gb s 1
    ·rw [if_pos h1]
     exact Z32
    ·rw [if_neg h1, l0_step (k + 3) s 3 2 _ _ (by decide) (by omega) (by decide) (by omega) (by omega)]
     by_cases h2 : gb s 2 < 128 ∨ 192 ≤ gb s 2
     ·rw [if_pos h2]
      exact Z32
     ·rw [if_neg h2, l0_stop (k + 2)]
      by_cases hv : 64 * (64 * ((gb s 0 - 224 : Nat) : Int) + (gb s 1 : Int) - 128) + (gb s 2 : Int) - 128 < ((2048 : Nat) : Int) ∨ 1114111 < 64 * (64 * ((gb s 0 - 224 : Nat) : Int) + (gb s 1 : Int) - 128) + (gb s 2 : Int) - 128 ∨ (55296 ≤ 64 * (64 * ((gb s 0 - 224 : Nat) : Int) + (gb s 1 : Int) - 128) + (gb s 2 : Int) - 128 ∧ 64 * (64 * ((gb s 0 - 224 : Nat) : Int) + (gb s 1 : Int) - 128) + (gb s 2 : Int) - 128 < 57344)
      ·rw [if_pos hv]
       exact Z32
      ·rw [if_neg hv]
       exact ⟨3, rfl, some_good 3 _ (gb s 0 % 16 * 4096 + gb s 1 % 64 * 64 + gb s 2 % 64) (by unfold Lib.decodeN; (repeat' split); all_goals first | (exfalso; omega) | rfl) (Or.inr rfl)⟩
  ·rw [decide_eq_false (by omega), tabardref13_rune1.j1, if_neg (by simp), if_pos (by omega : (gb s 0 : Int) ≥ 240), if_pos (by omega : (gb s 0 : Int) < 245), w64a (n := (gb s 0 : Int) - 240) (by omega), show (gb s 0 : Int) - 240 = ((gb s 0 - 240 : Nat) : Int) by omega]
   show ∃ n : Nat, tabardref13_rune1.j2 (k + 5 + 2) s ((4 : Nat) : Int) ((65536 : Nat) : Int) ((gb s 0 - 240 : Nat) : Int) = _ ∧ _
   rw [j3_go (k + 5) s 4 _ _ (by decide)]
   by_cases hz : s.size < 4
   ·rw [if_pos hz]
    exact Z32
   ·rw [if_neg hz, show (1 : Int) = ((1 : Nat) : Int) from rfl, l0_step (k + 4) s 4 1 _ _ (by decide) (by omega) (by decide) (by omega) (by omega)]
    by_cases h1 : gb s 1 < 128 ∨ 192 ≤ gb s 1
    ·rw [if_pos h1]
     exact Z32
    ·rw [if_neg h1, l0_step (k + 3) s 4 2 _ _ (by decide) (by omega) (by decide) (by omega) (by omega)]
     by_cases h2 : gb s 2 < 128 ∨ 192 ≤ gb s 2
     ·rw [if_pos h2]
      exact Z32
     ·rw [if_neg h2, l0_step (k + 2) s 4 3 _ _ (by decide) (by omega) (by decide) (by omega) (by omega)]
      by_cases h3 : gb s 3 < 128 ∨ 192 ≤ gb s 3
      ·rw [if_pos h3]
       exact Z32
      ·rw [if_neg h3, l0_stop (k + 1)]
       obtain ⟨V, hV⟩ : ∃ V, 64 * (64 * (64 * ((gb s 0 - 240 : Nat) : Int) + (gb s 1 : Int) - 128) + (gb s 2 : Int) - 128) + (gb s 3 : Int) - 128 = V := ⟨_, rfl⟩
       rw [hV]
       by_cases hv : V < ((65536 : Nat) : Int) ∨ 1114111 < V ∨ (55296 ≤ V ∧ V < 57344)
       ·rw [if_pos hv]
        exact Z32
       ·rw [if_neg hv]
        exact ⟨4, rfl, some_good 4 _ (gb s 0 % 8 * 262144 + gb s 1 % 64 * 4096 + gb s 2 % 64 * 64 + gb s 3 % 64) (by unfold Lib.decodeN; (repeat' split); all_goals first | (exfalso; omega) | rfl) (Or.inl (by omega))⟩
theorem item_f (a : Int) (s : ByteArray) (k : Nat) : tabardref13_item.f (k + 9) a s = some ((pattern_Item_right.f a s).getD false) := by
 unfold tabardref13_item.f pattern_Item_right.f
 by_cases h1 : a = 1
 ·rw [if_pos h1, if_pos h1]
  obtain ⟨n, hn, hiff⟩ := rune1_f s k
  rw [hn]
  show (if (n : Int) > 0 then some ((n : Int) == (s.size : Int)) else some false) = some (((some (((Lib.decodeGo s).1 : Int), ((Lib.decodeGo s).2 : Int))).bind fun (bt102 : Int × Int) => (if bt102.2 = (s.size : Int) then (if bt102.2 > 0 then (if bt102.1 = 65533 then (some (bt102.2 == 3)) else (some true)) else (some false)) else (some false))).getD false)
  have hl : (if (n : Int) > 0 then some ((n : Int) == (s.size : Int)) else some false) = some (decide (0 < n ∧ n = s.size)) := by
   by_cases h : 0 < n
   ·rw [if_pos (by omega)]; congr 1; rw [Bool.eq_iff_iff, beq_iff_eq, decide_eq_true_iff]; omega
   ·rw [if_neg (by omega), decide_eq_false (by omega)]
  rw [hl]
  congr 1
  rw [Bool.eq_iff_iff, decide_eq_true_iff, hiff]
  unfold good
  generalize (Lib.decodeGo s).1 = c
  generalize (Lib.decodeGo s).2 = m
  show _ ↔ (if (m : Int) = (s.size : Int) then (if (m : Int) > 0 then (if (c : Int) = 65533 then (some ((m : Int) == 3)) else (some true)) else (some false)) else (some false)).getD false = true
  by_cases c1 : m = s.size
  ·rw [if_pos (by omega)]
   by_cases c2 : 0 < m
   ·rw [if_pos (by omega)]
    by_cases c3 : c = 65533
    ·rw [if_pos (by omega)]
     show _ ↔ ((m : Int) == 3) = true
     rw [beq_iff_eq]
     exact ⟨fun h => by have := h.2.2 c3; omega, fun h => ⟨c1, c2, fun _ => by omega⟩⟩
    ·rw [if_neg (by omega)]
     exact ⟨fun _ => rfl, fun _ => ⟨c1, c2, fun h => absurd h c3⟩⟩
   ·rw [if_neg (by omega)]
    exact ⟨fun h => absurd h.2.1 c2, fun h => by cases h⟩
  ·rw [if_neg (by omega)]
   exact ⟨fun h => absurd h.1 c1, fun h => by cases h⟩
 ·rw [if_neg h1, if_neg h1]
  repeat' split
  all_goals rfl
end Go.Proofs.YtmbhjogohfcjgaaDoor.P
