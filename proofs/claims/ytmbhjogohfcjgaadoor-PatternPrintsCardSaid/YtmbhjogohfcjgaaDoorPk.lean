/- Plain law: of an item that is right, the reference writes what the program writes. -/
import Derived.Test.YtmbhjogohfcjgaaDoorPp
import Derived.Test.YtmbhjogohfcjgaaDoorPm2
import Derived.Test.YtmbhjogohfcjgaaDoorPm7
import Derived.Test.YtmbhjogohfcjgaaDoorP12
import Derived.Test.YtmbhjogohfcjgaaDoorP13
import Derived.Test.YtmbhjogohfcjgaaDoorP0
import Derived.Test.YtmbhjogohfcjgaaDoorP7
import Derived.Test.YtmbhjogohfcjgaaDoorP8
import Derived.Test.YtmbhjogohfcjgaaDoorPn
namespace Go.Proofs.YtmbhjogohfcjgaaDoor.P
open Go.RowKit Go.Proofs.YtmbhjogohfcjgaaDoorW.PrintWords Go.Proofs.YtmbhjogohfcjgaaDoorW.PrintMore
set_option linter.unusedVariables false
set_option linter.unusedSimpArgs false
def bareL : List UInt8 := [32, 45, 43, 40, 41, 58]
theorem bare_fin : ∀ n : Fin 256, Lib.contains bareL [UInt8.ofNat n.val] = true → UInt8.ofNat n.val = 32 ∨ UInt8.ofNat n.val = 45 ∨ UInt8.ofNat n.val = 43 ∨ UInt8.ofNat n.val = 40 ∨ UInt8.ofNat n.val = 41 ∨ UInt8.ofNat n.val = 58 := by decide +kernel
theorem bare_one (c : UInt8) (h : Lib.contains bareL [c] = true) : c = 32 ∨ c = 45 ∨ c = 43 ∨ c = 40 ∨ c = 41 ∨ c = 58 := by
 have e : UInt8.ofNat c.toNat = c := UInt8.ofNat_toNat
 have := bare_fin ⟨c.toNat, c.toNat_lt⟩
 simp only [e] at this
 exact this h
theorem bare_long (b : UInt8) (r : List UInt8) (hb : 128 ≤ b.toNat) : Lib.contains bareL (b :: r) = false := by
 have ne : ∀ n : UInt8, n.toNat < 128 → (b == n) = false := fun n hn => beq_eq_false_iff_ne.mpr (fun h => by subst h; omega)
 have h1 := ne 32 (by decide)
 have h2 := ne 45 (by decide)
 have h3 := ne 43 (by decide)
 have h4 := ne 40 (by decide)
 have h5 := ne 41 (by decide)
 have h6 := ne 58 (by decide)
 simp [Lib.contains, bareL, Lib.index, List.isPrefixOf, h1, h2, h3, h4, h5, h6]
theorem decodeN_wide {n b0 b1 b2 b3 : Nat} : (Lib.decodeN n b0 b1 b2 b3).2 ≤ 4 ∧ (b0 < 128 → (Lib.decodeN n b0 b1 b2 b3).2 = 1) := by
 refine ⟨?_, fun h => ?_⟩
 ·unfold Lib.decodeN
  repeat' split
  all_goals (simp only; omega)
 ·unfold Lib.decodeN; rw [if_pos h]
theorem lit_form {s : ByteArray} (h : (pattern_Item_right.f 1 s).getD false = true) : s.size ≤ 4 ∧ ((∃ c, s.toList = [c]) ∨ ∃ b r, s.toList = b :: r ∧ 128 ≤ b.toNat) := by
 have h : (((some (((Lib.decodeGo s).1 : Int), ((Lib.decodeGo s).2 : Int))).bind fun (bt102 : Int × Int) => (if bt102.2 = (s.size : Int) then (if bt102.2 > 0 then (if bt102.1 = 65533 then (some (bt102.2 == 3)) else (some true)) else (some false)) else (some false))).getD false) = true := h
 simp only [Option.bind_some] at h
 by_cases h0 : s.size = 0
 ·exfalso
  split at h
  ·split at h
   ·omega
   ·cases h
  ·cases h
 by_cases e : ((Lib.decodeGo s).2 : Int) = (s.size : Int)
 ·have e : (Lib.decodeGo s).2 = s.size := by omega
  rw [decodeGo_N s h0] at e
  have hw := decodeN_wide (n := s.size) (b0 := gb s 0) (b1 := gb s 1) (b2 := gb s 2) (b3 := gb s 3)
  refine ⟨by omega, ?_⟩
  have hl : s.toList.length = s.size := by rw [Lib.toList_data]; rfl
  match hs : s.toList with
  | [] => rw [hs] at hl; simp at hl; omega
  | [c] => exact Or.inl ⟨c, rfl⟩
  | b :: c :: r =>
   refine Or.inr ⟨b, c :: r, rfl, ?_⟩
   have h2 : 2 ≤ s.size := by rw [← hl, hs]; simp
   have hb : gb s 0 = b.toNat := by
    unfold gb
    rw [Lib.toList_data] at hs
    rw [get_bang s 0 (by omega)]
    have h0 : s.data.toList[0]? = some (s[0]'(by omega)) := List.getElem?_eq_getElem (by exact (show 0 < s.size by omega))
    rw [hs] at h0
    rw [← Option.some.inj h0]
   rcases Nat.lt_or_ge b.toNat 128 with h9 | h9
   ·have := hw.2 (by omega); omega
   ·exact h9
 ·rw [if_neg e] at h; cases h
theorem sign_same {x : S88} (ok : okItem x = true) : tabardref13_sign.f x.f0 x.f1 = some (sgnOf x) ∧ x.f1.size ≤ 4 := by
 obtain ⟨k, s⟩ := x
 have ok : (pattern_Item_right.f k s).getD false = true := ok
 show tabardref13_sign.f k s = some ((pattern_Item_sign.f k s).getD ⟨#[]⟩) ∧ s.size ≤ 4
 by_cases h1 : k = 1
 ·subst h1
  obtain ⟨hz, hf⟩ := lit_form ok
  refine ⟨?_, hz⟩
  have hb : (1 + s.size ≤ 9223372036854775807) = True := eq_true (by omega)
  have hp : pattern_Item_sign.f 1 s = some (if Lib.contains bareL s.toList = true then s else (⟨#[92]⟩ : ByteArray) ++ s) := by
   unfold pattern_Item_sign.f strings_Contains.f
   rw [if_pos rfl, if_pos (show (⟨#[32, 45, 43, 40, 41, 58]⟩ : ByteArray).size < 4294967281 by decide)]
   simp only [Option.bind_some, hb, if_true]
   rw [Lib.toList_data]
   show (if Lib.contains bareL s.data.toList = true then some s else some ((⟨#[92]⟩ : ByteArray) ++ s)) = _
   split <;> rfl
  rw [hp]
  show _ = some (if Lib.contains bareL s.toList = true then s else (⟨#[92]⟩ : ByteArray) ++ s)
  unfold tabardref13_sign.f
  rw [if_pos rfl]
  simp only [hb, if_true]
  by_cases hc : Lib.contains bareL s.toList = true
  ·rw [if_pos hc]
   rcases hf with ⟨c, hl⟩ | ⟨b, r, hl, hb9⟩
   ·rw [hl] at hc ⊢
    rcases bare_one c hc with rfl | rfl | rfl | rfl | rfl | rfl <;> rfl
   ·rw [hl, bare_long b r hb9] at hc; cases hc
  ·rw [if_neg hc]
   have nn : ∀ c : UInt8, Lib.contains bareL [c] = true → ¬ s.toList = [c] := fun c h9 h8 => hc (by rw [h8]; exact h9)
   rw [if_neg (nn 32 rfl), if_neg (nn 45 rfl), if_neg (nn 43 rfl), if_neg (nn 40 rfl), if_neg (nn 41 rfl), if_neg (nn 58 rfl)]
 have sz : ∀ (c : UInt8), s.toList = [c] → s.size ≤ 4 := fun c h => by
  have : s.toList.length = s.size := by rw [Lib.toList_data]; rfl
  rw [← this, h]; simp
 by_cases h2 : k = 2
 ·subst h2
  refine ⟨rfl, ?_⟩
  unfold pattern_Item_right.f at ok
  rw [if_neg h1, if_pos rfl] at ok
  split at ok
  ·exact sz _ ‹_›
  ·split at ok
   ·exact sz _ ‹_›
   ·exact sz _ (beq_iff_eq.mp ok)
 unfold pattern_Item_right.f at ok
 rw [if_neg h1, if_neg h2] at ok
 by_cases h5 : k = 5
 ·subst h5
  rw [if_pos rfl] at ok
  have hz : s.size ≤ 4 := by
   split at ok
   ·exact sz _ ‹_›
   ·exact sz _ (beq_iff_eq.mp ok)
  refine ⟨?_, hz⟩
  have hb : 1 + s.size ≤ 9223372036854775807 := by omega
  unfold tabardref13_sign.f pattern_Item_sign.f
  rw [if_neg h1, if_neg h2, if_pos rfl, if_neg h1, if_pos rfl, if_pos hb]; rfl
 rw [if_neg h5] at ok
 by_cases ha : k ≥ 1
 ·rw [if_pos ha] at ok
  by_cases hb : k ≤ 9
  ·rw [if_pos hb] at ok
   have hl := beq_iff_eq.mp (show (s.toList == ([] : List UInt8)) = true from ok)
   have hs : s = ⟨#[]⟩ := ByteArray.ext (Array.toList_inj.mp (by rw [← Lib.toList_data, hl]))
   subst hs
   have : k = 3 ∨ k = 4 ∨ k = 6 ∨ k = 7 ∨ k = 8 ∨ k = 9 := by omega
   rcases this with rfl | rfl | rfl | rfl | rfl | rfl <;> exact ⟨rfl, by decide⟩
  ·rw [if_neg hb] at ok; cases ok
 ·rw [if_neg ha] at ok; cases ok
end Go.Proofs.YtmbhjogohfcjgaaDoor.P
namespace Go.Proofs.YtmbhjogohfcjgaaDoor.P
open Go.RowKit Go.Proofs.YtmbhjogohfcjgaaDoorW.PrintWords Go.Proofs.YtmbhjogohfcjgaaDoorW.PrintMore
set_option linter.unusedVariables false
set_option linter.unusedSimpArgs false
theorem pair_cases (l : List S88) : (∃ p : Nat, pairOf l = (p : Int) ∧ p + 1 < wEnd l ∧ pairAt l p = true ∧ ∀ i, i < p → pairAt l i = false) ∨ (pairOf l = -1 ∧ ∀ i, i + 1 < wEnd l → pairAt l i = false) := by
 rcases h : (List.range (wEnd l - 1)).find? (pairAt l) with _ | p
 ·right
  have h0 : ∀ i, i + 1 < wEnd l → pairAt l i = false := fun i hi => by
   have := List.find?_eq_none.1 h i (List.mem_range.2 (by omega))
   simpa using this
  exact ⟨pairOf_none h0, h0⟩
 ·left
  obtain ⟨h1, h2, h3⟩ := List.find?_range_eq_some.1 h
  have h2 := List.mem_range.1 h2
  have h3' : ∀ i, i < p → pairAt l i = false := fun i hi => by have := h3 i hi; simpa using this
  exact ⟨p, pairOf_some (by omega) h3' h1, by omega, h1, h3'⟩
def grp (l : List S88) (b : Bool) (j : Nat) : Bool := b && decide (0 ≤ pairOf l ∧ pairOf l < (j : Int))
def now (l : List S88) (b : Bool) (j : Nat) : Bool := b && !grp l b j && decide (j + 1 < wEnd l) && pairAt l j
theorem now_iff (l : List S88) (b : Bool) (j : Nat) : now l b j = decide ((j : Int) = (if b = true then pairOf l else -1)) := by
 unfold now grp
 cases b with
 | false =>
  rw [if_neg (by simp), decide_eq_false (show ¬ (j : Int) = -1 by omega)]; rfl
 | true =>
  rw [if_pos rfl]
  simp only [Bool.true_and]
  rcases pair_cases l with ⟨p, e, h1, h2, h3⟩ | ⟨e, h0⟩
  ·rw [e]
   by_cases hj : j = p
   ·subst hj
    rw [decide_eq_true (show (j : Int) = (j : Int) from rfl), decide_eq_false (by omega), decide_eq_true h1, h2]; rfl
   ·rw [decide_eq_false (show ¬ (j : Int) = (p : Int) by omega)]
    by_cases hlt : j < p
    ·rw [h3 j hlt, Bool.and_false]
    ·rw [decide_eq_true (show 0 ≤ (p : Int) ∧ (p : Int) < (j : Int) by omega)]; rfl
  ·rw [e, decide_eq_false (show ¬ (j : Int) = -1 by omega)]
   by_cases hj : j + 1 < wEnd l
   ·rw [h0 j hj, Bool.and_false]
   ·rw [decide_eq_false hj, Bool.and_false, Bool.false_and]
theorem grp_succ (l : List S88) (b : Bool) (j : Nat) : grp l b (j + 1) = (grp l b j || now l b j) := by
 rw [now_iff]
 unfold grp
 cases b with
 | false => rw [if_neg (by simp), decide_eq_false (show ¬ (j : Int) = -1 by omega)]; rfl
 | true =>
  rw [if_pos rfl]
  simp only [Bool.true_and]
  rw [Bool.eq_iff_iff, Bool.or_eq_true, decide_eq_true_iff, decide_eq_true_iff, decide_eq_true_iff]
  omega
def itB (l : List S88) (pair last sc : Int) (j : Nat) : ByteArray := prUp l pair last sc (j + 1)
theorem prUp_now (l : List S88) (b : Bool) (last sc : Int) (j : Nat) : prUp l (if b = true then pairOf l else -1) last sc (j + 1)
  = (if (j : Int) = last then (if now l b j = true then prUp l (if b = true then pairOf l else -1) last sc j ++ sgnOf (rd_T88 l (j : Int)) ++ ⟨#[44]⟩ else prUp l (if b = true then pairOf l else -1) last sc j ++ sgnOf (rd_T88 l (j : Int))) ++ repB sc
   else (if now l b j = true then prUp l (if b = true then pairOf l else -1) last sc j ++ sgnOf (rd_T88 l (j : Int)) ++ ⟨#[44]⟩ else prUp l (if b = true then pairOf l else -1) last sc j ++ sgnOf (rd_T88 l (j : Int)))) := by
 rw [now_iff]
 simp only [decide_eq_true_iff]
 rfl
section
variable {L : List S62} {jS : Nat} (hjS : jS < L.length)
include hjS
theorem rdS : rd_T66 (L.map scv) (jS : Int) = scv L[jS] := by rw [rd_scv, rds_get hjS]
omit hjS in
theorem ref_l1 (x4 : ByteArray) (l : List S88) (hl : l.length ≤ 1000000) : ∀ (d j k : Nat), wEnd l - j = d → j ≤ wEnd l → tabardref13_Print.l1 (k + d + 1) (L.map scv) x4 jS (l.map cv) (wEnd l) (lastUp l j) j = tabardref13_Print.l2 k (L.map scv) x4 jS (l.map cv) (wEnd l) (lastUp l (wEnd l)) false 0
 | 0, j, k, hd, hj => by
  have : j = wEnd l := by omega
  subst this
  rw [Nat.add_zero, tabardref13_Print.l1, if_neg (by omega)]
 | d + 1, j, k, hd, hj => by
  have hw := wEnd_le l
  have e1 : ((j : Int) + 1) = ((j + 1 : Nat) : Int) := rfl
  rw [show k + (d + 1) + 1 = (k + d + 1) + 1 from rfl, tabardref13_Print.l1, List.length_map, if_pos (by omega), if_pos (by omega), if_pos (by omega), rd_cv, w64a (n := (j : Int) + 1) (by omega), e1]
  have ih := ref_l1 x4 l hl d (j + 1) k (by omega) (by omega)
  by_cases h2 : (rd_T88 l (j : Int)).f0 = 2
  ·rw [if_pos (show (cv (rd_T88 l (j : Int))).f0 = 2 from h2)]
   rw [show lastUp l (j + 1) = (j : Int) from (by rw [lastUp, if_pos h2])] at ih
   exact ih
  ·rw [if_neg (show ¬ (cv (rd_T88 l (j : Int))).f0 = 2 from h2)]
   rw [show lastUp l (j + 1) = lastUp l j from (by rw [lastUp, if_neg h2])] at ih
   exact ih
omit hjS in
theorem ref_l3_no (x4 : ByteArray) (l : List S88) (last : Int) (g : Bool) (j k : Nat) (hj : j ≤ 1000000) (h : ¬ (j : Int) = last) : tabardref13_Print.l3 (k + 1) (L.map scv) x4 jS (l.map cv) (wEnd l) last g j 0 = tabardref13_Print.l2 k (L.map scv) x4 jS (l.map cv) (wEnd l) last g ((j + 1 : Nat) : Int) := by
 rw [tabardref13_Print.l3, if_neg h, w64a (n := (j : Int) + 1) (by omega)]; rfl
def coms (x : ByteArray) : Nat → ByteArray
 | 0 => x
 | n + 1 => coms (x ++ ⟨#[44]⟩) n
omit hjS in
theorem coms_size (x : ByteArray) : ∀ n, (coms x n).size = x.size + n
 | 0 => rfl
 | n + 1 => by
  rw [coms, coms_size _ n, ByteArray.size_append]
  show x.size + 1 + n = _
  omega
theorem ref_l3_yes (l : List S88) (g : Bool) (j : Nat) (hj : j ≤ 1000000) (m : Nat) (hm : (L[jS]).f2 = (m : Int)) (hm2 : m ≤ 1000) : ∀ (d n k : Nat) (x4 : ByteArray), m - n = d → n ≤ m → x4.size + d ≤ 9000000000000 → tabardref13_Print.l3 (k + d + 1) (L.map scv) x4 jS (l.map cv) (wEnd l) j g j n = tabardref13_Print.l2 k (L.map scv) (coms x4 d) jS (l.map cv) (wEnd l) j g ((j + 1 : Nat) : Int)
 | 0, n, k, x4, hd, hn, hx => by
  have hS : (rd_T66 (L.map scv) (jS : Int)).f2 = (m : Int) := by rw [rdS hjS]; exact hm
  rw [Nat.add_zero, tabardref13_Print.l3, if_pos rfl, List.length_map, if_pos (by omega), if_pos (by omega), hS, if_neg (by omega), w64a (n := (j : Int) + 1) (by omega)]; rfl
 | d + 1, n, k, x4, hd, hn, hx => by
  have hS : (rd_T66 (L.map scv) (jS : Int)).f2 = (m : Int) := by rw [rdS hjS]; exact hm
  have e1 : ((n : Int) + 1) = ((n + 1 : Nat) : Int) := rfl
  have h1 : (x4 ++ (⟨#[44]⟩ : ByteArray)).size = x4.size + 1 := by rw [ByteArray.size_append]; rfl
  rw [show k + (d + 1) + 1 = (k + d + 1) + 1 from rfl, tabardref13_Print.l3, if_pos rfl, List.length_map, if_pos (by omega), if_pos (by omega), hS, if_pos (by omega), if_pos (by omega), w64a (n := (n : Int) + 1) (by omega), e1]
  exact ref_l3_yes l g j hj m hm hm2 d (n + 1) k _ (by omega) (by omega) (by omega)
end
theorem coms_rep (x : ByteArray) : ∀ n : Nat, coms x n = x ++ repB (n : Int)
 | 0 => by
  apply ByteArray.ext
  rw [ByteArray.data_append]
  show x.data = x.data ++ #[]
  rw [Array.append_empty]
 | n + 1 => by
  rw [coms, coms_rep _ n]
  apply ByteArray.ext
  apply Array.toList_inj.mp
  unfold repB
  rw [ByteArray.data_append, ByteArray.data_append, ByteArray.data_append, Array.toList_append, Array.toList_append, Array.toList_append, Int.toNat_natCast, Int.toNat_natCast, List.append_assoc]
  rfl
section
variable {L : List S62} {jS : Nat} (hjS : jS < L.length)
include hjS
theorem ref_item (r : ByteArray) (l : List S88) (b : Bool) (m : Nat) (hl : l.length ≤ 1000000) (hb : (L[jS]).f1 = b) (hm : (L[jS]).f2 = (m : Int)) (hm2 : m ≤ 1000) (P : ByteArray) (j q : Nat) (hj : j < l.length) (hok : okItem (rd_T88 l (j : Int)) = true)
  (hP : P.size ≤ 1000000000000)
  (h : tabardref13_Print.l2 q (L.map scv) (if (j : Int) = lastUp l (wEnd l) then (if now l b j = true then P ++ sgnOf (rd_T88 l (j : Int)) ++ ⟨#[44]⟩ else P ++ sgnOf (rd_T88 l (j : Int))) ++ repB (m : Int) else (if now l b j = true then P ++ sgnOf (rd_T88 l (j : Int)) ++ ⟨#[44]⟩ else P ++ sgnOf (rd_T88 l (j : Int)))) jS (l.map cv) (wEnd l) (lastUp l (wEnd l)) (grp l b (j + 1)) ((j + 1 : Nat) : Int) = some r) :
  ∃ k, tabardref13_Print.l2 k (L.map scv) P jS (l.map cv) (wEnd l) (lastUp l (wEnd l)) (grp l b j) j = some r := by
 have hw := wEnd_le l
 obtain ⟨hs, hz⟩ := sign_same hok
 have hsz : (sgnOf (rd_T88 l (j : Int))).size ≤ 1001 := sgnOf_size (by omega)
 have e1 : ((j : Int) + 1) = ((j + 1 : Nat) : Int) := rfl
 have hF1 : (rd_T66 (L.map scv) (jS : Int)).f1 = b := by rw [rdS hjS]; exact hb
 generalize sgnOf (rd_T88 l (j : Int)) = sg at *
 have hA : (P ++ sg).size = P.size + sg.size := ByteArray.size_append
 generalize hQ : P ++ sg = Q at *
 have hQ1 : (Q ++ (⟨#[44]⟩ : ByteArray)).size = Q.size + 1 := by rw [ByteArray.size_append]; rfl
 have tail : ∀ (g : Bool) (Q : ByteArray), Q.size ≤ 3000000000000 → tabardref13_Print.l2 q (L.map scv) (if (j : Int) = lastUp l (wEnd l) then Q ++ repB (m : Int) else Q) jS (l.map cv) (wEnd l) (lastUp l (wEnd l)) g ((j + 1 : Nat) : Int) = some r
   → ∃ k, tabardref13_Print.j5 k (L.map scv) Q jS (l.map cv) (wEnd l) (lastUp l (wEnd l)) g j = some r := by
  intro g Q hQ h
  by_cases hc : (j : Int) = lastUp l (wEnd l)
  ·rw [if_pos hc, ← hc, ← coms_rep] at h
   refine ⟨q + m + 1 + 1, ?_⟩
   rw [tabardref13_Print.j5, ← hc]
   exact (ref_l3_yes hjS l g j (by omega) m hm hm2 m 0 q Q (by omega) (by omega) (by omega)).trans h
  ·rw [if_neg hc] at h
   refine ⟨q + 1 + 1, ?_⟩
   rw [tabardref13_Print.j5]
   exact (ref_l3_no Q l _ g j q (by omega) hc).trans h
 have step : ∀ (x : Bool), now l b j = x → ∃ k, tabardref13_Print.j4 k (L.map scv) Q jS (l.map cv) (wEnd l) (lastUp l (wEnd l)) (grp l b j) j x = some r := by
  intro x hx
  rw [grp_succ, hx] at h
  cases x with
  | true =>
   rw [if_pos rfl, Bool.or_true] at h
   obtain ⟨k, hk⟩ := tail true _ (by omega) h
   refine ⟨k + 1, ?_⟩
   rw [tabardref13_Print.j4, if_pos rfl, if_pos (by omega)]
   exact hk
  | false =>
   simp only [if_neg (show ¬ (false = true) by simp), Bool.or_false] at h
   obtain ⟨k, hk⟩ := tail _ Q (by omega) h
   refine ⟨k + 1, ?_⟩
   rw [tabardref13_Print.j4, if_neg (by simp)]
   exact hk
 obtain ⟨k, hk⟩ := step _ rfl
 refine ⟨k + 1, ?_⟩
 rw [tabardref13_Print.l2, List.length_map, List.length_map, if_pos (by omega), if_pos (by omega), rd_cv, bs_ (show tabardref13_sign.f (cv (rd_T88 l (j : Int))).f0 (cv (rd_T88 l (j : Int))).f1 = some sg from hs), if_pos (by omega), if_pos (by omega), if_pos (by omega), hF1, w64a (n := (j : Int) + 1) (by omega), e1, rd_cv, hQ]
 unfold now at hk
 cases b with
 | false =>
  rw [if_neg (by simp)]
  exact hk
 | true =>
  rw [if_pos rfl]
  cases hg : grp l true j with
  | true =>
   rw [if_pos rfl]
   rw [hg] at hk
   exact hk
  | false =>
   rw [hg] at hk
   rw [if_neg (by simp)]
   by_cases hlt : j + 1 < wEnd l
   ·rw [if_pos (by omega)]
    by_cases h2 : (rd_T88 l (j : Int)).f0 = 2
    ·rw [if_pos (show (cv (rd_T88 l (j : Int))).f0 = 2 from h2), if_pos (by omega), if_pos (by omega)]
     have hx : (true && !false && decide (j + 1 < wEnd l) && pairAt l j) = ((cv (rd_T88 l ((j + 1 : Nat) : Int))).f0 == 2) := by
      rw [decide_eq_true hlt]
      unfold pairAt
      rw [beq_iff_eq.mpr h2]; rfl
     rw [hx] at hk
     exact hk
    ·rw [if_neg (show ¬ (cv (rd_T88 l (j : Int))).f0 = 2 from h2)]
     have hx : (true && !false && decide (j + 1 < wEnd l) && pairAt l j) = false := by
      unfold pairAt
      rw [beq_eq_false_iff_ne.mpr h2, Bool.false_and, Bool.and_false]
     rw [hx] at hk
     exact hk
   ·rw [if_neg (by omega)]
    have hx : (true && !false && decide (j + 1 < wEnd l) && pairAt l j) = false := by
     rw [decide_eq_false hlt, Bool.and_false, Bool.false_and]
    rw [hx] at hk
    exact hk
theorem ref_items (r : ByteArray) (l : List S88) (b : Bool) (m : Nat) (hl : l.length ≤ 1000000) (hb : (L[jS]).f1 = b) (hm : (L[jS]).f2 = (m : Int)) (hm2 : m ≤ 1000) (hok : ∀ x ∈ l, okItem x = true) (P : ByteArray) (hP : P.size ≤ 500000000000)
  (q : Nat) (h : tabardref13_Print.l0 q (L.map scv) (P ++ printOf l b m) ((jS + 1 : Nat) : Int) = some r) (hjS2 : jS ≤ 1000000) :
  ∀ (d j : Nat), l.length - j = d → j ≤ l.length → ∃ k, tabardref13_Print.l2 k (L.map scv) (P ++ prUp l (if b = true then pairOf l else -1) (lastUp l (wEnd l)) m j) jS (l.map cv) (wEnd l) (lastUp l (wEnd l)) (grp l b j) j = some r
 | 0, j, hd, hj => by
  have : j = l.length := by omega
  subst this
  refine ⟨q + 1, ?_⟩
  rw [tabardref13_Print.l2, List.length_map, if_neg (by omega), w64a (n := (jS : Int) + 1) (by omega)]
  exact h
 | d + 1, j, hd, hj => by
  obtain ⟨q2, h2⟩ := ref_items r l b m hl hb hm hm2 hok P hP q h hjS2 d (j + 1) (by omega) (by omega)
  have hlt : j < l.length := by omega
  have hx : okItem (rd_T88 l (j : Int)) = true := by rw [rd_get hlt]; exact hok _ (List.getElem_mem hlt)
  have hsz := prUp_size (l := l) (fun x hx => by have := (sign_same (hok x hx)).2; omega) (sc := (m : Int)) (by omega) (by omega) (if b = true then pairOf l else -1) (lastUp l (wEnd l)) j (by omega)
  refine ref_item hjS r l b m hl hb hm hm2 _ j q2 hlt hx (by rw [ByteArray.size_append]; omega) ?_
  rw [prUp_now] at h2
  have e : ∀ (c1 c2 : Prop) [Decidable c1] [Decidable c2] (A B C : ByteArray), (if c1 then (if c2 then P ++ A ++ B ++ ⟨#[44]⟩ else P ++ A ++ B) ++ C else (if c2 then P ++ A ++ B ++ ⟨#[44]⟩ else P ++ A ++ B)) = P ++ (if c1 then (if c2 then A ++ B ++ ⟨#[44]⟩ else A ++ B) ++ C else (if c2 then A ++ B ++ ⟨#[44]⟩ else A ++ B)) := by
   intro c1 c2 _ _ A B C
   split <;> split <;> simp only [ByteArray.append_assoc]
  rw [e]
  exact h2
theorem ref_section (r : ByteArray) (b : Bool) (m : Nat) (hl : (L[jS]).f0.length ≤ 1000000) (hb : (L[jS]).f1 = b) (hm : (L[jS]).f2 = (m : Int)) (hm2 : m ≤ 1000) (hok : ∀ x ∈ (L[jS]).f0, okItem x = true) (P : ByteArray) (hP : P.size ≤ 500000000000)
  (q : Nat) (h : tabardref13_Print.l0 q (L.map scv) (P ++ printOf (L[jS]).f0 b m) ((jS + 1 : Nat) : Int) = some r) (hjS2 : jS ≤ 1000000) : ∃ k, tabardref13_Print.j1 k (L.map scv) P jS = some r := by
 obtain ⟨k2, h2⟩ := ref_items hjS r (L[jS]).f0 b m hl hb hm hm2 hok P hP q h hjS2 (L[jS]).f0.length 0 (by omega) (by omega)
 have hg : grp (L[jS]).f0 b 0 = false := by
  unfold grp
  rw [decide_eq_false (by omega), Bool.and_false]
 have hp : P ++ prUp (L[jS]).f0 (if b = true then pairOf (L[jS]).f0 else -1) (lastUp (L[jS]).f0 (wEnd (L[jS]).f0)) m 0 = P := by
  rw [prUp]
  apply ByteArray.ext
  rw [ByteArray.data_append]
  show P.data ++ #[] = P.data
  rw [Array.append_empty]
 rw [hg, hp] at h2
 have h1 := (ref_l1 P (L[jS]).f0 hl (wEnd (L[jS]).f0) 0 k2 (by omega) (by omega)).trans h2
 have hup : ∀ n, tabardref13_Print.l1 (k2 + wEnd (L[jS]).f0 + 1 + n) (L.map scv) P jS ((L[jS]).f0.map cv) (wEnd (L[jS]).f0) (-1) 0 = some r := by
  intro n
  induction n with
  | zero => exact h1
  | succ n ih => exact (tabardref13_Print.mono_l (k2 + wEnd (L[jS]).f0 + 1 + n)).2.2.1 _ _ _ _ _ _ _ r ih
 refine ⟨k2 + wEnd (L[jS]).f0 + 1 + ((L[jS]).f0.length + 1) + 1, ?_⟩
 have hWE := WholeEnd_f (L[jS]).f0 (k2 + wEnd (L[jS]).f0 + 1 + ((L[jS]).f0.length + 1)) hl (by omega)
 rw [tabardref13_Print.j1, List.length_map, if_pos (by omega), if_pos (by omega), rdS hjS]
 show (tabardref13_WholeEnd.f _ ((L[jS]).f0.map cv)).bind _ = _
 rw [bs_ hWE]
 exact hup _
end
def txt (L : List S62) : Nat → ByteArray
 | 0 => ⟨#[]⟩
 | j + 1 => (if 0 < j then txt L j ++ ⟨#[59]⟩ else txt L j) ++ printOf (rd_T62 L (j : Int)).f0 (rd_T62 L (j : Int)).f1 (rd_T62 L (j : Int)).f2
structure Fine (L : List S62) : Prop where
 n : L.length ≤ 4
 it : ∀ s ∈ L, s.f0.length ≤ 1000
 ok : ∀ s ∈ L, ∀ x ∈ s.f0, okItem x = true
 sc : ∀ s ∈ L, 0 ≤ s.f2 ∧ s.f2 ≤ 9
theorem print_size {L : List S62} (h : Fine L) {s : S62} (hs : s ∈ L) : (printOf s.f0 s.f1 s.f2).size ≤ 2002000 := by
 have hi := h.it s hs
 have hc := h.sc s hs
 have := prUp_size (l := s.f0) (fun x hx => by have := (sign_same (h.ok s hs x hx)).2; omega) hc.1 (by omega) (if s.f1 = true then pairOf s.f0 else -1) (lastUp s.f0 (wEnd s.f0)) s.f0.length (Nat.le_refl _)
 unfold printOf
 omega
theorem txt_size {L : List S62} (h : Fine L) : ∀ j, j ≤ L.length → (txt L j).size ≤ j * 2002001
 | 0, _ => Nat.le_refl _
 | j + 1, hj => by
  have ih := txt_size h j (by omega)
  have hp := print_size h (List.getElem_mem (show j < L.length by omega))
  have h1 : (txt L j ++ (⟨#[59]⟩ : ByteArray)).size = (txt L j).size + 1 := by rw [ByteArray.size_append]; rfl
  rw [txt, ByteArray.size_append, rds_get (show j < L.length by omega)]
  split <;> omega
theorem ref_all {L : List S62} (h : Fine L) : ∀ (d j : Nat), L.length - j = d → j ≤ L.length → ∃ k, tabardref13_Print.l0 k (L.map scv) (txt L j) j = some (txt L L.length)
 | 0, j, hd, hj => by
  have : j = L.length := by omega
  subst this
  exact ⟨1, by rw [tabardref13_Print.l0, List.length_map, if_neg (by omega)]⟩
 | d + 1, j, hd, hj => by
  have hlt : j < L.length := by omega
  obtain ⟨q, hq⟩ := ref_all h d (j + 1) (by omega) (by omega)
  have hmem := List.getElem_mem hlt
  have hn := h.n
  have hi := h.it _ hmem
  have hc := h.sc _ hmem
  have ht := txt_size h j (by omega)
  have h1 : (txt L j ++ (⟨#[59]⟩ : ByteArray)).size = (txt L j).size + 1 := by rw [ByteArray.size_append]; rfl
  rw [txt, rds_get hlt] at hq
  have hq2 : tabardref13_Print.l0 q (L.map scv) ((if 0 < j then txt L j ++ ⟨#[59]⟩ else txt L j) ++ printOf (L[j]).f0 (L[j]).f1 (((L[j]).f2.toNat : Nat) : Int)) ((j + 1 : Nat) : Int) = some (txt L L.length) := by
   rw [Int.toNat_of_nonneg hc.1]; exact hq
  obtain ⟨k, hk⟩ := ref_section hlt (txt L L.length) (L[j]).f1 (L[j]).f2.toNat (by omega) rfl (Int.toNat_of_nonneg hc.1).symm (by omega) (h.ok _ hmem) (if 0 < j then txt L j ++ ⟨#[59]⟩ else txt L j) (by split <;> omega) q hq2 (by omega)
  refine ⟨k + 1, ?_⟩
  rw [tabardref13_Print.l0, List.length_map, if_pos (by omega)]
  by_cases h0 : 0 < j
  ·rw [if_pos h0] at hk
   rw [if_pos (by omega), if_pos (by omega)]; exact hk
  ·rw [if_neg h0] at hk
   rw [if_neg (by omega)]; exact hk
def prn (s : S62) : ByteArray := printOf s.f0 s.f1 s.f2
theorem join_txt (L : List S62) : ∀ j, j ≤ L.length → Lib.join (((L.take j).map prn).map (·.data.toList)) [59] = (txt L j).data.toList
 | 0, _ => rfl
 | j + 1, hj => by
  have hlt : j < L.length := by omega
  have ih := join_txt L j (by omega)
  have e59 : (⟨#[59]⟩ : ByteArray).data.toList = [59] := rfl
  rw [txt, rds_get hlt, ByteArray.data_append, Array.toList_append, List.take_succ_eq_append_getElem hlt, List.map_append, List.map_append]
  show Lib.join (((L.take j).map prn).map (·.data.toList) ++ [(prn L[j]).data.toList]) [59] = _
  by_cases h0 : 0 < j
  ·rw [if_pos h0, ByteArray.data_append, Array.toList_append, e59, ← ih]
   obtain ⟨x, rs, hx⟩ : ∃ x rs, ((L.take j).map prn).map (·.data.toList) = x :: rs := by
    cases hq : ((L.take j).map prn).map (·.data.toList) with
    | nil =>
     have := congrArg List.length hq
     rw [List.length_map, List.length_map, List.length_take, List.length_nil] at this
     have h9 : min j L.length = j := Nat.min_eq_left (by omega)
     omega
    | cons x rs => exact ⟨x, rs, rfl⟩
   rw [hx, List.cons_append, Lib.join_cons, Lib.join_cons]
   unfold Lib.joinTail
   rw [List.map_append, List.flatten_append]
   simp [List.append_assoc, prn]
  ·have : j = 0 := by omega
   subst this
   rw [if_neg (by omega)]
   show Lib.join [(prn L[0]).data.toList] [59] = [] ++ _
   rw [Lib.join_one]; rfl
theorem pat_all {L : List S62} (h : Fine L) : ∀ (d j k : Nat), L.length - j = d → j ≤ L.length → d < k → pattern_Print.l0 k ((L.take j).map prn) L (L.length : Int) j = some (txt L L.length)
 | 0, j, k, hd, hj, hk => by
  obtain ⟨k, rfl⟩ : ∃ k', k = k' + 1 := ⟨k - 1, by omega⟩
  obtain rfl : j = L.length := by omega
  have hn := h.n
  have ht := txt_size h L.length (Nat.le_refl _)
  have hj := join_txt L L.length (Nat.le_refl _)
  have hlen : (txt L L.length).data.toList.length = (txt L L.length).size := rfl
  rw [pattern_Print.l0, if_neg (by omega)]
  have hJ : strings_Join.f ((L.take L.length).map prn) (⟨#[59]⟩ : ByteArray) = some (txt L L.length) := by
   unfold strings_Join.f
   have e59 : (⟨#[59]⟩ : ByteArray).data.toList = [59] := rfl
   have hc : ((L.take L.length).map prn).length ≤ 140737488355328 ∧ (txt L L.length).data.toList.length ≤ 140737488355328 := ⟨by rw [List.length_map, List.length_take]; omega, by rw [hlen]; omega⟩
   rw [e59, hj, if_pos hc]
  rw [bs_ hJ]
 | d + 1, j, k, hd, hj, hk => by
  obtain ⟨k, rfl⟩ : ∃ k', k = k' + 1 := ⟨k - 1, by omega⟩
  have hlt : j < L.length := by omega
  have hmem := List.getElem_mem hlt
  have hn := h.n
  have hi := h.it _ hmem
  have hc := h.sc _ hmem
  have e1 : ((j : Int) + 1) = ((j + 1 : Nat) : Int) := rfl
  have hp : pattern_Section_print.f (L[j]).f0 (L[j]).f1 (L[j]).f2 = some (prn L[j]) := by
   unfold pattern_Section_print.f prn
   have hall : (L[j]).f0.all (fun x => decide (x.f1.size ≤ 1000)) = true := List.all_eq_true.2 (fun x hx => decide_eq_true (by have := (sign_same (h.ok _ hmem x hx)).2; omega))
   rw [if_pos ⟨⟨show (L[j]).f0.length ≤ 1000000 by omega, hall⟩, hc.1, show (L[j]).f2 ≤ 1000 by omega⟩]
  have hacc : (L.take j).map prn ++ [prn L[j]] = (L.take (j + 1)).map prn := by rw [List.take_succ_eq_append_getElem hlt, List.map_append]; rfl
  rw [pattern_Print.l0, if_pos (by omega), if_pos (by omega), if_pos (by omega), rds_get hlt, bs_ hp, if_pos (by rw [List.length_map, List.length_take]; omega), hacc, w64a (n := (j : Int) + 1) (by omega), e1]
  exact pat_all h d (j + 1) k (by omega) (by omega) (by omega)
theorem fine_of {L : List S62} (hn : L.length ≤ 4) (hs : sl L ≤ 100) (hw : wrongOf L < 0) : Fine L := by
 have hwr : ∀ i, i < L.length → wrongAt L i = false := fun i hi => by
  unfold wrongOf at hw
  rcases h : (List.range L.length).find? (wrongAt L) with _ | p
  ·have := List.find?_eq_none.1 h i (List.mem_range.2 hi)
   simpa using this
  ·rw [h] at hw
   have hw : (p : Int) < 0 := hw
   omega
 have hsh : ∀ s ∈ L, ¬ shapeOf s.f0 s.f1 s.f2 = 0 := fun s hsm h0 => by
  obtain ⟨i, hi, rfl⟩ := List.mem_iff_getElem.1 hsm
  have := hwr i hi
  unfold wrongAt wrongIf at this
  rw [rds_get hi, if_pos h0] at this
  cases this
 have hok : ∀ s ∈ L, s.f0.all okItem = true ∧ 0 ≤ s.f2 ∧ s.f2 ≤ 9 := fun s hsm => by
  have h := hsh s hsm
  unfold shapeOf at h
  by_cases ha : s.f0.all okItem = true
  ·rw [if_pos ha] at h
   refine ⟨ha, ?_⟩
   by_cases h2 : shpAll s.f0 = 2
   ·rw [if_pos h2] at h
    by_cases h3 : 0 ≤ s.f2 ∧ s.f2 ≤ 9 ∧ (0 < digs (s.f0.take (wEnd s.f0)) ∨ s.f2 = 0) ∧ (s.f1 = false ∨ 0 ≤ pairOf s.f0)
    ·exact ⟨h3.1, h3.2.1⟩
    ·rw [if_neg h3] at h; exact absurd rfl h
   ·rw [if_neg h2] at h
    by_cases h3 : s.f1 = false ∧ s.f2 = 0
    ·rw [h3.2]; exact ⟨Int.le_refl _, by decide⟩
    ·rw [if_neg h3] at h; exact absurd rfl h
  ·rw [if_neg ha] at h; exact absurd rfl h
 have hle : ∀ (M : List S62) (s : S62), s ∈ M → s.f0.length ≤ sl M := by
  intro M
  induction M with
  | nil => intro s h; cases h
  | cons x M ih =>
   intro s h
   have e : sl (x :: M) = x.f0.length + sl M := by unfold sl; rw [List.map_cons, List.sum_cons]
   rw [e]
   rcases List.mem_cons.1 h with rfl | h
   ·omega
   ·have := ih s h; omega
 exact ⟨hn, fun s hsm => by have := hle L s hsm; omega, fun s hsm x hx => List.all_eq_true.1 (hok s hsm).1 x hx, fun s hsm => (hok s hsm).2⟩
theorem print_same (L : List S62) (hS : ∀ s ∈ L, s.f0.length ≤ 300) : ∃ t k, pattern_Print.f k L = some t ∧ tabardref13_Print.f k (L.map scv) = some t := by
 obtain ⟨r, h1, h2, h3⟩ := right_same L 300 700 (by omega) hS (by omega)
 have up1 : ∀ n, pattern_Right.f (700 + n) L = some r := fun n => by
  induction n with
  | zero => exact h1
  | succ n ih => exact pattern_Right.mono _ _ r ih
 have up2 : ∀ n, tabardref13_Right.f (700 + n) (L.map scv) = some r := fun n => by
  induction n with
  | zero => exact h2
  | succ n ih => exact tabardref13_Right.mono _ _ r ih
 cases r with
 | false =>
  refine ⟨⟨#[]⟩, 700, ?_, ?_⟩
  ·unfold pattern_Print.f; rw [bs_ h1, if_neg (by simp)]
  ·unfold tabardref13_Print.f; rw [bs_ h2, if_neg (by simp)]
 | true =>
  obtain ⟨hn, hs, hw⟩ := h3 rfl
  have hf := fine_of hn hs hw
  obtain ⟨k, hk⟩ := ref_all hf L.length 0 (by omega) (by omega)
  have up3 : ∀ n, tabardref13_Print.l0 (k + n) (L.map scv) (txt L 0) 0 = some (txt L L.length) := fun n => by
   induction n with
   | zero => exact hk
   | succ n ih => exact (tabardref13_Print.mono_l _).1 _ _ _ _ ih
  refine ⟨txt L L.length, 700 + k, ?_, ?_⟩
  ·unfold pattern_Print.f
   rw [bs_ (up1 k), if_pos rfl]
   exact pat_all hf L.length 0 _ (by omega) (by omega) (by omega)
  ·unfold tabardref13_Print.f
   rw [bs_ (up2 k), if_pos rfl, Nat.add_comm]
   exact up3 700
end Go.Proofs.YtmbhjogohfcjgaaDoor.P
namespace Go.Proofs.YtmbhjogohfcjgaaDoor.P
open Go.RowKit Go.Proofs.YtmbhjogohfcjgaaDoorW.PrintWords Go.Proofs.YtmbhjogohfcjgaaDoorW.PrintLast Go.Proofs.YtmbhjogohfcjgaaDoorW.PrintMore
attribute [local go_sem] max2_int min2_int max_two min_two max_three min_three max_four min_four   -- for this text's walks alone
set_option linter.unusedVariables false
set_option linter.unusedSimpArgs false
def tabardlaw13_PatternPrints.j0 : Nat → Bool → Bool → List (S62) → Option (Bool)
 | 0, _, _, _ => none
 | k + 1, x3, x13, x264000 => if x13 = true then (some x3) else ((pattern_Print.f k x264000).bind fun t266 => ((tabardlaw13_sections.f k x264000).bind fun t267 => ((tabardref13_Print.f k t267).bind fun t270 => (some (t266.toList == t270.toList)))))
def tabardlaw13_PatternPrints.f (k : Nat) (l0_0 : List (S62)) : Option (Bool) := (tabardlaw13_shown.f).bind fun t264 => ((tabardlaw13_small.f k l0_0).bind fun t265 => (if t264 = true then (tabardlaw13_PatternPrints.j0 k t264 (!t265) l0_0) else (tabardlaw13_PatternPrints.j0 k t264 true l0_0)))
theorem tabardlaw13_PatternPrints.mono_l : ∀ k, (∀ y0 y1 y2, LeO (tabardlaw13_PatternPrints.j0 k y0 y1 y2) (tabardlaw13_PatternPrints.j0 (k + 1) y0 y1 y2))
 | 0 => fun _ _ _ r h => by simp [tabardlaw13_PatternPrints.j0] at h
 | k + 1 => by
  have ih0 := tabardlaw13_PatternPrints.mono_l k
  ·intro y0 y1 y2
   unfold tabardlaw13_PatternPrints.j0
   repeat' first
   | (with_reducible exact ih0 _ _ _)
   | (with_reducible exact pattern_Print.mono _ _)
   | (with_reducible exact tabardlaw13_sections.mono _ _)
   | (with_reducible exact tabardlaw13_small.mono _ _)
   | (with_reducible exact tabardref13_Print.mono _ _)
   | (with_reducible exact LeO.refl _)
   | (with_reducible exact LeO.none _)
   | (with_reducible refine LeO.ite ?_ ?_)
   | (with_reducible refine LeO.bind ?_ (fun _ => ?_))
   | exact ih0 _ _ _
   | exact pattern_Print.mono _ _
   | exact tabardlaw13_sections.mono _ _
   | exact tabardlaw13_small.mono _ _
   | exact tabardref13_Print.mono _ _
   | exact LeO.none _
   | refine LeO.ite ?_ ?_
   | refine LeO.bind ?_ (fun _ => ?_)
theorem tabardlaw13_PatternPrints.mono : ∀ a0 k, LeO (tabardlaw13_PatternPrints.f k a0) (tabardlaw13_PatternPrints.f (k + 1) a0) := by
 intro a0 k
 have ih0 := tabardlaw13_PatternPrints.mono_l k
 unfold tabardlaw13_PatternPrints.f
 repeat' first
   | (with_reducible exact ih0 _ _ _)
   | (with_reducible exact pattern_Print.mono _ _)
   | (with_reducible exact tabardlaw13_sections.mono _ _)
   | (with_reducible exact tabardlaw13_small.mono _ _)
   | (with_reducible exact tabardref13_Print.mono _ _)
   | (with_reducible exact LeO.refl _)
   | (with_reducible exact LeO.none _)
   | (with_reducible refine LeO.ite ?_ ?_)
   | (with_reducible refine LeO.bind ?_ (fun _ => ?_))
   | exact ih0 _ _ _
   | exact pattern_Print.mono _ _
   | exact tabardlaw13_sections.mono _ _
   | exact tabardlaw13_small.mono _ _
   | exact tabardref13_Print.mono _ _
   | exact LeO.none _
   | refine LeO.ite ?_ ?_
   | refine LeO.bind ?_ (fun _ => ?_)
set_option maxHeartbeats 8000000 in
set_option maxRecDepth 100000 in
theorem tabardlaw13_PatternPrints.calls (k : Nat) (A0_0 : Option Addr) (c0_0 : Nat) (l0_0 : List (S62)) (r : Bool) (w : World) (hGL : GL w) (hr0_0 : Kd.C k62 w A0_0 l0_0.length l0_0) (hc0_0 : l0_0.length ≤ c0_0) (h : tabardlaw13_PatternPrints.f k l0_0 = some r) :
  Calls Tryd.prog 8 #[.agg #[.slice A0_0 l0_0.length c0_0]] w fun e w' => e = .returned (.bool r) ∧ Below w.heap.size w w' := by
 have hu55 := Tryd.underlying55
 have HGL := Aside0.mk hGL
 clear hGL
 have HR0_0 := Aside0.mk hr0_0
 have HC0_0 := Aside0.mk hc0_0
 clear hr0_0 hc0_0
 have HB := Aside0.mk (Below.refl w.heap.size w)
 have H : ((tabardlaw13_shown.f).bind fun t264 => ((tabardlaw13_small.f k l0_0).bind fun t265 => (if t264 = true then (tabardlaw13_PatternPrints.j0 k t264 (!t265) l0_0) else (tabardlaw13_PatternPrints.j0 k t264 true l0_0)))) = some r := h
 clear h
 replace H := Option.bind_eq_some_iff.mp H
 obtain ⟨t264, A20, H⟩ := H
 replace H : ((tabardlaw13_small.f k l0_0).bind fun t265 => (if t264 = true then (tabardlaw13_PatternPrints.j0 k t264 (!t265) l0_0) else (tabardlaw13_PatternPrints.j0 k t264 true l0_0))) = some r := H
 have A2 := Aside0.mk A20
 clear A20
 replace H := Option.bind_eq_some_iff.mp H
 obtain ⟨t265, A30, H⟩ := H
 replace H : (if t264 = true then (tabardlaw13_PatternPrints.j0 k t264 (!t265) l0_0) else (tabardlaw13_PatternPrints.j0 k t264 true l0_0)) = some r := H
 have A3 := Aside0.mk A30
 clear A30
 have HC4 := Aside0.mk H
 clear H
 go_enter Tryd.func8, Tryd.ntmps8
 go_upto_region 3 with (first | ((with_reducible refine gate_dst (N := 1) rfl ?_); refine box_event ?hg (N := 1) ?hd (cs := #[.slice A0_0 l0_0.length c0_0]) (t := 55) ?hr ?_; (case hd => rfl); (case hg => rfl); (case hr => exact Z18); intro gb263 hg w5 hbox hb; have n0_ := Aside0.mk (below_step Z2 hb); have n1_ := Aside0.mk (hbox); have n2_ := Aside0.mk ((by rw [hg]; exact (below_size Z2) : w.heap.size ≤ gb263)); have n3_ := Aside0.mk ((by rw [hg]; exact (below_size Z2) : w.heap.size ≤ gb263)); clear HB; have HB := n0_; have BK263 := n1_; have GW263 := n2_; have GE263 := n3_; clear n0_ n1_ n2_ n3_; clear hb hbox hg) | ((with_reducible refine gate_callee (f := 28) rfl ?_); refine goesL_ (some 5) rfl rfl Tryd.func28 (by kernel_rfl) rfl #[] rfl Z3 ?_; (with_reducible refine (tabardlaw13_shown.calls  t264 _ ?side1 A2.out).mono ?_); (case side1 => exact GL.below HGL.out Z31); rintro e w6 ⟨rfl, hb⟩; refine ⟨_, rfl, ?_⟩; have n0_ := Aside0.mk (blk_below (g := gb263) (o := .cells #[.slice A0_0 l0_0.length c0_0] 55 (0, 0)) Z46 hb); have n1_ := Aside0.mk (below_step Z31 hb); clear BK263; clear HB; have BK263 := n0_; have HB := n1_; clear n0_ n1_; (try clear hb); (try clear hb2); (try clear hk); (try clear hi); have hcz7_0 : w6.cell? ⟨gb263, 0, none⟩ = some (.slice A0_0 l0_0.length c0_0) := (blk_cell BK263.out 0).trans rfl; have hfz7_0 := blk_frozen BK263.out 0) | ((with_reducible refine gate_callee (f := 29) rfl ?_); refine goesL_ (some 7) rfl rfl Tryd.func29 (by kernel_rfl) rfl #[.agg #[.slice A0_0 l0_0.length c0_0]] rfl Z3 ?_; (with_reducible refine (tabardlaw13_small.calls k _ _ l0_0 t265 _ ?side1 ?side2 A3.out).mono ?_); (case side1 => exact Z7); (case side2 => exact Z39); rintro e w8 ⟨rfl, hb⟩; refine ⟨_, rfl, ?_⟩; have n0_ := Aside0.mk (blk_below (g := gb263) (o := .cells #[.slice A0_0 l0_0.length c0_0] 55 (0, 0)) Z46 hb); have n1_ := Aside0.mk (below_step Z31 hb); clear BK263; clear HB; have BK263 := n0_; have HB := n1_; clear n0_ n1_; (try clear hb); (try clear hb2); (try clear hk); (try clear hi)))
 (try simp only [Act.put, List.setIfInBounds_toArray, List.set_cons_zero, List.set_cons_succ])
 go_cut [13] (fun v13 wc => ∃ (kq : Nat) (x13_3 : Bool), v13 = .bool x13_3 ∧ Aside0 (tabardlaw13_PatternPrints.j0 kq t264 x13_3 l0_0 = some r) ∧ Aside0 (kq ≤ k) ∧ Aside0 (wc.heap[gb263]? = some (.cells #[(.slice A0_0 l0_0.length c0_0)] 55 (0, 0))) ∧ Aside0 (Below w.heap.size w wc))
 case first =>
  have H := HC4.out
  clear HC4
  by_cases c9 : t264 = true
  ·subst c9
   have H1 : (tabardlaw13_PatternPrints.j0 k true (!t265) l0_0) = some r := by rw [if_pos rfl] at H; exact H
   clear H
   have H := H1
   clear H1
   have H' := Aside0.mk H
   clear H
   go_wp2
   go_meet
   case rel => exact ⟨_, (!t265), Z5, H', ⟨by first | omega | exact Nat.le_refl _⟩, ⟨by (with_reducible repeat (first | refine blk_drewN ?_ _ | refine blk_drew ?_ | refine blk_alloc ?_ _)); exact BK263.out⟩, ⟨by repeat (first | (with_reducible first | exact HB.out | apply below_alloc | apply pw_below_drewN | apply below_drew1 | refine below_set ?_ GE263.out) | exact HB.out)⟩⟩
  ·replace c9 := Bool.eq_false_iff.mpr c9
   subst c9
   have H1 : (tabardlaw13_PatternPrints.j0 k false true l0_0) = some r := by rw [if_neg (show ¬ (false = true) by decide)] at H; exact H
   clear H
   have H := H1
   clear H1
   have H' := Aside0.mk H
   clear H
   go_wp2
   go_meet
   case rel => exact ⟨_, (true), Z5, H', ⟨by first | omega | exact Nat.le_refl _⟩, ⟨by (with_reducible repeat (first | refine blk_drewN ?_ _ | refine blk_drew ?_ | refine blk_alloc ?_ _)); exact BK263.out⟩, ⟨by repeat (first | (with_reducible first | exact HB.out | apply below_alloc | apply pw_below_drewN | apply below_drew1 | refine below_set ?_ GE263.out) | exact HB.out)⟩⟩
 case rest =>
  clear HC4
  try clear c2
  try clear p2
  try clear c8
  try clear c9
  try clear hcz7_0
  try clear hfz7_0
  obtain ⟨kq, x13_3, rfl, HA, HJ3, BK263, HB⟩ := hcut
  cases kq with
  | zero => exact absurd HA.out (by simp [tabardlaw13_PatternPrints.j0])
  | succ kj3 =>
   have H := HA.out
   clear HA
   simp only [tabardlaw13_PatternPrints.j0] at H
   by_cases c10 : x13_3 = true
   ·subst c10
    have H1 : (some t264) = some r := by rw [if_pos rfl] at H; exact H
    clear H
    have H := H1
    clear H1
    obtain rfl := Option.some.inj H
    go_wp2
    go_ret
    exact Z57
   ·replace c10 := Bool.eq_false_iff.mpr c10
    subst c10
    have H1 : ((pattern_Print.f kj3 l0_0).bind fun t266 => ((tabardlaw13_sections.f kj3 l0_0).bind fun t267 => ((tabardref13_Print.f kj3 t267).bind fun t270 => (some (t266.toList == t270.toList))))) = some r := by rw [if_neg (show ¬ (false = true) by decide)] at H; exact H
    clear H
    have H := H1
    clear H1
    replace H := Option.bind_eq_some_iff.mp H
    obtain ⟨t266, A110, H⟩ := H
    replace H : ((tabardlaw13_sections.f kj3 l0_0).bind fun t267 => ((tabardref13_Print.f kj3 t267).bind fun t270 => (some (t266.toList == t270.toList)))) = some r := H
    have A11 := Aside0.mk A110
    clear A110
    replace H := Option.bind_eq_some_iff.mp H
    obtain ⟨t267, A120, H⟩ := H
    replace H : ((tabardref13_Print.f kj3 t267).bind fun t270 => (some (t266.toList == t270.toList))) = some r := H
    have A12 := Aside0.mk A120
    clear A120
    replace H := Option.bind_eq_some_iff.mp H
    obtain ⟨t270, A130, H⟩ := H
    replace H : (some (t266.toList == t270.toList)) = some r := H
    have A13 := Aside0.mk A130
    clear A130
    obtain rfl := Option.some.inj H
    try go_wp2
    have n0_ := Aside0.mk (blk_drew BK263.out)
    have n1_ := Aside0.mk (below_drew1 HB.out)
    clear BK263
    clear HB
    have BK263 := n0_
    have HB := n1_
    clear n0_ n1_
    refine start_ (n := 7) (S := fun w' => w'.cell? ⟨gb263, 0, none⟩ = some (.slice A0_0 l0_0.length c0_0)) (ds := []) #[false, false, false, false, false, false, false] (by kernel_rfl) rfl rfl ((blk_cell BK263.out 0).trans rfl) (fun hHeld => ?_)
    generalize wc.drew = w14 at BK263 HB hHeld ⊢
    refine take_ (i := 0) (N := some 15) (v := ?_) (a' := ?_) #[true, false, false, false, false, false, false] rfl rfl (by kernel_rfl) (fun _ _ _ h => h) (Or.inl ⟨by rfl, ?_⟩) hHeld ?_ ?_
    rotate_left
    ·intro w' s0
     go_simp
     with_reducible rfl
    rotate_left
    ·exact Z21
    refine take_ (i := 2) (N := some 17) (v := ?_) (a' := ?_) #[true, false, true, false, false, false, false] rfl rfl (by kernel_rfl) (fun _ _ _ h => h) (Or.inl ⟨by rfl, ?_⟩) hHeld ?_ ?_
    rotate_left
    ·intro w' s0
     go_simp
     with_reducible rfl
    rotate_left
    ·exact Z21
    refine one_ (i := 1) (N := some 16) #[true, true, true, false, false, false, false] rfl rfl (by kernel_rfl) (by decide) (fun K hK => ?_)
    refine goes_ Tryd.func35 (by kernel_rfl) rfl #[.agg #[.slice A0_0 l0_0.length c0_0]] (by rfl) rfl rfl Z3 ?_
    with_reducible refine (pattern_Print.calls kj3 _ _ l0_0 t266 _ ?side3 ?side1 ?side2 A11.out).mono ?_
    (case side1 => exact Z7)
    (case side2 => exact Z39)
    (case side3 => exact GL.below HGL.out Z31)
    rintro e w15 ⟨rfl, hb⟩
    refine ⟨_, rfl, ?_⟩
    have n0_ := Aside0.mk (blk_below (g := gb263) (o := .cells #[.slice A0_0 l0_0.length c0_0] 55 (0, 0)) Z46 hb)
    have n1_ := Aside0.mk (below_step Z31 hb)
    clear BK263
    clear HB
    have BK263 := n0_
    have HB := n1_
    clear n0_ n1_
    (try clear hb)
    (try clear hb2)
    (try clear hk)
    (try clear hi)
    refine hK.out _ _ ((blk_cell BK263.out 0).trans rfl) (fun hHeld => ?_)
    clear hK K
    refine norm_ (a' := ?_) ?_ ?_
    rotate_left
    ·show Act.put _ (some 16) _ = _
     simp only [Act.put, List.setIfInBounds_toArray, List.set_cons_zero, List.set_cons_succ, i64_w, i32_w]
     rfl
    refine one_ (i := 3) (N := some 18) #[true, true, true, true, false, false, false] rfl rfl (by kernel_rfl) (by decide) (fun K hK => ?_)
    refine goes_ Tryd.func30 (by kernel_rfl) rfl #[.agg #[.slice A0_0 l0_0.length c0_0]] (by rfl) rfl rfl Z3 ?_
    with_reducible refine (tabardlaw13_sections.calls kj3 _ _ l0_0 t267 _ ?side1 ?side2 A12.out).mono ?_
    (case side1 => exact Z7)
    (case side2 => exact Z39)
    rintro e w16 ⟨v268, rfl, ho0, hb⟩
    refine ⟨_, rfl, ?_⟩
    have n0_ := Aside0.mk (Kd.S_lower ho0 (below_size Z31))
    have n1_ := Aside0.mk (blk_below (g := gb263) (o := .cells #[.slice A0_0 l0_0.length c0_0] 55 (0, 0)) Z46 hb)
    have n2_ := Aside0.mk (below_step Z31 hb)
    clear BK263
    clear HB
    have HO269 := n0_
    have BK263 := n1_
    have HB := n2_
    clear n0_ n1_ n2_
    (try clear hb)
    (try clear hb2)
    (try clear hk)
    (try clear hi)
    (try clear ho0)
    obtain ⟨Ao17, co17, eo17⟩ := Kd.S_slice HO269.out
    (first | subst eo17 | (injection eo17 with f1_ f2_ f3_; have f4_ := f1_.symm; have f5_ := f3_.symm; clear f1_ f2_ f3_; subst f4_; subst f5_))
    refine hK.out _ _ ((blk_cell BK263.out 0).trans rfl) (fun hHeld => ?_)
    clear hK K
    refine norm_ (a' := ?_) ?_ ?_
    rotate_left
    ·show Act.put _ (some 18) _ = _
     simp only [Act.put, List.setIfInBounds_toArray, List.set_cons_zero, List.set_cons_succ, i64_w, i32_w]
     rfl
    refine one_ (i := 4) (N := some 19) #[true, true, true, true, true, false, false] rfl rfl (by kernel_rfl) (by decide) (fun K hK => ?_)
    refine goes_ Tryd.func36 (by kernel_rfl) rfl #[.slice Ao17 t267.length co17] (by rfl) rfl rfl Z3 ?_
    with_reducible refine (tabardref13_Print.calls kj3 _ _ t267 t270 _ ?side1 ?side2 A13.out).mono ?_
    (case side1 => repeat (first | exact (Kd.S_reads' HO269.out).2.2 | (with_reducible refine Kd.C_alloc ?_ _) | (with_reducible refine Kd.C_drewN ?_ _) | (with_reducible refine Kd.C_drew ?_)))
    (case side2 => exact (Kd.S_reads' HO269.out).2.1)
    rintro e w18 ⟨rfl, hb⟩
    refine ⟨_, rfl, ?_⟩
    have n0_ := Aside0.mk (Kd.S_below (by (with_reducible repeat (first | apply Kd.S_alloc | apply Kd.S_drewN | apply Kd.S_drew)); exact HO269.out) hb)
    have n1_ := Aside0.mk (blk_below (g := gb263) (o := .cells #[.slice A0_0 l0_0.length c0_0] 55 (0, 0)) Z46 hb)
    have n2_ := Aside0.mk (below_step Z31 hb)
    clear HO269
    clear BK263
    clear HB
    have HO269 := n0_
    have BK263 := n1_
    have HB := n2_
    clear n0_ n1_ n2_
    (try clear hb)
    (try clear hb2)
    (try clear hk)
    (try clear hi)
    refine hK.out _ _ ((blk_cell BK263.out 0).trans rfl) (fun hHeld => ?_)
    clear hK K
    refine norm_ (a' := ?_) ?_ ?_
    rotate_left
    ·show Act.put _ (some 19) _ = _
     simp only [Act.put, List.setIfInBounds_toArray, List.set_cons_zero, List.set_cons_succ, i64_w, i32_w]
     rfl
    refine pure_ (i := 5) (N := some 20) (v := ?_) (a' := ?_) #[true, true, true, true, true, true, false] rfl rfl (by kernel_rfl) (fun _ _ _ h => h) (Or.inl ⟨by rfl, ?_⟩) ?_ ?_
    rotate_left
    ·exact Z4
    rotate_left
    ·exact Z21
    refine pure_ (i := 6) (N := some 2) (v := ?_) (a' := ?_) #[true, true, true, true, true, true, true] rfl rfl (by kernel_rfl) (fun _ _ _ h => h) (Or.inl ⟨by rfl, ?_⟩) ?_ ?_
    rotate_left
    ·exact Z4
    rotate_left
    ·exact Z21
    refine done_ (by kernel_rfl) ?_
    try go_wp2
    go_ret
    exact Z57
end Go.Proofs.YtmbhjogohfcjgaaDoor.P
namespace Go.Proofs.YtmbhjogohfcjgaaDoor.P
open Go.RowKit Go.Proofs.YtmbhjogohfcjgaaDoorW.PrintWords Go.Proofs.YtmbhjogohfcjgaaDoorW.PrintMore
set_option linter.unusedVariables false
set_option linter.unusedSimpArgs false
theorem prints_true (L : List S62) : ∃ k, tabardlaw13_PatternPrints.f k L = some true := by
 obtain ⟨b, hb, hB⟩ := small_f L
 have up : ∀ n, tabardlaw13_small.f (6000 + n) L = some b := fun n => by
  induction n with
  | zero => exact hb
  | succ n ih => exact tabardlaw13_small.mono _ _ b ih
 cases b with
 | false =>
  refine ⟨6000, ?_⟩
  unfold tabardlaw13_PatternPrints.f
  rw [bs_ (show tabardlaw13_shown.f = some true from rfl), bs_ hb, if_pos rfl, tabardlaw13_PatternPrints.j0]
  rfl
 | true =>
  obtain ⟨hn, hS⟩ := hB rfl
  obtain ⟨t, k, h1, h2⟩ := print_same L hS
  have up1 : ∀ n, pattern_Print.f (k + n) L = some t := fun n => by
   induction n with
   | zero => exact h1
   | succ n ih => exact pattern_Print.mono _ _ t ih
  have up2 : ∀ n, tabardref13_Print.f (k + n) (L.map scv) = some t := fun n => by
   induction n with
   | zero => exact h2
   | succ n ih => exact tabardref13_Print.mono _ _ t ih
  refine ⟨6000 + (k + 1), ?_⟩
  have e : 6000 + (k + 1) = (k + 6000) + 1 := by omega
  have hs := sections_f L 300 (k + 6000) (by omega) hS (by omega) (by omega)
  unfold tabardlaw13_PatternPrints.f
  rw [bs_ (show tabardlaw13_shown.f = some true from rfl), bs_ (up (k + 1)), if_pos rfl, e, tabardlaw13_PatternPrints.j0, if_neg (show ¬ (!true) = true by simp), bs_ (up1 6000), bs_ hs, bs_ (up2 6000)]
  simp
end Go.Proofs.YtmbhjogohfcjgaaDoor.P
