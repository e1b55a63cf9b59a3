/- The walks of (Section).shape's two great arms: fractions, numbers. -/
import Derived.Test.YtmbhjogohfcjgaaDoorPs4
namespace Go.Proofs.YtmbhjogohfcjgaaDoor.P
open Go.RowKit Go.Proofs.YtmbhjogohfcjgaaDoorW.PrintWords Go.Proofs.YtmbhjogohfcjgaaDoorW.PrintLast Go.Proofs.YtmbhjogohfcjgaaDoorW.PrintMore
set_option linter.unusedVariables false
set_option linter.unusedSimpArgs false
theorem wrap64_id {i : Int} (h0 : -9223372036854775808 ≤ i) (h1 : i ≤ 9223372036854775807) : wrap64 i = i := by unfold wrap64; omega
theorem rd_at (l : List S88) (j : Nat) (h : j < l.length) : rd_T88 l (j : Int) = l[j] := by
 rw [rd_T88, Int.toNat_natCast, List.getD_eq_getElem?_getD, List.getElem?_eq_getElem h]; rfl
theorem cntOf_cons (x : S88) (l : List S88) (k : Int) : cntOf (x :: l) k = cntOf l k + if x.f0 = k then 1 else 0 := by
 unfold cntOf
 rw [List.countP_cons]
 by_cases h : x.f0 = k
 ·simp [h]
 ·simp [h]
theorem digits_loop (l : List S88) (hl : l.length ≤ 1000000) : ∀ (d j : Nat) (a : Int), j + d = l.length → 0 ≤ a → a ≤ j → pattern_digits.l0 (d + 1) a l (l.length : Int) (j : Int) = some (a + cntOf (l.drop j) 2)
 | 0, j, a, hd, h0, h1 => by
  simp only [pattern_digits.l0]
  rw [if_neg (by omega), List.drop_eq_nil_of_le (by omega)]
  simp [cntOf]
 | d + 1, j, a, hd, h0, h1 => by
  have hj : j < l.length := by omega
  rw [pattern_digits.l0, if_pos (by omega), if_pos (by omega), if_pos (by omega), rd_at l j hj, wrap64_id (by omega) (by omega), wrap64_id (by omega) (by omega), List.drop_eq_getElem_cons hj, cntOf_cons]
  have e : (j : Int) + 1 = ((j + 1 : Nat) : Int) := by omega
  rw [e]
  by_cases h : l[j].f0 = 2
  ·rw [if_pos h, if_pos h, digits_loop l hl d (j + 1) (a + 1) (by omega) (by omega) (by omega)]
   congr 1; omega
  ·rw [if_neg h, if_neg h, digits_loop l hl d (j + 1) a (by omega) (by omega) (by omega)]
   simp
def digs (l : List S88) : Int := cntOf l 2
theorem digits_f (l : List S88) (hl : l.length ≤ 1000000) : pattern_digits.f (l.length + 1) l = some (digs l) := by
 unfold pattern_digits.f
 have := digits_loop l hl l.length 0 0 (by omega) (by omega) (by omega)
 simpa [digs] using this
theorem digs_bound (l : List S88) : 0 ≤ digs l ∧ digs l ≤ l.length := cntOf_le l 2
theorem digits_any {w : World} {A : Option Addr} {n c : Nat} (l : List S88) (hl : l.length ≤ 1000000) (hn : l.length = n) (hr : Kd.C k88 w A l.length l) (hc : n ≤ c) :
  ∀ W, Below w.heap.size w W → Calls Tryd.prog 53 #[.slice A n c] W fun e w' => e = .returned (.int .i64 (digs l)) ∧ Below W.heap.size W w' := by
 subst hn
 exact fun W hW => pattern_digits.calls _ A c l _ W (Kd.C_below hr hW) hc (digits_f l hl)
def fracOf (l : List S88) : Int :=
 if 0 < cutAt [6] l ∧ (rd_T88 l ((cutAt [6] l : Int) - 1)).f0 = 2 ∧ digs (l.take (cutAt [6] l)) ≤ 30 ∧ 1 ≤ digs (l.drop (cutAt [6] l)) ∧ digs (l.drop (cutAt [6] l)) ≤ 4 then 4 else 0
set_option maxRecDepth 100000 in
set_option maxHeartbeats 8000000 in
theorem shape_frac (A0 : Option Addr) (c0 : Nat) (l0 : List S88) (b : Bool) (sc n0 n1 n2 n3 n4 n5 n6 n7 n8 n9 : Int) (w : World) (hb : ShpB n2 n3 n4 n5 n6 n7 n8 n9) (hl : l0.length ≤ 1000000) (hr : Kd.C k88 w A0 l0.length l0) (hc : l0.length ≤ c0)
  (t1 : decide (0 < n7 + n8) = false) (t3 : (n7 == 1) = false) (t5 : (n7 == 0) = true) (t6 : decide (0 < n8) = false) (t4 : (n8 == 0) = true) (t8 : (n2 + n3 + n4 + n5 + n6 == 0) = false) (t9 : (n6 == 1) = true) (t10 : (n3 + n4 + n5 == 0) = true) :
  Calls Tryd.prog 52 #[.agg #[.slice A0 l0.length c0, .bool b, .int .i64 sc], .agg #[.int .i64 n0, .int .i64 n1, .int .i64 n2, .int .i64 n3, .int .i64 n4, .int .i64 n5, .int .i64 n6, .int .i64 n7, .int .i64 n8, .int .i64 n9]] w fun e w' => e = .returned (.int .i64 (fracOf l0)) ∧ Below w.heap.size w w' := by
 obtain ⟨⟨a2, b2⟩, ⟨a3, b3⟩, ⟨a4, b4⟩, ⟨a5, b5⟩, ⟨a6, b6⟩, ⟨a7, b7⟩, ⟨a8, b8⟩, ⟨a9, b9⟩⟩ := hb
 have hcl := cutAt_le [6] l0
 have HC := Aside0.mk hc
 have h3 : Below w.heap.size w (((w.alloc (.cells #[.slice A0 l0.length c0, .bool b, .int .i64 sc] 62 (0, 0))).alloc (.cells #[.int .i64 n0, .int .i64 n1, .int .i64 n2, .int .i64 n3, .int .i64 n4, .int .i64 n5, .int .i64 n6, .int .i64 n7, .int .i64 n8, .int .i64 n9] 90 (0, 0))).alloc (.cells #[.int .i64 6] 3 (0, 0))) := (((Below.refl _ _).alloc (Nat.le_refl _) _).alloc (by simp) _).alloc (by simp; omega) _
 have HX := Aside0.mk (cut_walk_n 1 A0 c0 l0 (some ⟨w.heap.size + 1 + 1, 0, none⟩) 1 [6] _ rfl (Kd.C_below hr h3) hc (ints_lit (t := 3) [6] (by decide) (heap3 w _ _ _)))
 have HB3 := Aside0.mk h3
 have HD1 := Aside0.mk (digits_any (w := w) (n := l0.length - cutAt [6] l0) (c := c0 - cutAt [6] l0) (l0.drop (cutAt [6] l0)) (by simp; omega) (by simp) (Kd.C_drop hr hcl hc) (by omega))
 have HD2 := Aside0.mk (digits_any (w := w) (n := cutAt [6] l0) (c := c0) (l0.take (cutAt [6] l0)) (by simp; omega) (by simp; omega) (Kd.C_take hr hcl) (by omega))
 rw [show (if c0 = cutAt [6] l0 then A0 else A0.map (·.add (cutAt [6] l0 * k88.sz))) = cutA A0 (cutAt [6] l0) c0 from rfl] at HD1
 have HR := Aside0.mk hr
 clear hr h3
 have hbd := digs_bound (l0.drop (cutAt [6] l0))
 have hbt := digs_bound (l0.take (cutAt [6] l0))
 obtain ⟨hbd1, hbd2⟩ := hbd
 obtain ⟨hbt1, hbt2⟩ := hbt
 rw [List.length_drop] at hbd2
 rw [List.length_take] at hbt2
 unfold fracOf
 generalize digs (l0.drop (cutAt [6] l0)) = x at *
 generalize digs (l0.take (cutAt [6] l0)) = y at *
 generalize cutAt [6] l0 = i at *
 by_cases h0 : 0 < i
 ·obtain ⟨ad, e, hx0, hx1⟩ := at_T88 HR.out ((i : Int) - 1) (by omega) (by omega)
  cases e
  rw [show ((i : Int) - 1).toNat = i - 1 by omega] at hx0 hx1
  have HX0 := Aside0.mk hx0
  have HX1 := Aside0.mk hx1
  clear hx0 hx1
  have h0b : decide (0 < i) = true := decide_eq_true h0
  have hi1 : (0 : Int) ≤ (i : Int) - 1 := by omega
  have hi2 : (i : Int) - 1 < (i : Int) := by omega
  by_cases k1 : (rd_T88 l0 ((i : Int) - 1)).f0 = 2
  ·have k1b : ((rd_T88 l0 ((i : Int) - 1)).f0 == 2) = true := beq_iff_eq.mpr k1
   by_cases k2 : y ≤ 30
   ·have k2b : decide (y ≤ 30) = true := decide_eq_true k2
    by_cases k3 : 1 ≤ x
    ·have k3b : decide (1 ≤ x) = true := decide_eq_true k3
     by_cases k4 : x ≤ 4
     ·have k4b : decide (x ≤ 4) = true := decide_eq_true k4
      rw [if_pos ⟨h0, k1, k2, k3, k4⟩]
      go_enter Tryd.func52, Tryd.ntmps52
      go_wp2_with (first | (go_at_call 82; (with_reducible refine HX.out.mono ?_); rintro e w2 ⟨rfl, hb2⟩; have HB2 := Aside0.mk (HB3.out.trans (hb2.mono HB3.out.size)); clear hb2) | (go_at_call 53; (with_reducible refine (HD1.out _ HB2.out).mono ?_); rintro e w4 ⟨rfl, hb4⟩; have HB4 := Aside0.mk (HB2.out.trans (hb4.mono HB2.out.size)); clear hb4; have hz0 := (HB4.out.cell (World.block_lt_of_cell? w _ HX0.out)).trans HX0.out; have hz1 := (HB4.out.cell (World.block_lt_of_cell? w _ HX1.out)).trans HX1.out) | (go_at_call 53; (with_reducible refine (HD2.out _ HB4.out).mono ?_); rintro e w5 ⟨rfl, hb5⟩; have HB5 := Aside0.mk (HB4.out.trans (hb5.mono HB4.out.size)); clear hb5))
      go_ret
      exact ⟨rfl, HB5.out⟩
     ·have k4b : decide (x ≤ 4) = false := decide_eq_false k4
      rw [if_neg (fun h => k4 h.2.2.2.2)]
      go_enter Tryd.func52, Tryd.ntmps52
      go_wp2_with (first | (go_at_call 82; (with_reducible refine HX.out.mono ?_); rintro e w2 ⟨rfl, hb2⟩; have HB2 := Aside0.mk (HB3.out.trans (hb2.mono HB3.out.size)); clear hb2) | (go_at_call 53; (with_reducible refine (HD1.out _ HB2.out).mono ?_); rintro e w4 ⟨rfl, hb4⟩; have HB4 := Aside0.mk (HB2.out.trans (hb4.mono HB2.out.size)); clear hb4; have hz0 := (HB4.out.cell (World.block_lt_of_cell? w _ HX0.out)).trans HX0.out; have hz1 := (HB4.out.cell (World.block_lt_of_cell? w _ HX1.out)).trans HX1.out) | (go_at_call 53; (with_reducible refine (HD2.out _ HB4.out).mono ?_); rintro e w5 ⟨rfl, hb5⟩; have HB5 := Aside0.mk (HB4.out.trans (hb5.mono HB4.out.size)); clear hb5))
      go_ret
      exact ⟨rfl, HB5.out⟩
    ·have k3b : decide (1 ≤ x) = false := decide_eq_false k3
     rw [if_neg (fun h => k3 h.2.2.2.1)]
     go_enter Tryd.func52, Tryd.ntmps52
     go_wp2_with (first | (go_at_call 82; (with_reducible refine HX.out.mono ?_); rintro e w2 ⟨rfl, hb2⟩; have HB2 := Aside0.mk (HB3.out.trans (hb2.mono HB3.out.size)); clear hb2) | (go_at_call 53; (with_reducible refine (HD1.out _ HB2.out).mono ?_); rintro e w4 ⟨rfl, hb4⟩; have HB4 := Aside0.mk (HB2.out.trans (hb4.mono HB2.out.size)); clear hb4; have hz0 := (HB4.out.cell (World.block_lt_of_cell? w _ HX0.out)).trans HX0.out; have hz1 := (HB4.out.cell (World.block_lt_of_cell? w _ HX1.out)).trans HX1.out) | (go_at_call 53; (with_reducible refine (HD2.out _ HB4.out).mono ?_); rintro e w5 ⟨rfl, hb5⟩; have HB5 := Aside0.mk (HB4.out.trans (hb5.mono HB4.out.size)); clear hb5))
     go_ret
     exact ⟨rfl, HB5.out⟩
   ·have k2b : decide (y ≤ 30) = false := decide_eq_false k2
    rw [if_neg (fun h => k2 h.2.2.1)]
    go_enter Tryd.func52, Tryd.ntmps52
    go_wp2_with (first | (go_at_call 82; (with_reducible refine HX.out.mono ?_); rintro e w2 ⟨rfl, hb2⟩; have HB2 := Aside0.mk (HB3.out.trans (hb2.mono HB3.out.size)); clear hb2) | (go_at_call 53; (with_reducible refine (HD1.out _ HB2.out).mono ?_); rintro e w4 ⟨rfl, hb4⟩; have HB4 := Aside0.mk (HB2.out.trans (hb4.mono HB2.out.size)); clear hb4; have hz0 := (HB4.out.cell (World.block_lt_of_cell? w _ HX0.out)).trans HX0.out; have hz1 := (HB4.out.cell (World.block_lt_of_cell? w _ HX1.out)).trans HX1.out) | (go_at_call 53; (with_reducible refine (HD2.out _ HB4.out).mono ?_); rintro e w5 ⟨rfl, hb5⟩; have HB5 := Aside0.mk (HB4.out.trans (hb5.mono HB4.out.size)); clear hb5))
    go_ret
    exact ⟨rfl, HB5.out⟩
  ·have k1b : ((rd_T88 l0 ((i : Int) - 1)).f0 == 2) = false := beq_eq_false_iff_ne.mpr k1
   rw [if_neg (fun h => k1 h.2.1)]
   go_enter Tryd.func52, Tryd.ntmps52
   go_wp2_with (first | (go_at_call 82; (with_reducible refine HX.out.mono ?_); rintro e w2 ⟨rfl, hb2⟩; have HB2 := Aside0.mk (HB3.out.trans (hb2.mono HB3.out.size)); clear hb2) | (go_at_call 53; (with_reducible refine (HD1.out _ HB2.out).mono ?_); rintro e w4 ⟨rfl, hb4⟩; have HB4 := Aside0.mk (HB2.out.trans (hb4.mono HB2.out.size)); clear hb4; have hz0 := (HB4.out.cell (World.block_lt_of_cell? w _ HX0.out)).trans HX0.out; have hz1 := (HB4.out.cell (World.block_lt_of_cell? w _ HX1.out)).trans HX1.out))
   go_ret
   exact ⟨rfl, HB4.out⟩
 ·rw [if_neg (fun h => h0 h.1)]
  have h0b : decide (0 < i) = false := decide_eq_false h0
  clear HD2
  go_enter Tryd.func52, Tryd.ntmps52
  go_wp2_with (first | (go_at_call 82; (with_reducible refine HX.out.mono ?_); rintro e w2 ⟨rfl, hb2⟩; have HB2 := Aside0.mk (HB3.out.trans (hb2.mono HB3.out.size)); clear hb2) | (go_at_call 53; (with_reducible refine (HD1.out _ HB2.out).mono ?_); rintro e w4 ⟨rfl, hb4⟩; have HB4 := Aside0.mk (HB2.out.trans (hb4.mono HB2.out.size)); clear hb4))
  go_ret
  exact ⟨rfl, HB4.out⟩
end Go.Proofs.YtmbhjogohfcjgaaDoor.P
