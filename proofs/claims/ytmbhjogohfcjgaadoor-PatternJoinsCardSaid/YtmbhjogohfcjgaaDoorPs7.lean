/- The walk of pattern.Shape. -/
import Derived.Test.YtmbhjogohfcjgaaDoorPs6
namespace Go.Proofs.YtmbhjogohfcjgaaDoor.P
open Go.RowKit Go.Proofs.YtmbhjogohfcjgaaDoorW.PrintWords Go.Proofs.YtmbhjogohfcjgaaDoorW.PrintLast Go.Proofs.YtmbhjogohfcjgaaDoorW.PrintMore
set_option linter.unusedVariables false
set_option linter.unusedSimpArgs false
theorem many_true (A0 : Option Addr) (c0 : Nat) (l0 : List S88) (b : Bool) (sc : Int) (w : World) (hGL : GL w) (hr : Kd.C k88 w A0 l0.length l0) (hc : l0.length ≤ c0) (h : l0.all okItem = true) :
  Calls Tryd.prog 51 #[.agg #[.slice A0 l0.length c0, .bool b, .int .i64 sc]] w fun e w' => e = .returned (.tuple #[.agg #[.int .i64 (cntOf l0 0), .int .i64 (cntOf l0 1), .int .i64 (cntOf l0 2), .int .i64 (cntOf l0 3), .int .i64 (cntOf l0 4), .int .i64 (cntOf l0 5), .int .i64 (cntOf l0 6), .int .i64 (cntOf l0 7), .int .i64 (cntOf l0 8), .int .i64 (cntOf l0 9)], .bool true]) ∧ Below w.heap.size w w' := by
 refine (many_walk A0 c0 l0 b sc w hGL hr hc).mono fun e w' ⟨c, he, hn, hb⟩ => ⟨?_, hb⟩
 have hn := hn h
 rw [he, h, ten, hn 0 (by decide), hn 1 (by decide), hn 2 (by decide), hn 3 (by decide), hn 4 (by decide), hn 5 (by decide), hn 6 (by decide), hn 7 (by decide), hn 8 (by decide), hn 9 (by decide)]
 rfl
theorem many_false (A0 : Option Addr) (c0 : Nat) (l0 : List S88) (b : Bool) (sc : Int) (w : World) (hGL : GL w) (hr : Kd.C k88 w A0 l0.length l0) (hc : l0.length ≤ c0) (h : l0.all okItem = false) :
  Calls Tryd.prog 51 #[.agg #[.slice A0 l0.length c0, .bool b, .int .i64 sc]] w fun e w' => ∃ c : Nat → Int, e = .returned (.tuple #[.agg #[.int .i64 (c 0), .int .i64 (c 1), .int .i64 (c 2), .int .i64 (c 3), .int .i64 (c 4), .int .i64 (c 5), .int .i64 (c 6), .int .i64 (c 7), .int .i64 (c 8), .int .i64 (c 9)], .bool false]) ∧ Below w.heap.size w w' :=
 (many_walk A0 c0 l0 b sc w hGL hr hc).mono fun e w' ⟨c, he, hn, hb⟩ => ⟨c, by rw [he, h, ten], hb⟩
def shpAll (l : List S88) : Int := shpOf l (cntOf l 2) (cntOf l 3) (cntOf l 4) (cntOf l 5) (cntOf l 6) (cntOf l 7) (cntOf l 8) (cntOf l 9)
def shapeOf (l : List S88) (b : Bool) (sc : Int) : Int :=
 if l.all okItem = true then
  if shpAll l = 2 then (if 0 ≤ sc ∧ sc ≤ 9 ∧ (0 < digs (l.take (wEnd l)) ∨ sc = 0) ∧ (b = false ∨ 0 ≤ pairOf l) then 2 else 0)
  else if b = false ∧ sc = 0 then shpAll l else 0
 else 0
def pattern_Shape.f (l0_0 : List (S88)) (a0_1 : Bool) (a0_2 : Int) : Option (Int) := if l0_0.length ≤ 1000000 then some (shapeOf l0_0 a0_1 a0_2) else none
theorem shp_b (l : List S88) (hl : l.length ≤ 1000000) : ShpB (cntOf l 2) (cntOf l 3) (cntOf l 4) (cntOf l 5) (cntOf l 6) (cntOf l 7) (cntOf l 8) (cntOf l 9) := by
 have h := fun k => cntOf_le l k
 exact ⟨⟨(h 2).1, by have := (h 2).2; omega⟩, ⟨(h 3).1, by have := (h 3).2; omega⟩, ⟨(h 4).1, by have := (h 4).2; omega⟩, ⟨(h 5).1, by have := (h 5).2; omega⟩, ⟨(h 6).1, by have := (h 6).2; omega⟩, ⟨(h 7).1, by have := (h 7).2; omega⟩, ⟨(h 8).1, by have := (h 8).2; omega⟩, ⟨(h 9).1, by have := (h 9).2; omega⟩⟩
theorem shape_any {w : World} (A0 : Option Addr) (c0 : Nat) (l0 : List S88) (b : Bool) (sc : Int) (hl : l0.length ≤ 1000000) (hr : Kd.C k88 w A0 l0.length l0) (hc : l0.length ≤ c0) :
  ∀ W, Below w.heap.size w W → Calls Tryd.prog 52 #[.agg #[.slice A0 l0.length c0, .bool b, .int .i64 sc], .agg #[.int .i64 (cntOf l0 0), .int .i64 (cntOf l0 1), .int .i64 (cntOf l0 2), .int .i64 (cntOf l0 3), .int .i64 (cntOf l0 4), .int .i64 (cntOf l0 5), .int .i64 (cntOf l0 6), .int .i64 (cntOf l0 7), .int .i64 (cntOf l0 8), .int .i64 (cntOf l0 9)]] W fun e w' => e = .returned (.int .i64 (shpAll l0)) ∧ Below W.heap.size W w' :=
 fun W hW => shape_walk A0 c0 l0 b sc _ _ _ _ _ _ _ _ _ _ W (shp_b l0 hl) hl (Kd.C_below hr hW) hc
set_option maxRecDepth 100000 in
set_option maxHeartbeats 16000000 in
theorem Shape_walk_false (A0 : Option Addr) (c0 : Nat) (l0 : List S88) (sc : Int) (w : World) (hGL : GL w) (hl : l0.length ≤ 1000000) (hr : Kd.C k88 w A0 l0.length l0) (hc : l0.length ≤ c0) :
  Calls Tryd.prog 31 #[.agg #[.slice A0 l0.length c0, .bool false, .int .i64 sc]] w fun e w' => e = .returned (.int .i64 (shapeOf l0 false sc)) ∧ Below w.heap.size w w' := by
 have h1 := (Below.refl w.heap.size w).alloc (Nat.le_refl _) (.cells #[.slice A0 l0.length c0, .bool false, .int .i64 sc] 62 (0, 0))
 have HG1 := Aside0.mk (heap_alloc_new w (.cells #[.slice A0 l0.length c0, .bool false, .int .i64 sc] 62 (0, 0)))
 have HB1 := Aside0.mk h1
 have HR := Aside0.mk hr
 have HC := Aside0.mk hc
 unfold shapeOf
 cases hall : l0.all okItem
 ·have HX := Aside0.mk (many_false A0 c0 l0 false sc _ (hGL.below h1) (Kd.C_below hr h1) hc hall)
  clear hr hGL hall h1
  rw [if_neg (by decide)]
  go_enter Tryd.func31, Tryd.ntmps31
  go_wp2_with (go_at_call 51; (with_reducible refine HX.out.mono ?_); rintro e w2 ⟨c, rfl, hb2⟩; have HB2 := Aside0.mk (HB1.out.trans (hb2.mono HB1.out.size)); clear hb2)
  go_ret
  exact ⟨rfl, below_alloc HB2.out _⟩
 ·have HX := Aside0.mk (many_true A0 c0 l0 false sc _ (hGL.below h1) (Kd.C_below hr h1) hc hall)
  have HS := Aside0.mk (shape_any (w := w) A0 c0 l0 false sc hl hr hc)
  have HH := Aside0.mk (fun W (hW : Below w.heap.size w W) => head_walk A0 c0 l0 false sc W (Kd.C_below HR.out hW) HC.out)
  have HD := Aside0.mk (digits_any (w := w) (n := wEnd l0) (c := c0) (l0.take (wEnd l0)) (by have := wEnd_le l0; simp; omega) (by have := wEnd_le l0; simp; omega) (Kd.C_take hr (wEnd_le l0)) (by have := wEnd_le l0; omega))
  have HP := Aside0.mk (fun W (hW : Below w.heap.size w W) => pair_walk A0 c0 l0 false sc W (Kd.C_below HR.out hW) HC.out)
  have hdb := (digs_bound (l0.take (wEnd l0))).1
  clear hr hGL hall h1
  rw [if_pos rfl]
  generalize shpAll l0 = s at *
  generalize digs (l0.take (wEnd l0)) = d at *
  generalize pairOf l0 = p at *
  have hwl := wEnd_le l0
  generalize wEnd l0 = i at *
  by_cases k0 : s = 2
  ·have k0b : (s == 2) = true := beq_iff_eq.mpr k0
   rw [if_pos k0]
   subst k0
   clear k0b
   by_cases k1 : 0 ≤ sc
   ·have k1b : decide (0 ≤ sc) = true := decide_eq_true k1
    by_cases k2 : sc ≤ 9
    ·have k2b : decide (sc ≤ 9) = true := decide_eq_true k2
     by_cases k3 : 0 < d
     ·have k3b : decide (0 < d) = true := decide_eq_true k3
      rw [if_pos ⟨k1, k2, .inl k3, .inl rfl⟩]
      go_enter Tryd.func31, Tryd.ntmps31
      go_wp2_with (first | (go_at_call 51; (with_reducible refine HX.out.mono ?_); rintro e w2 ⟨rfl, hb2⟩; have HB2 := Aside0.mk (HB1.out.trans (hb2.mono HB1.out.size)); have HG2 := Aside0.mk (blk_below HG1.out hb2); clear hb2; have hcw2_0 : w2.cell? ⟨w.heap.size, 0, none⟩ = some (.slice A0 l0.length c0) := (blk_cell HG2.out 0).trans rfl; have hcw2_1 : w2.cell? ⟨w.heap.size, 1, none⟩ = some (.bool false) := (blk_cell HG2.out 1).trans rfl; have hcw2_2 : w2.cell? ⟨w.heap.size, 2, none⟩ = some (.int .i64 sc) := (blk_cell HG2.out 2).trans rfl; have hzw2 := blk_lt HG2.out) | (go_at_call 52; (with_reducible refine (HS.out _ (below_alloc HB2.out _)).mono ?_); rintro e w3 ⟨rfl, hb3⟩; have HB3 := Aside0.mk ((below_alloc HB2.out _).trans (hb3.mono (below_alloc HB2.out _).size)); have HG3 := Aside0.mk (blk_below (blk_alloc HG2.out _) hb3); clear hb3; have hcw3_0 : w3.cell? ⟨w.heap.size, 0, none⟩ = some (.slice A0 l0.length c0) := (blk_cell HG3.out 0).trans rfl; have hcw3_1 : w3.cell? ⟨w.heap.size, 1, none⟩ = some (.bool false) := (blk_cell HG3.out 1).trans rfl; have hcw3_2 : w3.cell? ⟨w.heap.size, 2, none⟩ = some (.int .i64 sc) := (blk_cell HG3.out 2).trans rfl; have hzw3 := blk_lt HG3.out) | (go_at_call 54; (with_reducible refine (HH.out _ HB3.out).mono ?_); rintro e w4 ⟨rfl, hb4⟩; have HB4 := Aside0.mk (HB3.out.trans (hb4.mono HB3.out.size)); have HG4 := Aside0.mk (blk_below HG3.out hb4); clear hb4; have hcw4_0 : w4.cell? ⟨w.heap.size, 0, none⟩ = some (.slice A0 l0.length c0) := (blk_cell HG4.out 0).trans rfl; have hcw4_1 : w4.cell? ⟨w.heap.size, 1, none⟩ = some (.bool false) := (blk_cell HG4.out 1).trans rfl; have hcw4_2 : w4.cell? ⟨w.heap.size, 2, none⟩ = some (.int .i64 sc) := (blk_cell HG4.out 2).trans rfl; have hzw4 := blk_lt HG4.out) | (go_at_call 53; (with_reducible refine (HD.out _ HB4.out).mono ?_); rintro e w5 ⟨rfl, hb5⟩; have HB5 := Aside0.mk (HB4.out.trans (hb5.mono HB4.out.size)); have HG5 := Aside0.mk (blk_below HG4.out hb5); clear hb5; have hcw5_0 : w5.cell? ⟨w.heap.size, 0, none⟩ = some (.slice A0 l0.length c0) := (blk_cell HG5.out 0).trans rfl; have hcw5_1 : w5.cell? ⟨w.heap.size, 1, none⟩ = some (.bool false) := (blk_cell HG5.out 1).trans rfl; have hcw5_2 : w5.cell? ⟨w.heap.size, 2, none⟩ = some (.int .i64 sc) := (blk_cell HG5.out 2).trans rfl; have hzw5 := blk_lt HG5.out))
      go_ret
      exact ⟨rfl, HB5.out⟩
     ·have k3b : decide (0 < d) = false := decide_eq_false k3
      by_cases k4 : sc = 0
      ·have k4b : (sc == 0) = true := beq_iff_eq.mpr k4
       have K4 := Aside0.mk k4; clear k4
       rw [if_pos ⟨k1, k2, .inr K4.out, .inl rfl⟩]
       go_enter Tryd.func31, Tryd.ntmps31
       go_wp2_with (first | (go_at_call 51; (with_reducible refine HX.out.mono ?_); rintro e w2 ⟨rfl, hb2⟩; have HB2 := Aside0.mk (HB1.out.trans (hb2.mono HB1.out.size)); have HG2 := Aside0.mk (blk_below HG1.out hb2); clear hb2; have hcw2_0 : w2.cell? ⟨w.heap.size, 0, none⟩ = some (.slice A0 l0.length c0) := (blk_cell HG2.out 0).trans rfl; have hcw2_1 : w2.cell? ⟨w.heap.size, 1, none⟩ = some (.bool false) := (blk_cell HG2.out 1).trans rfl; have hcw2_2 : w2.cell? ⟨w.heap.size, 2, none⟩ = some (.int .i64 sc) := (blk_cell HG2.out 2).trans rfl; have hzw2 := blk_lt HG2.out) | (go_at_call 52; (with_reducible refine (HS.out _ (below_alloc HB2.out _)).mono ?_); rintro e w3 ⟨rfl, hb3⟩; have HB3 := Aside0.mk ((below_alloc HB2.out _).trans (hb3.mono (below_alloc HB2.out _).size)); have HG3 := Aside0.mk (blk_below (blk_alloc HG2.out _) hb3); clear hb3; have hcw3_0 : w3.cell? ⟨w.heap.size, 0, none⟩ = some (.slice A0 l0.length c0) := (blk_cell HG3.out 0).trans rfl; have hcw3_1 : w3.cell? ⟨w.heap.size, 1, none⟩ = some (.bool false) := (blk_cell HG3.out 1).trans rfl; have hcw3_2 : w3.cell? ⟨w.heap.size, 2, none⟩ = some (.int .i64 sc) := (blk_cell HG3.out 2).trans rfl; have hzw3 := blk_lt HG3.out) | (go_at_call 54; (with_reducible refine (HH.out _ HB3.out).mono ?_); rintro e w4 ⟨rfl, hb4⟩; have HB4 := Aside0.mk (HB3.out.trans (hb4.mono HB3.out.size)); have HG4 := Aside0.mk (blk_below HG3.out hb4); clear hb4; have hcw4_0 : w4.cell? ⟨w.heap.size, 0, none⟩ = some (.slice A0 l0.length c0) := (blk_cell HG4.out 0).trans rfl; have hcw4_1 : w4.cell? ⟨w.heap.size, 1, none⟩ = some (.bool false) := (blk_cell HG4.out 1).trans rfl; have hcw4_2 : w4.cell? ⟨w.heap.size, 2, none⟩ = some (.int .i64 sc) := (blk_cell HG4.out 2).trans rfl; have hzw4 := blk_lt HG4.out) | (go_at_call 53; (with_reducible refine (HD.out _ HB4.out).mono ?_); rintro e w5 ⟨rfl, hb5⟩; have HB5 := Aside0.mk (HB4.out.trans (hb5.mono HB4.out.size)); have HG5 := Aside0.mk (blk_below HG4.out hb5); clear hb5; have hcw5_0 : w5.cell? ⟨w.heap.size, 0, none⟩ = some (.slice A0 l0.length c0) := (blk_cell HG5.out 0).trans rfl; have hcw5_1 : w5.cell? ⟨w.heap.size, 1, none⟩ = some (.bool false) := (blk_cell HG5.out 1).trans rfl; have hcw5_2 : w5.cell? ⟨w.heap.size, 2, none⟩ = some (.int .i64 sc) := (blk_cell HG5.out 2).trans rfl; have hzw5 := blk_lt HG5.out))
       go_ret
       exact ⟨rfl, HB5.out⟩
      ·have k4b : (sc == 0) = false := beq_eq_false_iff_ne.mpr k4
       have K4 := Aside0.mk k4; clear k4
       rw [if_neg (fun h => h.2.2.1.elim k3 K4.out)]
       go_enter Tryd.func31, Tryd.ntmps31
       go_wp2_with (first | (go_at_call 51; (with_reducible refine HX.out.mono ?_); rintro e w2 ⟨rfl, hb2⟩; have HB2 := Aside0.mk (HB1.out.trans (hb2.mono HB1.out.size)); have HG2 := Aside0.mk (blk_below HG1.out hb2); clear hb2; have hcw2_0 : w2.cell? ⟨w.heap.size, 0, none⟩ = some (.slice A0 l0.length c0) := (blk_cell HG2.out 0).trans rfl; have hcw2_1 : w2.cell? ⟨w.heap.size, 1, none⟩ = some (.bool false) := (blk_cell HG2.out 1).trans rfl; have hcw2_2 : w2.cell? ⟨w.heap.size, 2, none⟩ = some (.int .i64 sc) := (blk_cell HG2.out 2).trans rfl; have hzw2 := blk_lt HG2.out) | (go_at_call 52; (with_reducible refine (HS.out _ (below_alloc HB2.out _)).mono ?_); rintro e w3 ⟨rfl, hb3⟩; have HB3 := Aside0.mk ((below_alloc HB2.out _).trans (hb3.mono (below_alloc HB2.out _).size)); have HG3 := Aside0.mk (blk_below (blk_alloc HG2.out _) hb3); clear hb3; have hcw3_0 : w3.cell? ⟨w.heap.size, 0, none⟩ = some (.slice A0 l0.length c0) := (blk_cell HG3.out 0).trans rfl; have hcw3_1 : w3.cell? ⟨w.heap.size, 1, none⟩ = some (.bool false) := (blk_cell HG3.out 1).trans rfl; have hcw3_2 : w3.cell? ⟨w.heap.size, 2, none⟩ = some (.int .i64 sc) := (blk_cell HG3.out 2).trans rfl; have hzw3 := blk_lt HG3.out) | (go_at_call 54; (with_reducible refine (HH.out _ HB3.out).mono ?_); rintro e w4 ⟨rfl, hb4⟩; have HB4 := Aside0.mk (HB3.out.trans (hb4.mono HB3.out.size)); have HG4 := Aside0.mk (blk_below HG3.out hb4); clear hb4; have hcw4_0 : w4.cell? ⟨w.heap.size, 0, none⟩ = some (.slice A0 l0.length c0) := (blk_cell HG4.out 0).trans rfl; have hcw4_1 : w4.cell? ⟨w.heap.size, 1, none⟩ = some (.bool false) := (blk_cell HG4.out 1).trans rfl; have hcw4_2 : w4.cell? ⟨w.heap.size, 2, none⟩ = some (.int .i64 sc) := (blk_cell HG4.out 2).trans rfl; have hzw4 := blk_lt HG4.out) | (go_at_call 53; (with_reducible refine (HD.out _ HB4.out).mono ?_); rintro e w5 ⟨rfl, hb5⟩; have HB5 := Aside0.mk (HB4.out.trans (hb5.mono HB4.out.size)); have HG5 := Aside0.mk (blk_below HG4.out hb5); clear hb5; have hcw5_0 : w5.cell? ⟨w.heap.size, 0, none⟩ = some (.slice A0 l0.length c0) := (blk_cell HG5.out 0).trans rfl; have hcw5_1 : w5.cell? ⟨w.heap.size, 1, none⟩ = some (.bool false) := (blk_cell HG5.out 1).trans rfl; have hcw5_2 : w5.cell? ⟨w.heap.size, 2, none⟩ = some (.int .i64 sc) := (blk_cell HG5.out 2).trans rfl; have hzw5 := blk_lt HG5.out))
       go_ret
       exact ⟨rfl, HB5.out⟩
    ·have k2b : decide (sc ≤ 9) = false := decide_eq_false k2
     rw [if_neg (fun h => k2 h.2.1)]
     go_enter Tryd.func31, Tryd.ntmps31
     go_wp2_with (first | (go_at_call 51; (with_reducible refine HX.out.mono ?_); rintro e w2 ⟨rfl, hb2⟩; have HB2 := Aside0.mk (HB1.out.trans (hb2.mono HB1.out.size)); have HG2 := Aside0.mk (blk_below HG1.out hb2); clear hb2; have hcw2_0 : w2.cell? ⟨w.heap.size, 0, none⟩ = some (.slice A0 l0.length c0) := (blk_cell HG2.out 0).trans rfl; have hcw2_1 : w2.cell? ⟨w.heap.size, 1, none⟩ = some (.bool false) := (blk_cell HG2.out 1).trans rfl; have hcw2_2 : w2.cell? ⟨w.heap.size, 2, none⟩ = some (.int .i64 sc) := (blk_cell HG2.out 2).trans rfl; have hzw2 := blk_lt HG2.out) | (go_at_call 52; (with_reducible refine (HS.out _ (below_alloc HB2.out _)).mono ?_); rintro e w3 ⟨rfl, hb3⟩; have HB3 := Aside0.mk ((below_alloc HB2.out _).trans (hb3.mono (below_alloc HB2.out _).size)); have HG3 := Aside0.mk (blk_below (blk_alloc HG2.out _) hb3); clear hb3; have hcw3_0 : w3.cell? ⟨w.heap.size, 0, none⟩ = some (.slice A0 l0.length c0) := (blk_cell HG3.out 0).trans rfl; have hcw3_1 : w3.cell? ⟨w.heap.size, 1, none⟩ = some (.bool false) := (blk_cell HG3.out 1).trans rfl; have hcw3_2 : w3.cell? ⟨w.heap.size, 2, none⟩ = some (.int .i64 sc) := (blk_cell HG3.out 2).trans rfl; have hzw3 := blk_lt HG3.out) | (go_at_call 54; (with_reducible refine (HH.out _ HB3.out).mono ?_); rintro e w4 ⟨rfl, hb4⟩; have HB4 := Aside0.mk (HB3.out.trans (hb4.mono HB3.out.size)); have HG4 := Aside0.mk (blk_below HG3.out hb4); clear hb4; have hcw4_0 : w4.cell? ⟨w.heap.size, 0, none⟩ = some (.slice A0 l0.length c0) := (blk_cell HG4.out 0).trans rfl; have hcw4_1 : w4.cell? ⟨w.heap.size, 1, none⟩ = some (.bool false) := (blk_cell HG4.out 1).trans rfl; have hcw4_2 : w4.cell? ⟨w.heap.size, 2, none⟩ = some (.int .i64 sc) := (blk_cell HG4.out 2).trans rfl; have hzw4 := blk_lt HG4.out) | (go_at_call 53; (with_reducible refine (HD.out _ HB4.out).mono ?_); rintro e w5 ⟨rfl, hb5⟩; have HB5 := Aside0.mk (HB4.out.trans (hb5.mono HB4.out.size)); have HG5 := Aside0.mk (blk_below HG4.out hb5); clear hb5; have hcw5_0 : w5.cell? ⟨w.heap.size, 0, none⟩ = some (.slice A0 l0.length c0) := (blk_cell HG5.out 0).trans rfl; have hcw5_1 : w5.cell? ⟨w.heap.size, 1, none⟩ = some (.bool false) := (blk_cell HG5.out 1).trans rfl; have hcw5_2 : w5.cell? ⟨w.heap.size, 2, none⟩ = some (.int .i64 sc) := (blk_cell HG5.out 2).trans rfl; have hzw5 := blk_lt HG5.out))
     go_ret
     exact ⟨rfl, HB5.out⟩
   ·have k1b : decide (0 ≤ sc) = false := decide_eq_false k1
    rw [if_neg (fun h => k1 h.1)]
    go_enter Tryd.func31, Tryd.ntmps31
    go_wp2_with (first | (go_at_call 51; (with_reducible refine HX.out.mono ?_); rintro e w2 ⟨rfl, hb2⟩; have HB2 := Aside0.mk (HB1.out.trans (hb2.mono HB1.out.size)); have HG2 := Aside0.mk (blk_below HG1.out hb2); clear hb2; have hcw2_0 : w2.cell? ⟨w.heap.size, 0, none⟩ = some (.slice A0 l0.length c0) := (blk_cell HG2.out 0).trans rfl; have hcw2_1 : w2.cell? ⟨w.heap.size, 1, none⟩ = some (.bool false) := (blk_cell HG2.out 1).trans rfl; have hcw2_2 : w2.cell? ⟨w.heap.size, 2, none⟩ = some (.int .i64 sc) := (blk_cell HG2.out 2).trans rfl; have hzw2 := blk_lt HG2.out) | (go_at_call 52; (with_reducible refine (HS.out _ (below_alloc HB2.out _)).mono ?_); rintro e w3 ⟨rfl, hb3⟩; have HB3 := Aside0.mk ((below_alloc HB2.out _).trans (hb3.mono (below_alloc HB2.out _).size)); have HG3 := Aside0.mk (blk_below (blk_alloc HG2.out _) hb3); clear hb3; have hcw3_0 : w3.cell? ⟨w.heap.size, 0, none⟩ = some (.slice A0 l0.length c0) := (blk_cell HG3.out 0).trans rfl; have hcw3_1 : w3.cell? ⟨w.heap.size, 1, none⟩ = some (.bool false) := (blk_cell HG3.out 1).trans rfl; have hcw3_2 : w3.cell? ⟨w.heap.size, 2, none⟩ = some (.int .i64 sc) := (blk_cell HG3.out 2).trans rfl; have hzw3 := blk_lt HG3.out) | (go_at_call 54; (with_reducible refine (HH.out _ HB3.out).mono ?_); rintro e w4 ⟨rfl, hb4⟩; have HB4 := Aside0.mk (HB3.out.trans (hb4.mono HB3.out.size)); have HG4 := Aside0.mk (blk_below HG3.out hb4); clear hb4; have hcw4_0 : w4.cell? ⟨w.heap.size, 0, none⟩ = some (.slice A0 l0.length c0) := (blk_cell HG4.out 0).trans rfl; have hcw4_1 : w4.cell? ⟨w.heap.size, 1, none⟩ = some (.bool false) := (blk_cell HG4.out 1).trans rfl; have hcw4_2 : w4.cell? ⟨w.heap.size, 2, none⟩ = some (.int .i64 sc) := (blk_cell HG4.out 2).trans rfl; have hzw4 := blk_lt HG4.out) | (go_at_call 53; (with_reducible refine (HD.out _ HB4.out).mono ?_); rintro e w5 ⟨rfl, hb5⟩; have HB5 := Aside0.mk (HB4.out.trans (hb5.mono HB4.out.size)); have HG5 := Aside0.mk (blk_below HG4.out hb5); clear hb5; have hcw5_0 : w5.cell? ⟨w.heap.size, 0, none⟩ = some (.slice A0 l0.length c0) := (blk_cell HG5.out 0).trans rfl; have hcw5_1 : w5.cell? ⟨w.heap.size, 1, none⟩ = some (.bool false) := (blk_cell HG5.out 1).trans rfl; have hcw5_2 : w5.cell? ⟨w.heap.size, 2, none⟩ = some (.int .i64 sc) := (blk_cell HG5.out 2).trans rfl; have hzw5 := blk_lt HG5.out))
    go_ret
    exact ⟨rfl, HB5.out⟩
  ·have k0b : (s == 2) = false := beq_eq_false_iff_ne.mpr k0
   rw [if_neg k0]
   by_cases k4 : sc = 0
   ·have k4b : (sc == 0) = true := beq_iff_eq.mpr k4
    have K4 := Aside0.mk k4; clear k4
    rw [if_pos ⟨rfl, K4.out⟩]
    go_enter Tryd.func31, Tryd.ntmps31
    go_wp2_with (first | (go_at_call 51; (with_reducible refine HX.out.mono ?_); rintro e w2 ⟨rfl, hb2⟩; have HB2 := Aside0.mk (HB1.out.trans (hb2.mono HB1.out.size)); have HG2 := Aside0.mk (blk_below HG1.out hb2); clear hb2; have hcw2_0 : w2.cell? ⟨w.heap.size, 0, none⟩ = some (.slice A0 l0.length c0) := (blk_cell HG2.out 0).trans rfl; have hcw2_1 : w2.cell? ⟨w.heap.size, 1, none⟩ = some (.bool false) := (blk_cell HG2.out 1).trans rfl; have hcw2_2 : w2.cell? ⟨w.heap.size, 2, none⟩ = some (.int .i64 sc) := (blk_cell HG2.out 2).trans rfl; have hzw2 := blk_lt HG2.out) | (go_at_call 52; (with_reducible refine (HS.out _ (below_alloc HB2.out _)).mono ?_); rintro e w3 ⟨rfl, hb3⟩; have HB3 := Aside0.mk ((below_alloc HB2.out _).trans (hb3.mono (below_alloc HB2.out _).size)); have HG3 := Aside0.mk (blk_below (blk_alloc HG2.out _) hb3); clear hb3; have hcw3_0 : w3.cell? ⟨w.heap.size, 0, none⟩ = some (.slice A0 l0.length c0) := (blk_cell HG3.out 0).trans rfl; have hcw3_1 : w3.cell? ⟨w.heap.size, 1, none⟩ = some (.bool false) := (blk_cell HG3.out 1).trans rfl; have hcw3_2 : w3.cell? ⟨w.heap.size, 2, none⟩ = some (.int .i64 sc) := (blk_cell HG3.out 2).trans rfl; have hzw3 := blk_lt HG3.out))
    go_ret
    exact ⟨rfl, HB3.out⟩
   ·have k4b : (sc == 0) = false := beq_eq_false_iff_ne.mpr k4
    have K4 := Aside0.mk k4; clear k4
    rw [if_neg (fun h => K4.out h.2)]
    go_enter Tryd.func31, Tryd.ntmps31
    go_wp2_with (first | (go_at_call 51; (with_reducible refine HX.out.mono ?_); rintro e w2 ⟨rfl, hb2⟩; have HB2 := Aside0.mk (HB1.out.trans (hb2.mono HB1.out.size)); have HG2 := Aside0.mk (blk_below HG1.out hb2); clear hb2; have hcw2_0 : w2.cell? ⟨w.heap.size, 0, none⟩ = some (.slice A0 l0.length c0) := (blk_cell HG2.out 0).trans rfl; have hcw2_1 : w2.cell? ⟨w.heap.size, 1, none⟩ = some (.bool false) := (blk_cell HG2.out 1).trans rfl; have hcw2_2 : w2.cell? ⟨w.heap.size, 2, none⟩ = some (.int .i64 sc) := (blk_cell HG2.out 2).trans rfl; have hzw2 := blk_lt HG2.out) | (go_at_call 52; (with_reducible refine (HS.out _ (below_alloc HB2.out _)).mono ?_); rintro e w3 ⟨rfl, hb3⟩; have HB3 := Aside0.mk ((below_alloc HB2.out _).trans (hb3.mono (below_alloc HB2.out _).size)); have HG3 := Aside0.mk (blk_below (blk_alloc HG2.out _) hb3); clear hb3; have hcw3_0 : w3.cell? ⟨w.heap.size, 0, none⟩ = some (.slice A0 l0.length c0) := (blk_cell HG3.out 0).trans rfl; have hcw3_1 : w3.cell? ⟨w.heap.size, 1, none⟩ = some (.bool false) := (blk_cell HG3.out 1).trans rfl; have hcw3_2 : w3.cell? ⟨w.heap.size, 2, none⟩ = some (.int .i64 sc) := (blk_cell HG3.out 2).trans rfl; have hzw3 := blk_lt HG3.out))
    go_ret
    exact ⟨rfl, HB3.out⟩
set_option maxRecDepth 100000 in
set_option maxHeartbeats 16000000 in
theorem Shape_walk_true (A0 : Option Addr) (c0 : Nat) (l0 : List S88) (sc : Int) (w : World) (hGL : GL w) (hl : l0.length ≤ 1000000) (hr : Kd.C k88 w A0 l0.length l0) (hc : l0.length ≤ c0) :
  Calls Tryd.prog 31 #[.agg #[.slice A0 l0.length c0, .bool true, .int .i64 sc]] w fun e w' => e = .returned (.int .i64 (shapeOf l0 true sc)) ∧ Below w.heap.size w w' := by
 have h1 := (Below.refl w.heap.size w).alloc (Nat.le_refl _) (.cells #[.slice A0 l0.length c0, .bool true, .int .i64 sc] 62 (0, 0))
 have HG1 := Aside0.mk (heap_alloc_new w (.cells #[.slice A0 l0.length c0, .bool true, .int .i64 sc] 62 (0, 0)))
 have HB1 := Aside0.mk h1
 have HR := Aside0.mk hr
 have HC := Aside0.mk hc
 unfold shapeOf
 cases hall : l0.all okItem
 ·have HX := Aside0.mk (many_false A0 c0 l0 true sc _ (hGL.below h1) (Kd.C_below hr h1) hc hall)
  clear hr hGL hall h1
  rw [if_neg (by decide)]
  go_enter Tryd.func31, Tryd.ntmps31
  go_wp2_with (go_at_call 51; (with_reducible refine HX.out.mono ?_); rintro e w2 ⟨c, rfl, hb2⟩; have HB2 := Aside0.mk (HB1.out.trans (hb2.mono HB1.out.size)); clear hb2)
  go_ret
  exact ⟨rfl, below_alloc HB2.out _⟩
 ·have HX := Aside0.mk (many_true A0 c0 l0 true sc _ (hGL.below h1) (Kd.C_below hr h1) hc hall)
  have HS := Aside0.mk (shape_any (w := w) A0 c0 l0 true sc hl hr hc)
  have HH := Aside0.mk (fun W (hW : Below w.heap.size w W) => head_walk A0 c0 l0 true sc W (Kd.C_below HR.out hW) HC.out)
  have HD := Aside0.mk (digits_any (w := w) (n := wEnd l0) (c := c0) (l0.take (wEnd l0)) (by have := wEnd_le l0; simp; omega) (by have := wEnd_le l0; simp; omega) (Kd.C_take hr (wEnd_le l0)) (by have := wEnd_le l0; omega))
  have HP := Aside0.mk (fun W (hW : Below w.heap.size w W) => pair_walk A0 c0 l0 true sc W (Kd.C_below HR.out hW) HC.out)
  have hdb := (digs_bound (l0.take (wEnd l0))).1
  clear hr hGL hall h1
  rw [if_pos rfl]
  generalize shpAll l0 = s at *
  generalize digs (l0.take (wEnd l0)) = d at *
  generalize pairOf l0 = p at *
  have hwl := wEnd_le l0
  generalize wEnd l0 = i at *
  by_cases k0 : s = 2
  ·have k0b : (s == 2) = true := beq_iff_eq.mpr k0
   rw [if_pos k0]
   subst k0
   clear k0b
   by_cases k1 : 0 ≤ sc
   ·have k1b : decide (0 ≤ sc) = true := decide_eq_true k1
    by_cases k2 : sc ≤ 9
    ·have k2b : decide (sc ≤ 9) = true := decide_eq_true k2
     by_cases k3 : 0 < d
     ·have k3b : decide (0 < d) = true := decide_eq_true k3
      by_cases k5 : 0 ≤ p
      ·have k5b : decide (0 ≤ p) = true := decide_eq_true k5
       rw [if_pos ⟨k1, k2, .inl k3, .inr k5⟩]
       go_enter Tryd.func31, Tryd.ntmps31
       go_wp2_with (first | (go_at_call 51; (with_reducible refine HX.out.mono ?_); rintro e w2 ⟨rfl, hb2⟩; have HB2 := Aside0.mk (HB1.out.trans (hb2.mono HB1.out.size)); have HG2 := Aside0.mk (blk_below HG1.out hb2); clear hb2; have hcw2_0 : w2.cell? ⟨w.heap.size, 0, none⟩ = some (.slice A0 l0.length c0) := (blk_cell HG2.out 0).trans rfl; have hcw2_1 : w2.cell? ⟨w.heap.size, 1, none⟩ = some (.bool true) := (blk_cell HG2.out 1).trans rfl; have hcw2_2 : w2.cell? ⟨w.heap.size, 2, none⟩ = some (.int .i64 sc) := (blk_cell HG2.out 2).trans rfl; have hzw2 := blk_lt HG2.out) | (go_at_call 52; (with_reducible refine (HS.out _ (below_alloc HB2.out _)).mono ?_); rintro e w3 ⟨rfl, hb3⟩; have HB3 := Aside0.mk ((below_alloc HB2.out _).trans (hb3.mono (below_alloc HB2.out _).size)); have HG3 := Aside0.mk (blk_below (blk_alloc HG2.out _) hb3); clear hb3; have hcw3_0 : w3.cell? ⟨w.heap.size, 0, none⟩ = some (.slice A0 l0.length c0) := (blk_cell HG3.out 0).trans rfl; have hcw3_1 : w3.cell? ⟨w.heap.size, 1, none⟩ = some (.bool true) := (blk_cell HG3.out 1).trans rfl; have hcw3_2 : w3.cell? ⟨w.heap.size, 2, none⟩ = some (.int .i64 sc) := (blk_cell HG3.out 2).trans rfl; have hzw3 := blk_lt HG3.out) | (go_at_call 54; (with_reducible refine (HH.out _ HB3.out).mono ?_); rintro e w4 ⟨rfl, hb4⟩; have HB4 := Aside0.mk (HB3.out.trans (hb4.mono HB3.out.size)); have HG4 := Aside0.mk (blk_below HG3.out hb4); clear hb4; have hcw4_0 : w4.cell? ⟨w.heap.size, 0, none⟩ = some (.slice A0 l0.length c0) := (blk_cell HG4.out 0).trans rfl; have hcw4_1 : w4.cell? ⟨w.heap.size, 1, none⟩ = some (.bool true) := (blk_cell HG4.out 1).trans rfl; have hcw4_2 : w4.cell? ⟨w.heap.size, 2, none⟩ = some (.int .i64 sc) := (blk_cell HG4.out 2).trans rfl; have hzw4 := blk_lt HG4.out) | (go_at_call 53; (with_reducible refine (HD.out _ HB4.out).mono ?_); rintro e w5 ⟨rfl, hb5⟩; have HB5 := Aside0.mk (HB4.out.trans (hb5.mono HB4.out.size)); have HG5 := Aside0.mk (blk_below HG4.out hb5); clear hb5; have hcw5_0 : w5.cell? ⟨w.heap.size, 0, none⟩ = some (.slice A0 l0.length c0) := (blk_cell HG5.out 0).trans rfl; have hcw5_1 : w5.cell? ⟨w.heap.size, 1, none⟩ = some (.bool true) := (blk_cell HG5.out 1).trans rfl; have hcw5_2 : w5.cell? ⟨w.heap.size, 2, none⟩ = some (.int .i64 sc) := (blk_cell HG5.out 2).trans rfl; have hzw5 := blk_lt HG5.out) | (go_at_call 55; (with_reducible refine (HP.out _ HB5.out).mono ?_); rintro e w6 ⟨rfl, hb6⟩; have HB6 := Aside0.mk (HB5.out.trans (hb6.mono HB5.out.size)); clear hb6))
       go_ret
       exact ⟨rfl, HB6.out⟩
      ·have k5b : decide (0 ≤ p) = false := decide_eq_false k5
       rw [if_neg (fun h => h.2.2.2.elim (fun h => by cases h) k5)]
       go_enter Tryd.func31, Tryd.ntmps31
       go_wp2_with (first | (go_at_call 51; (with_reducible refine HX.out.mono ?_); rintro e w2 ⟨rfl, hb2⟩; have HB2 := Aside0.mk (HB1.out.trans (hb2.mono HB1.out.size)); have HG2 := Aside0.mk (blk_below HG1.out hb2); clear hb2; have hcw2_0 : w2.cell? ⟨w.heap.size, 0, none⟩ = some (.slice A0 l0.length c0) := (blk_cell HG2.out 0).trans rfl; have hcw2_1 : w2.cell? ⟨w.heap.size, 1, none⟩ = some (.bool true) := (blk_cell HG2.out 1).trans rfl; have hcw2_2 : w2.cell? ⟨w.heap.size, 2, none⟩ = some (.int .i64 sc) := (blk_cell HG2.out 2).trans rfl; have hzw2 := blk_lt HG2.out) | (go_at_call 52; (with_reducible refine (HS.out _ (below_alloc HB2.out _)).mono ?_); rintro e w3 ⟨rfl, hb3⟩; have HB3 := Aside0.mk ((below_alloc HB2.out _).trans (hb3.mono (below_alloc HB2.out _).size)); have HG3 := Aside0.mk (blk_below (blk_alloc HG2.out _) hb3); clear hb3; have hcw3_0 : w3.cell? ⟨w.heap.size, 0, none⟩ = some (.slice A0 l0.length c0) := (blk_cell HG3.out 0).trans rfl; have hcw3_1 : w3.cell? ⟨w.heap.size, 1, none⟩ = some (.bool true) := (blk_cell HG3.out 1).trans rfl; have hcw3_2 : w3.cell? ⟨w.heap.size, 2, none⟩ = some (.int .i64 sc) := (blk_cell HG3.out 2).trans rfl; have hzw3 := blk_lt HG3.out) | (go_at_call 54; (with_reducible refine (HH.out _ HB3.out).mono ?_); rintro e w4 ⟨rfl, hb4⟩; have HB4 := Aside0.mk (HB3.out.trans (hb4.mono HB3.out.size)); have HG4 := Aside0.mk (blk_below HG3.out hb4); clear hb4; have hcw4_0 : w4.cell? ⟨w.heap.size, 0, none⟩ = some (.slice A0 l0.length c0) := (blk_cell HG4.out 0).trans rfl; have hcw4_1 : w4.cell? ⟨w.heap.size, 1, none⟩ = some (.bool true) := (blk_cell HG4.out 1).trans rfl; have hcw4_2 : w4.cell? ⟨w.heap.size, 2, none⟩ = some (.int .i64 sc) := (blk_cell HG4.out 2).trans rfl; have hzw4 := blk_lt HG4.out) | (go_at_call 53; (with_reducible refine (HD.out _ HB4.out).mono ?_); rintro e w5 ⟨rfl, hb5⟩; have HB5 := Aside0.mk (HB4.out.trans (hb5.mono HB4.out.size)); have HG5 := Aside0.mk (blk_below HG4.out hb5); clear hb5; have hcw5_0 : w5.cell? ⟨w.heap.size, 0, none⟩ = some (.slice A0 l0.length c0) := (blk_cell HG5.out 0).trans rfl; have hcw5_1 : w5.cell? ⟨w.heap.size, 1, none⟩ = some (.bool true) := (blk_cell HG5.out 1).trans rfl; have hcw5_2 : w5.cell? ⟨w.heap.size, 2, none⟩ = some (.int .i64 sc) := (blk_cell HG5.out 2).trans rfl; have hzw5 := blk_lt HG5.out) | (go_at_call 55; (with_reducible refine (HP.out _ HB5.out).mono ?_); rintro e w6 ⟨rfl, hb6⟩; have HB6 := Aside0.mk (HB5.out.trans (hb6.mono HB5.out.size)); clear hb6))
       go_ret
       exact ⟨rfl, HB6.out⟩
     ·have k3b : decide (0 < d) = false := decide_eq_false k3
      by_cases k4 : sc = 0
      ·have k4b : (sc == 0) = true := beq_iff_eq.mpr k4
       have K4 := Aside0.mk k4; clear k4
       by_cases k5 : 0 ≤ p
       ·have k5b : decide (0 ≤ p) = true := decide_eq_true k5
        rw [if_pos ⟨k1, k2, .inr K4.out, .inr k5⟩]
        go_enter Tryd.func31, Tryd.ntmps31
        go_wp2_with (first | (go_at_call 51; (with_reducible refine HX.out.mono ?_); rintro e w2 ⟨rfl, hb2⟩; have HB2 := Aside0.mk (HB1.out.trans (hb2.mono HB1.out.size)); have HG2 := Aside0.mk (blk_below HG1.out hb2); clear hb2; have hcw2_0 : w2.cell? ⟨w.heap.size, 0, none⟩ = some (.slice A0 l0.length c0) := (blk_cell HG2.out 0).trans rfl; have hcw2_1 : w2.cell? ⟨w.heap.size, 1, none⟩ = some (.bool true) := (blk_cell HG2.out 1).trans rfl; have hcw2_2 : w2.cell? ⟨w.heap.size, 2, none⟩ = some (.int .i64 sc) := (blk_cell HG2.out 2).trans rfl; have hzw2 := blk_lt HG2.out) | (go_at_call 52; (with_reducible refine (HS.out _ (below_alloc HB2.out _)).mono ?_); rintro e w3 ⟨rfl, hb3⟩; have HB3 := Aside0.mk ((below_alloc HB2.out _).trans (hb3.mono (below_alloc HB2.out _).size)); have HG3 := Aside0.mk (blk_below (blk_alloc HG2.out _) hb3); clear hb3; have hcw3_0 : w3.cell? ⟨w.heap.size, 0, none⟩ = some (.slice A0 l0.length c0) := (blk_cell HG3.out 0).trans rfl; have hcw3_1 : w3.cell? ⟨w.heap.size, 1, none⟩ = some (.bool true) := (blk_cell HG3.out 1).trans rfl; have hcw3_2 : w3.cell? ⟨w.heap.size, 2, none⟩ = some (.int .i64 sc) := (blk_cell HG3.out 2).trans rfl; have hzw3 := blk_lt HG3.out) | (go_at_call 54; (with_reducible refine (HH.out _ HB3.out).mono ?_); rintro e w4 ⟨rfl, hb4⟩; have HB4 := Aside0.mk (HB3.out.trans (hb4.mono HB3.out.size)); have HG4 := Aside0.mk (blk_below HG3.out hb4); clear hb4; have hcw4_0 : w4.cell? ⟨w.heap.size, 0, none⟩ = some (.slice A0 l0.length c0) := (blk_cell HG4.out 0).trans rfl; have hcw4_1 : w4.cell? ⟨w.heap.size, 1, none⟩ = some (.bool true) := (blk_cell HG4.out 1).trans rfl; have hcw4_2 : w4.cell? ⟨w.heap.size, 2, none⟩ = some (.int .i64 sc) := (blk_cell HG4.out 2).trans rfl; have hzw4 := blk_lt HG4.out) | (go_at_call 53; (with_reducible refine (HD.out _ HB4.out).mono ?_); rintro e w5 ⟨rfl, hb5⟩; have HB5 := Aside0.mk (HB4.out.trans (hb5.mono HB4.out.size)); have HG5 := Aside0.mk (blk_below HG4.out hb5); clear hb5; have hcw5_0 : w5.cell? ⟨w.heap.size, 0, none⟩ = some (.slice A0 l0.length c0) := (blk_cell HG5.out 0).trans rfl; have hcw5_1 : w5.cell? ⟨w.heap.size, 1, none⟩ = some (.bool true) := (blk_cell HG5.out 1).trans rfl; have hcw5_2 : w5.cell? ⟨w.heap.size, 2, none⟩ = some (.int .i64 sc) := (blk_cell HG5.out 2).trans rfl; have hzw5 := blk_lt HG5.out) | (go_at_call 55; (with_reducible refine (HP.out _ HB5.out).mono ?_); rintro e w6 ⟨rfl, hb6⟩; have HB6 := Aside0.mk (HB5.out.trans (hb6.mono HB5.out.size)); clear hb6))
        go_ret
        exact ⟨rfl, HB6.out⟩
       ·have k5b : decide (0 ≤ p) = false := decide_eq_false k5
        rw [if_neg (fun h => h.2.2.2.elim (fun h => by cases h) k5)]
        go_enter Tryd.func31, Tryd.ntmps31
        go_wp2_with (first | (go_at_call 51; (with_reducible refine HX.out.mono ?_); rintro e w2 ⟨rfl, hb2⟩; have HB2 := Aside0.mk (HB1.out.trans (hb2.mono HB1.out.size)); have HG2 := Aside0.mk (blk_below HG1.out hb2); clear hb2; have hcw2_0 : w2.cell? ⟨w.heap.size, 0, none⟩ = some (.slice A0 l0.length c0) := (blk_cell HG2.out 0).trans rfl; have hcw2_1 : w2.cell? ⟨w.heap.size, 1, none⟩ = some (.bool true) := (blk_cell HG2.out 1).trans rfl; have hcw2_2 : w2.cell? ⟨w.heap.size, 2, none⟩ = some (.int .i64 sc) := (blk_cell HG2.out 2).trans rfl; have hzw2 := blk_lt HG2.out) | (go_at_call 52; (with_reducible refine (HS.out _ (below_alloc HB2.out _)).mono ?_); rintro e w3 ⟨rfl, hb3⟩; have HB3 := Aside0.mk ((below_alloc HB2.out _).trans (hb3.mono (below_alloc HB2.out _).size)); have HG3 := Aside0.mk (blk_below (blk_alloc HG2.out _) hb3); clear hb3; have hcw3_0 : w3.cell? ⟨w.heap.size, 0, none⟩ = some (.slice A0 l0.length c0) := (blk_cell HG3.out 0).trans rfl; have hcw3_1 : w3.cell? ⟨w.heap.size, 1, none⟩ = some (.bool true) := (blk_cell HG3.out 1).trans rfl; have hcw3_2 : w3.cell? ⟨w.heap.size, 2, none⟩ = some (.int .i64 sc) := (blk_cell HG3.out 2).trans rfl; have hzw3 := blk_lt HG3.out) | (go_at_call 54; (with_reducible refine (HH.out _ HB3.out).mono ?_); rintro e w4 ⟨rfl, hb4⟩; have HB4 := Aside0.mk (HB3.out.trans (hb4.mono HB3.out.size)); have HG4 := Aside0.mk (blk_below HG3.out hb4); clear hb4; have hcw4_0 : w4.cell? ⟨w.heap.size, 0, none⟩ = some (.slice A0 l0.length c0) := (blk_cell HG4.out 0).trans rfl; have hcw4_1 : w4.cell? ⟨w.heap.size, 1, none⟩ = some (.bool true) := (blk_cell HG4.out 1).trans rfl; have hcw4_2 : w4.cell? ⟨w.heap.size, 2, none⟩ = some (.int .i64 sc) := (blk_cell HG4.out 2).trans rfl; have hzw4 := blk_lt HG4.out) | (go_at_call 53; (with_reducible refine (HD.out _ HB4.out).mono ?_); rintro e w5 ⟨rfl, hb5⟩; have HB5 := Aside0.mk (HB4.out.trans (hb5.mono HB4.out.size)); have HG5 := Aside0.mk (blk_below HG4.out hb5); clear hb5; have hcw5_0 : w5.cell? ⟨w.heap.size, 0, none⟩ = some (.slice A0 l0.length c0) := (blk_cell HG5.out 0).trans rfl; have hcw5_1 : w5.cell? ⟨w.heap.size, 1, none⟩ = some (.bool true) := (blk_cell HG5.out 1).trans rfl; have hcw5_2 : w5.cell? ⟨w.heap.size, 2, none⟩ = some (.int .i64 sc) := (blk_cell HG5.out 2).trans rfl; have hzw5 := blk_lt HG5.out) | (go_at_call 55; (with_reducible refine (HP.out _ HB5.out).mono ?_); rintro e w6 ⟨rfl, hb6⟩; have HB6 := Aside0.mk (HB5.out.trans (hb6.mono HB5.out.size)); clear hb6))
        go_ret
        exact ⟨rfl, HB6.out⟩
      ·have k4b : (sc == 0) = false := beq_eq_false_iff_ne.mpr k4
       have K4 := Aside0.mk k4; clear k4
       rw [if_neg (fun h => h.2.2.1.elim k3 K4.out)]
       go_enter Tryd.func31, Tryd.ntmps31
       go_wp2_with (first | (go_at_call 51; (with_reducible refine HX.out.mono ?_); rintro e w2 ⟨rfl, hb2⟩; have HB2 := Aside0.mk (HB1.out.trans (hb2.mono HB1.out.size)); have HG2 := Aside0.mk (blk_below HG1.out hb2); clear hb2; have hcw2_0 : w2.cell? ⟨w.heap.size, 0, none⟩ = some (.slice A0 l0.length c0) := (blk_cell HG2.out 0).trans rfl; have hcw2_1 : w2.cell? ⟨w.heap.size, 1, none⟩ = some (.bool true) := (blk_cell HG2.out 1).trans rfl; have hcw2_2 : w2.cell? ⟨w.heap.size, 2, none⟩ = some (.int .i64 sc) := (blk_cell HG2.out 2).trans rfl; have hzw2 := blk_lt HG2.out) | (go_at_call 52; (with_reducible refine (HS.out _ (below_alloc HB2.out _)).mono ?_); rintro e w3 ⟨rfl, hb3⟩; have HB3 := Aside0.mk ((below_alloc HB2.out _).trans (hb3.mono (below_alloc HB2.out _).size)); have HG3 := Aside0.mk (blk_below (blk_alloc HG2.out _) hb3); clear hb3; have hcw3_0 : w3.cell? ⟨w.heap.size, 0, none⟩ = some (.slice A0 l0.length c0) := (blk_cell HG3.out 0).trans rfl; have hcw3_1 : w3.cell? ⟨w.heap.size, 1, none⟩ = some (.bool true) := (blk_cell HG3.out 1).trans rfl; have hcw3_2 : w3.cell? ⟨w.heap.size, 2, none⟩ = some (.int .i64 sc) := (blk_cell HG3.out 2).trans rfl; have hzw3 := blk_lt HG3.out) | (go_at_call 54; (with_reducible refine (HH.out _ HB3.out).mono ?_); rintro e w4 ⟨rfl, hb4⟩; have HB4 := Aside0.mk (HB3.out.trans (hb4.mono HB3.out.size)); have HG4 := Aside0.mk (blk_below HG3.out hb4); clear hb4; have hcw4_0 : w4.cell? ⟨w.heap.size, 0, none⟩ = some (.slice A0 l0.length c0) := (blk_cell HG4.out 0).trans rfl; have hcw4_1 : w4.cell? ⟨w.heap.size, 1, none⟩ = some (.bool true) := (blk_cell HG4.out 1).trans rfl; have hcw4_2 : w4.cell? ⟨w.heap.size, 2, none⟩ = some (.int .i64 sc) := (blk_cell HG4.out 2).trans rfl; have hzw4 := blk_lt HG4.out) | (go_at_call 53; (with_reducible refine (HD.out _ HB4.out).mono ?_); rintro e w5 ⟨rfl, hb5⟩; have HB5 := Aside0.mk (HB4.out.trans (hb5.mono HB4.out.size)); have HG5 := Aside0.mk (blk_below HG4.out hb5); clear hb5; have hcw5_0 : w5.cell? ⟨w.heap.size, 0, none⟩ = some (.slice A0 l0.length c0) := (blk_cell HG5.out 0).trans rfl; have hcw5_1 : w5.cell? ⟨w.heap.size, 1, none⟩ = some (.bool true) := (blk_cell HG5.out 1).trans rfl; have hcw5_2 : w5.cell? ⟨w.heap.size, 2, none⟩ = some (.int .i64 sc) := (blk_cell HG5.out 2).trans rfl; have hzw5 := blk_lt HG5.out))
       go_ret
       exact ⟨rfl, HB5.out⟩
    ·have k2b : decide (sc ≤ 9) = false := decide_eq_false k2
     rw [if_neg (fun h => k2 h.2.1)]
     go_enter Tryd.func31, Tryd.ntmps31
     go_wp2_with (first | (go_at_call 51; (with_reducible refine HX.out.mono ?_); rintro e w2 ⟨rfl, hb2⟩; have HB2 := Aside0.mk (HB1.out.trans (hb2.mono HB1.out.size)); have HG2 := Aside0.mk (blk_below HG1.out hb2); clear hb2; have hcw2_0 : w2.cell? ⟨w.heap.size, 0, none⟩ = some (.slice A0 l0.length c0) := (blk_cell HG2.out 0).trans rfl; have hcw2_1 : w2.cell? ⟨w.heap.size, 1, none⟩ = some (.bool true) := (blk_cell HG2.out 1).trans rfl; have hcw2_2 : w2.cell? ⟨w.heap.size, 2, none⟩ = some (.int .i64 sc) := (blk_cell HG2.out 2).trans rfl; have hzw2 := blk_lt HG2.out) | (go_at_call 52; (with_reducible refine (HS.out _ (below_alloc HB2.out _)).mono ?_); rintro e w3 ⟨rfl, hb3⟩; have HB3 := Aside0.mk ((below_alloc HB2.out _).trans (hb3.mono (below_alloc HB2.out _).size)); have HG3 := Aside0.mk (blk_below (blk_alloc HG2.out _) hb3); clear hb3; have hcw3_0 : w3.cell? ⟨w.heap.size, 0, none⟩ = some (.slice A0 l0.length c0) := (blk_cell HG3.out 0).trans rfl; have hcw3_1 : w3.cell? ⟨w.heap.size, 1, none⟩ = some (.bool true) := (blk_cell HG3.out 1).trans rfl; have hcw3_2 : w3.cell? ⟨w.heap.size, 2, none⟩ = some (.int .i64 sc) := (blk_cell HG3.out 2).trans rfl; have hzw3 := blk_lt HG3.out) | (go_at_call 54; (with_reducible refine (HH.out _ HB3.out).mono ?_); rintro e w4 ⟨rfl, hb4⟩; have HB4 := Aside0.mk (HB3.out.trans (hb4.mono HB3.out.size)); have HG4 := Aside0.mk (blk_below HG3.out hb4); clear hb4; have hcw4_0 : w4.cell? ⟨w.heap.size, 0, none⟩ = some (.slice A0 l0.length c0) := (blk_cell HG4.out 0).trans rfl; have hcw4_1 : w4.cell? ⟨w.heap.size, 1, none⟩ = some (.bool true) := (blk_cell HG4.out 1).trans rfl; have hcw4_2 : w4.cell? ⟨w.heap.size, 2, none⟩ = some (.int .i64 sc) := (blk_cell HG4.out 2).trans rfl; have hzw4 := blk_lt HG4.out) | (go_at_call 53; (with_reducible refine (HD.out _ HB4.out).mono ?_); rintro e w5 ⟨rfl, hb5⟩; have HB5 := Aside0.mk (HB4.out.trans (hb5.mono HB4.out.size)); have HG5 := Aside0.mk (blk_below HG4.out hb5); clear hb5; have hcw5_0 : w5.cell? ⟨w.heap.size, 0, none⟩ = some (.slice A0 l0.length c0) := (blk_cell HG5.out 0).trans rfl; have hcw5_1 : w5.cell? ⟨w.heap.size, 1, none⟩ = some (.bool true) := (blk_cell HG5.out 1).trans rfl; have hcw5_2 : w5.cell? ⟨w.heap.size, 2, none⟩ = some (.int .i64 sc) := (blk_cell HG5.out 2).trans rfl; have hzw5 := blk_lt HG5.out))
     go_ret
     exact ⟨rfl, HB5.out⟩
   ·have k1b : decide (0 ≤ sc) = false := decide_eq_false k1
    rw [if_neg (fun h => k1 h.1)]
    go_enter Tryd.func31, Tryd.ntmps31
    go_wp2_with (first | (go_at_call 51; (with_reducible refine HX.out.mono ?_); rintro e w2 ⟨rfl, hb2⟩; have HB2 := Aside0.mk (HB1.out.trans (hb2.mono HB1.out.size)); have HG2 := Aside0.mk (blk_below HG1.out hb2); clear hb2; have hcw2_0 : w2.cell? ⟨w.heap.size, 0, none⟩ = some (.slice A0 l0.length c0) := (blk_cell HG2.out 0).trans rfl; have hcw2_1 : w2.cell? ⟨w.heap.size, 1, none⟩ = some (.bool true) := (blk_cell HG2.out 1).trans rfl; have hcw2_2 : w2.cell? ⟨w.heap.size, 2, none⟩ = some (.int .i64 sc) := (blk_cell HG2.out 2).trans rfl; have hzw2 := blk_lt HG2.out) | (go_at_call 52; (with_reducible refine (HS.out _ (below_alloc HB2.out _)).mono ?_); rintro e w3 ⟨rfl, hb3⟩; have HB3 := Aside0.mk ((below_alloc HB2.out _).trans (hb3.mono (below_alloc HB2.out _).size)); have HG3 := Aside0.mk (blk_below (blk_alloc HG2.out _) hb3); clear hb3; have hcw3_0 : w3.cell? ⟨w.heap.size, 0, none⟩ = some (.slice A0 l0.length c0) := (blk_cell HG3.out 0).trans rfl; have hcw3_1 : w3.cell? ⟨w.heap.size, 1, none⟩ = some (.bool true) := (blk_cell HG3.out 1).trans rfl; have hcw3_2 : w3.cell? ⟨w.heap.size, 2, none⟩ = some (.int .i64 sc) := (blk_cell HG3.out 2).trans rfl; have hzw3 := blk_lt HG3.out) | (go_at_call 54; (with_reducible refine (HH.out _ HB3.out).mono ?_); rintro e w4 ⟨rfl, hb4⟩; have HB4 := Aside0.mk (HB3.out.trans (hb4.mono HB3.out.size)); have HG4 := Aside0.mk (blk_below HG3.out hb4); clear hb4; have hcw4_0 : w4.cell? ⟨w.heap.size, 0, none⟩ = some (.slice A0 l0.length c0) := (blk_cell HG4.out 0).trans rfl; have hcw4_1 : w4.cell? ⟨w.heap.size, 1, none⟩ = some (.bool true) := (blk_cell HG4.out 1).trans rfl; have hcw4_2 : w4.cell? ⟨w.heap.size, 2, none⟩ = some (.int .i64 sc) := (blk_cell HG4.out 2).trans rfl; have hzw4 := blk_lt HG4.out) | (go_at_call 53; (with_reducible refine (HD.out _ HB4.out).mono ?_); rintro e w5 ⟨rfl, hb5⟩; have HB5 := Aside0.mk (HB4.out.trans (hb5.mono HB4.out.size)); have HG5 := Aside0.mk (blk_below HG4.out hb5); clear hb5; have hcw5_0 : w5.cell? ⟨w.heap.size, 0, none⟩ = some (.slice A0 l0.length c0) := (blk_cell HG5.out 0).trans rfl; have hcw5_1 : w5.cell? ⟨w.heap.size, 1, none⟩ = some (.bool true) := (blk_cell HG5.out 1).trans rfl; have hcw5_2 : w5.cell? ⟨w.heap.size, 2, none⟩ = some (.int .i64 sc) := (blk_cell HG5.out 2).trans rfl; have hzw5 := blk_lt HG5.out))
    go_ret
    exact ⟨rfl, HB5.out⟩
  ·have k0b : (s == 2) = false := beq_eq_false_iff_ne.mpr k0
   rw [if_neg k0]
   rw [if_neg (fun h => by cases h.1)]
   go_enter Tryd.func31, Tryd.ntmps31
   go_wp2_with (first | (go_at_call 51; (with_reducible refine HX.out.mono ?_); rintro e w2 ⟨rfl, hb2⟩; have HB2 := Aside0.mk (HB1.out.trans (hb2.mono HB1.out.size)); have HG2 := Aside0.mk (blk_below HG1.out hb2); clear hb2; have hcw2_0 : w2.cell? ⟨w.heap.size, 0, none⟩ = some (.slice A0 l0.length c0) := (blk_cell HG2.out 0).trans rfl; have hcw2_1 : w2.cell? ⟨w.heap.size, 1, none⟩ = some (.bool true) := (blk_cell HG2.out 1).trans rfl; have hcw2_2 : w2.cell? ⟨w.heap.size, 2, none⟩ = some (.int .i64 sc) := (blk_cell HG2.out 2).trans rfl; have hzw2 := blk_lt HG2.out) | (go_at_call 52; (with_reducible refine (HS.out _ (below_alloc HB2.out _)).mono ?_); rintro e w3 ⟨rfl, hb3⟩; have HB3 := Aside0.mk ((below_alloc HB2.out _).trans (hb3.mono (below_alloc HB2.out _).size)); have HG3 := Aside0.mk (blk_below (blk_alloc HG2.out _) hb3); clear hb3; have hcw3_0 : w3.cell? ⟨w.heap.size, 0, none⟩ = some (.slice A0 l0.length c0) := (blk_cell HG3.out 0).trans rfl; have hcw3_1 : w3.cell? ⟨w.heap.size, 1, none⟩ = some (.bool true) := (blk_cell HG3.out 1).trans rfl; have hcw3_2 : w3.cell? ⟨w.heap.size, 2, none⟩ = some (.int .i64 sc) := (blk_cell HG3.out 2).trans rfl; have hzw3 := blk_lt HG3.out))
   go_ret
   exact ⟨rfl, HB3.out⟩
theorem pattern_Shape.calls (A0_0 : Option Addr) (c0_0 : Nat) (l0_0 : List (S88)) (a0_1 : Bool) (a0_2 : Int) (r : Int) (w : World) (hGL : GL w) (hr0_0 : Kd.C k88 w A0_0 l0_0.length l0_0) (hc0_0 : l0_0.length ≤ c0_0) (h : pattern_Shape.f l0_0 a0_1 a0_2 = some r) :
  Calls Tryd.prog 31 #[.agg #[.slice A0_0 l0_0.length c0_0, .bool a0_1, .int .i64 a0_2]] w fun e w' => e = .returned (.int .i64 r) ∧ Below w.heap.size w w' := by
 unfold pattern_Shape.f at h
 by_cases hl : l0_0.length ≤ 1000000
 ·rw [if_pos hl] at h
  obtain rfl := Option.some.inj h
  cases a0_1
  ·exact Shape_walk_false A0_0 c0_0 l0_0 a0_2 w hGL hl hr0_0 hc0_0
  ·exact Shape_walk_true A0_0 c0_0 l0_0 a0_2 w hGL hl hr0_0 hc0_0
 ·rw [if_neg hl] at h; exact absurd h (by simp)
end Go.Proofs.YtmbhjogohfcjgaaDoor.P
