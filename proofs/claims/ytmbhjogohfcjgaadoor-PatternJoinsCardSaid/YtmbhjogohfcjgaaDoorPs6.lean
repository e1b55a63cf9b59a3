/- The ways through (Section).shape joined: what it answers. -/
import Derived.Test.YtmbhjogohfcjgaaDoorPs4
import Derived.Test.YtmbhjogohfcjgaaDoorPs5b
namespace Go.Proofs.YtmbhjogohfcjgaaDoor.P
open Go.RowKit Go.Proofs.YtmbhjogohfcjgaaDoorW.PrintWords Go.Proofs.YtmbhjogohfcjgaaDoorW.PrintLast Go.Proofs.YtmbhjogohfcjgaaDoorW.PrintMore
set_option linter.unusedVariables false
set_option linter.unusedSimpArgs false
def shpOf (l : List S88) (n2 n3 n4 n5 n6 n7 n8 n9 : Int) : Int :=
 if 0 < n7 + n8 ∧ 0 < n2 + n3 + n4 + n5 + n6 then 0
 else if n7 = 1 ∧ n8 = 0 then 5
 else if n7 = 0 ∧ 0 < n8 ∧ n9 = 0 then 6
 else if n7 = 0 ∧ n8 = 0 ∧ n2 + n3 + n4 + n5 + n6 = 0 then 1
 else if n6 = 1 ∧ n3 + n4 + n5 = 0 then fracOf l
 else if n6 = 0 ∧ 0 < n2 ∧ n3 ≤ 1 ∧ n4 ≤ 1 ∧ n5 ≤ 1 ∧ n7 = 0 then numOf l
 else 0
set_option maxHeartbeats 1000000 in
theorem shape_walk (A0 : Option Addr) (c0 : Nat) (l0 : List S88) (b : Bool) (sc n0 n1 n2 n3 n4 n5 n6 n7 n8 n9 : Int) (w : World) (hb : ShpB n2 n3 n4 n5 n6 n7 n8 n9) (hl : l0.length ≤ 1000000) (hr : Kd.C k88 w A0 l0.length l0) (hc : l0.length ≤ c0) :
  Calls Tryd.prog 52 #[.agg #[.slice A0 l0.length c0, .bool b, .int .i64 sc], .agg #[.int .i64 n0, .int .i64 n1, .int .i64 n2, .int .i64 n3, .int .i64 n4, .int .i64 n5, .int .i64 n6, .int .i64 n7, .int .i64 n8, .int .i64 n9]] w fun e w' => e = .returned (.int .i64 (shpOf l0 n2 n3 n4 n5 n6 n7 n8 n9)) ∧ Below w.heap.size w w' := by
 obtain ⟨⟨a2, b2⟩, ⟨a3, b3⟩, ⟨a4, b4⟩, ⟨a5, b5⟩, ⟨a6, b6⟩, ⟨a7, b7⟩, ⟨a8, b8⟩, ⟨a9, b9⟩⟩ := id hb
 by_cases ht1 : 0 < n7 + n8
 ·by_cases ht2 : 0 < n2 + n3 + n4 + n5 + n6
  ·have hs : shpOf l0 n2 n3 n4 n5 n6 n7 n8 n9 = 0 := by unfold shpOf; (repeat (first | rw [if_pos (by omega)] | rw [if_neg (by omega)]))
   rw [hs]
   exact shape_w7 A0 c0 l0.length b sc n0 n1 n2 n3 n4 n5 n6 n7 n8 n9 w hb (decide_eq_true ht1) (decide_eq_true ht2)
  ·by_cases ht3 : n7 = 1
   ·by_cases ht4 : n8 = 0
    ·have hs : shpOf l0 n2 n3 n4 n5 n6 n7 n8 n9 = 5 := by unfold shpOf; (repeat (first | rw [if_pos (by omega)] | rw [if_neg (by omega)]))
     rw [hs]
     exact shape_w3 A0 c0 l0.length b sc n0 n1 n2 n3 n4 n5 n6 n7 n8 n9 w hb (decide_eq_true ht1) (decide_eq_false ht2) (beq_iff_eq.mpr ht3) (beq_iff_eq.mpr ht4)
    ·by_cases ht5 : n7 = 0
     ·exfalso; omega
     ·by_cases ht9 : n6 = 1
      ·exfalso; omega
      ·by_cases ht11 : n6 = 0
       ·by_cases ht12 : 0 < n2
        ·exfalso; omega
        ·have hs : shpOf l0 n2 n3 n4 n5 n6 n7 n8 n9 = 0 := by unfold shpOf; (repeat (first | rw [if_pos (by omega)] | rw [if_neg (by omega)]))
         rw [hs]
         exact shape_w4 A0 c0 l0.length b sc n0 n1 n2 n3 n4 n5 n6 n7 n8 n9 w hb (decide_eq_true ht1) (decide_eq_false ht2) (beq_iff_eq.mpr ht3) (beq_eq_false_iff_ne.mpr ht4) (beq_eq_false_iff_ne.mpr ht5) (beq_eq_false_iff_ne.mpr ht9) (beq_iff_eq.mpr ht11) (decide_eq_false ht12)
       ·exfalso; omega
   ·by_cases ht5 : n7 = 0
    ·by_cases ht6 : 0 < n8
     ·by_cases ht7 : n9 = 0
      ·have hs : shpOf l0 n2 n3 n4 n5 n6 n7 n8 n9 = 6 := by unfold shpOf; (repeat (first | rw [if_pos (by omega)] | rw [if_neg (by omega)]))
       rw [hs]
       exact shape_w1 A0 c0 l0.length b sc n0 n1 n2 n3 n4 n5 n6 n7 n8 n9 w hb (decide_eq_true ht1) (decide_eq_false ht2) (beq_eq_false_iff_ne.mpr ht3) (beq_iff_eq.mpr ht5) (decide_eq_true ht6) (beq_iff_eq.mpr ht7)
      ·by_cases ht4 : n8 = 0
       ·exfalso; omega
       ·by_cases ht9 : n6 = 1
        ·exfalso; omega
        ·by_cases ht11 : n6 = 0
         ·by_cases ht12 : 0 < n2
          ·exfalso; omega
          ·have hs : shpOf l0 n2 n3 n4 n5 n6 n7 n8 n9 = 0 := by unfold shpOf; (repeat (first | rw [if_pos (by omega)] | rw [if_neg (by omega)]))
           rw [hs]
           exact shape_w2 A0 c0 l0.length b sc n0 n1 n2 n3 n4 n5 n6 n7 n8 n9 w hb (decide_eq_true ht1) (decide_eq_false ht2) (beq_eq_false_iff_ne.mpr ht3) (beq_iff_eq.mpr ht5) (decide_eq_true ht6) (beq_eq_false_iff_ne.mpr ht7) (beq_eq_false_iff_ne.mpr ht4) (beq_eq_false_iff_ne.mpr ht9) (beq_iff_eq.mpr ht11) (decide_eq_false ht12)
         ·exfalso; omega
     ·exfalso; omega
    ·by_cases ht9 : n6 = 1
     ·exfalso; omega
     ·by_cases ht11 : n6 = 0
      ·by_cases ht12 : 0 < n2
       ·exfalso; omega
       ·have hs : shpOf l0 n2 n3 n4 n5 n6 n7 n8 n9 = 0 := by unfold shpOf; (repeat (first | rw [if_pos (by omega)] | rw [if_neg (by omega)]))
        rw [hs]
        exact shape_w5 A0 c0 l0.length b sc n0 n1 n2 n3 n4 n5 n6 n7 n8 n9 w hb (decide_eq_true ht1) (decide_eq_false ht2) (beq_eq_false_iff_ne.mpr ht3) (beq_eq_false_iff_ne.mpr ht5) (beq_eq_false_iff_ne.mpr ht9) (beq_iff_eq.mpr ht11) (decide_eq_false ht12)
      ·exfalso; omega
 ·by_cases ht3 : n7 = 1
  ·exfalso; omega
  ·by_cases ht5 : n7 = 0
   ·by_cases ht6 : 0 < n8
    ·exfalso; omega
    ·by_cases ht4 : n8 = 0
     ·by_cases ht8 : n2 + n3 + n4 + n5 + n6 = 0
      ·have hs : shpOf l0 n2 n3 n4 n5 n6 n7 n8 n9 = 1 := by unfold shpOf; (repeat (first | rw [if_pos (by omega)] | rw [if_neg (by omega)]))
       rw [hs]
       exact shape_w0 A0 c0 l0.length b sc n0 n1 n2 n3 n4 n5 n6 n7 n8 n9 w hb (decide_eq_false ht1) (beq_eq_false_iff_ne.mpr ht3) (beq_iff_eq.mpr ht5) (decide_eq_false ht6) (beq_iff_eq.mpr ht4) (beq_iff_eq.mpr ht8)
      ·by_cases ht9 : n6 = 1
       ·by_cases ht10 : n3 + n4 + n5 = 0
        ·have hs : shpOf l0 n2 n3 n4 n5 n6 n7 n8 n9 = fracOf l0 := by unfold shpOf; (repeat (first | rw [if_pos (by omega)] | rw [if_neg (by omega)]))
         rw [hs]
         exact shape_frac A0 c0 l0 b sc n0 n1 n2 n3 n4 n5 n6 n7 n8 n9 w hb hl hr hc (decide_eq_false ht1) (beq_eq_false_iff_ne.mpr ht3) (beq_iff_eq.mpr ht5) (decide_eq_false ht6) (beq_iff_eq.mpr ht4) (beq_eq_false_iff_ne.mpr ht8) (beq_iff_eq.mpr ht9) (beq_iff_eq.mpr ht10)
        ·by_cases ht11 : n6 = 0
         ·exfalso; omega
         ·have hs : shpOf l0 n2 n3 n4 n5 n6 n7 n8 n9 = 0 := by unfold shpOf; (repeat (first | rw [if_pos (by omega)] | rw [if_neg (by omega)]))
          rw [hs]
          exact shape_w10 A0 c0 l0.length b sc n0 n1 n2 n3 n4 n5 n6 n7 n8 n9 w hb (decide_eq_false ht1) (beq_eq_false_iff_ne.mpr ht3) (beq_iff_eq.mpr ht5) (decide_eq_false ht6) (beq_iff_eq.mpr ht4) (beq_eq_false_iff_ne.mpr ht8) (beq_iff_eq.mpr ht9) (beq_eq_false_iff_ne.mpr ht10) (beq_eq_false_iff_ne.mpr ht11)
       ·by_cases ht11 : n6 = 0
        ·by_cases ht12 : 0 < n2
         ·by_cases ht13 : n3 ≤ 1
          ·by_cases ht14 : n4 ≤ 1
           ·by_cases ht15 : n5 ≤ 1
            ·have hs : shpOf l0 n2 n3 n4 n5 n6 n7 n8 n9 = numOf l0 := by unfold shpOf; (repeat (first | rw [if_pos (by omega)] | rw [if_neg (by omega)]))
             rw [hs]
             exact shape_num A0 c0 l0 b sc n0 n1 n2 n3 n4 n5 n6 n7 n8 n9 w hb hl hr hc (decide_eq_false ht1) (beq_eq_false_iff_ne.mpr ht3) (beq_iff_eq.mpr ht5) (decide_eq_false ht6) (beq_iff_eq.mpr ht4) (beq_eq_false_iff_ne.mpr ht8) (beq_eq_false_iff_ne.mpr ht9) (beq_iff_eq.mpr ht11) (decide_eq_true ht12) (decide_eq_true ht13) (decide_eq_true ht14) (decide_eq_true ht15)
            ·have hs : shpOf l0 n2 n3 n4 n5 n6 n7 n8 n9 = 0 := by unfold shpOf; (repeat (first | rw [if_pos (by omega)] | rw [if_neg (by omega)]))
             rw [hs]
             exact shape_w12 A0 c0 l0.length b sc n0 n1 n2 n3 n4 n5 n6 n7 n8 n9 w hb (decide_eq_false ht1) (beq_eq_false_iff_ne.mpr ht3) (beq_iff_eq.mpr ht5) (decide_eq_false ht6) (beq_iff_eq.mpr ht4) (beq_eq_false_iff_ne.mpr ht8) (beq_eq_false_iff_ne.mpr ht9) (beq_iff_eq.mpr ht11) (decide_eq_true ht12) (decide_eq_true ht13) (decide_eq_true ht14) (decide_eq_false ht15)
           ·have hs : shpOf l0 n2 n3 n4 n5 n6 n7 n8 n9 = 0 := by unfold shpOf; (repeat (first | rw [if_pos (by omega)] | rw [if_neg (by omega)]))
            rw [hs]
            exact shape_w13 A0 c0 l0.length b sc n0 n1 n2 n3 n4 n5 n6 n7 n8 n9 w hb (decide_eq_false ht1) (beq_eq_false_iff_ne.mpr ht3) (beq_iff_eq.mpr ht5) (decide_eq_false ht6) (beq_iff_eq.mpr ht4) (beq_eq_false_iff_ne.mpr ht8) (beq_eq_false_iff_ne.mpr ht9) (beq_iff_eq.mpr ht11) (decide_eq_true ht12) (decide_eq_true ht13) (decide_eq_false ht14)
          ·have hs : shpOf l0 n2 n3 n4 n5 n6 n7 n8 n9 = 0 := by unfold shpOf; (repeat (first | rw [if_pos (by omega)] | rw [if_neg (by omega)]))
           rw [hs]
           exact shape_w14 A0 c0 l0.length b sc n0 n1 n2 n3 n4 n5 n6 n7 n8 n9 w hb (decide_eq_false ht1) (beq_eq_false_iff_ne.mpr ht3) (beq_iff_eq.mpr ht5) (decide_eq_false ht6) (beq_iff_eq.mpr ht4) (beq_eq_false_iff_ne.mpr ht8) (beq_eq_false_iff_ne.mpr ht9) (beq_iff_eq.mpr ht11) (decide_eq_true ht12) (decide_eq_false ht13)
         ·have hs : shpOf l0 n2 n3 n4 n5 n6 n7 n8 n9 = 0 := by unfold shpOf; (repeat (first | rw [if_pos (by omega)] | rw [if_neg (by omega)]))
          rw [hs]
          exact shape_w9 A0 c0 l0.length b sc n0 n1 n2 n3 n4 n5 n6 n7 n8 n9 w hb (decide_eq_false ht1) (beq_eq_false_iff_ne.mpr ht3) (beq_iff_eq.mpr ht5) (decide_eq_false ht6) (beq_iff_eq.mpr ht4) (beq_eq_false_iff_ne.mpr ht8) (beq_eq_false_iff_ne.mpr ht9) (beq_iff_eq.mpr ht11) (decide_eq_false ht12)
        ·have hs : shpOf l0 n2 n3 n4 n5 n6 n7 n8 n9 = 0 := by unfold shpOf; (repeat (first | rw [if_pos (by omega)] | rw [if_neg (by omega)]))
         rw [hs]
         exact shape_w8 A0 c0 l0.length b sc n0 n1 n2 n3 n4 n5 n6 n7 n8 n9 w hb (decide_eq_false ht1) (beq_eq_false_iff_ne.mpr ht3) (beq_iff_eq.mpr ht5) (decide_eq_false ht6) (beq_iff_eq.mpr ht4) (beq_eq_false_iff_ne.mpr ht8) (beq_eq_false_iff_ne.mpr ht9) (beq_eq_false_iff_ne.mpr ht11)
     ·exfalso; omega
   ·exfalso; omega
end Go.Proofs.YtmbhjogohfcjgaaDoor.P
